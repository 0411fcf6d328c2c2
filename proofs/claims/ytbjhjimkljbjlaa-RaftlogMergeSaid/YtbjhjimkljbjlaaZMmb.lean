/- Texts put together: PAx8, HBack, HBackw, HLast, HTerm, PAx9, HPureTerm, HOver, Copy, HOwn, PAx15, PAx16, PAx17. -/
import Derived.Test.YtbjhjimkljbjlaaZMma
import Derived.Outline
import Derived.Shelf.Abstract
import Derived.Lib.Hide
import Derived.OpenShut
import Derived.Laws.CopyOwn
import Derived.Tactics
import Derived.Below
import Derived.RegionTactic
import Derived.ChangeAlike
import Derived.Deep.DeepCutAuto
-- WRITTEN BY hookprint.py (a program of this session, over the kit's print.py): not typed by hand
namespace Go.Proofs.Ytbjhjimkljbjlaa.PA
open Go.RowKit Go.Proofs.YtbjhjimkljbjlaaW.PrintWords Go.Proofs.YtbjhjimkljbjlaaW.PrintLast Go.Proofs.YtbjhjimkljbjlaaW.PrintMore
attribute [local go_sem] max2_int min2_int max_two min_two max_three min_three max_four min_four   -- for this text's walks alone
set_option linter.unusedVariables false
set_option linter.unusedSimpArgs false

/-! ### folkmootref16_Term: function 16 -/
def folkmootref16_Term.l0 : Nat → Int → Int → Int → Int → Int → Int → List Int → List Int → ByteArray → List (S54) → Option (Int × Int)
  | 0, _, _, _, _, _, _, _, _, _, _ => none
  | k + 1, x1, x6, x161000, x161001, x161002, x161003, x161004, x161005, x161006, x161007 => if x6 < (x161007.length : Int) then (if 0 ≤ x6 then (if ((rd_T54 x161007 x6).f0) = x1 then (some ((rd_T54 x161007 x6).f1, 0)) else (folkmootref16_Term.l0 k x1 (wrap64 (x6 + 1)) x161000 x161001 x161002 x161003 x161004 x161005 x161006 x161007)) else (none)) else (some (0, 150))
def folkmootref16_Term.f (k : Nat) (a0_0 : Int) (a0_1 : Int) (a0_2 : Int) (a0_3 : Int) (l0_4 : List Int) (l0_5 : List Int) (a0_6 : ByteArray) (l0_7 : List (S54)) (a1 : Int) : Option (Int × Int) := (folkmootref16_On.f k a0_0 a0_1 a0_2 a0_3 l0_4 l0_5 a0_6 l0_7).bind fun t161 => (if t161 = true then (if a1 = a0_2 then (some (a0_3, 0)) else (folkmootref16_Term.l0 k a1 0 a0_0 a0_1 a0_2 a0_3 l0_4 l0_5 a0_6 l0_7)) else (some (0, 1)))
set_option maxHeartbeats 8000000 in
set_option maxRecDepth 100000 in
theorem folkmootref16_Term.calls (k : Nat) (a0_0 : Int) (a0_1 : Int) (a0_2 : Int) (a0_3 : Int) (A0_4 : Option Addr) (c0_4 : Nat) (l0_4 : List Int) (A0_5 : Option Addr) (c0_5 : Nat) (l0_5 : List Int) (a0_6 : ByteArray) (A0_7 : Option Addr) (c0_7 : Nat) (l0_7 : List (S54)) (a1 : Int) (r1 : Int) (r2 : Int) (w : World) (hr0_4 : Kd.C (Kd.int .i64) w A0_4 l0_4.length l0_4) (hc0_4 : l0_4.length ≤ c0_4) (hr0_5 : Kd.C (Kd.int .i64) w A0_5 l0_5.length l0_5) (hc0_5 : l0_5.length ≤ c0_5) (hr0_7 : Kd.C k54 w A0_7 l0_7.length l0_7) (hc0_7 : l0_7.length ≤ c0_7) (h : folkmootref16_Term.f k a0_0 a0_1 a0_2 a0_3 l0_4 l0_5 a0_6 l0_7 a1 = some (r1, r2)) :
    Calls Try.prog 16 #[.agg #[.int .i64 a0_0, .int .i64 a0_1, .int .i64 a0_2, .int .i64 a0_3, .slice A0_4 l0_4.length c0_4, .slice A0_5 l0_5.length c0_5, .string a0_6, .slice A0_7 l0_7.length c0_7], .int .i64 a1] w fun e w' => e = .returned (.tuple #[.int .i64 r1, .int .i64 r2]) ∧ Below w.heap.size w w' := by
  have hu30 := Try.underlying30
  have HR0_4 := Aside0.mk hr0_4
  have HC0_4 := Aside0.mk hc0_4
  clear hr0_4 hc0_4
  have HR0_5 := Aside0.mk hr0_5
  have HC0_5 := Aside0.mk hc0_5
  clear hr0_5 hc0_5
  have HR0_7 := Aside0.mk hr0_7
  have HC0_7 := Aside0.mk hc0_7
  clear hr0_7 hc0_7
  have HB := Aside0.mk (Below.refl w.heap.size w)
  have H : ((folkmootref16_On.f k a0_0 a0_1 a0_2 a0_3 l0_4 l0_5 a0_6 l0_7).bind fun t161 => (if t161 = true then (if a1 = a0_2 then (some (a0_3, 0)) else (folkmootref16_Term.l0 k a1 0 a0_0 a0_1 a0_2 a0_3 l0_4 l0_5 a0_6 l0_7)) else (some (0, 1)))) = some (r1, r2) := h
  clear h
  replace H := Option.bind_eq_some_iff.mp H
  obtain ⟨t161, A30, H⟩ := H
  replace H : (if t161 = true then (if a1 = a0_2 then (some (a0_3, 0)) else (folkmootref16_Term.l0 k a1 0 a0_0 a0_1 a0_2 a0_3 l0_4 l0_5 a0_6 l0_7)) else (some (0, 1))) = some (r1, r2) := H
  have A3 := Aside0.mk A30
  clear A30
  by_cases c4 : t161 = true
  · subst c4
    have H1 : (if a1 = a0_2 then (some (a0_3, 0)) else (folkmootref16_Term.l0 k a1 0 a0_0 a0_1 a0_2 a0_3 l0_4 l0_5 a0_6 l0_7)) = some (r1, r2) := by rw [if_pos rfl] at H; exact H
    clear H
    have H := H1
    clear H1
    by_cases c5 : a1 = a0_2
    · rw [if_pos c5] at H
      have c5b0 : (a1 == a0_2) = true := beq_iff_eq.mpr c5
      have c5b1 : (a1 != a0_2) = false := bne_eq_false_iff_eq.mpr c5
      clear c5
      simp only [Option.some.injEq, Prod.mk.injEq] at H
      obtain ⟨rfl, rfl⟩ := H
      go_enter Try.func16, Try.ntmps16
      go_wp2_with (first | ((with_reducible refine gate_dst (N := 2) rfl ?_); refine box_event ?hg (N := 2) ?hd (cs := #[.int .i64 a0_0, .int .i64 a0_1, .int .i64 a0_2, .int .i64 a0_3, .slice A0_4 l0_4.length c0_4, .slice A0_5 l0_5.length c0_5, .string a0_6, .slice A0_7 l0_7.length c0_7]) (t := 30) ?hr ?_; (case hd => rfl); (case hg => rfl); (case hr => first | (go_simp; done) | (go_simp; rfl)); intro gb160 hg w6 hbox hb; have n0_ := Aside0.mk (below_step (by repeat (first | (with_reducible first | exact HB.out | apply below_alloc | apply pw_below_drewN | apply below_drew1) | exact HB.out)) hb); have n1_ := Aside0.mk (hbox); have n2_ := Aside0.mk ((by rw [hg]; exact (below_size (by repeat (first | (with_reducible first | exact HB.out | apply below_alloc | apply pw_below_drewN | apply below_drew1) | exact HB.out))) : w.heap.size ≤ gb160)); have n3_ := Aside0.mk ((by rw [hg]; exact (below_size (by repeat (first | (with_reducible first | exact HB.out | apply below_alloc | apply pw_below_drewN | apply below_drew1) | exact HB.out))) : w.heap.size ≤ gb160)); clear HB; have HB := n0_; have BK160 := n1_; have GW160 := n2_; have GE160 := n3_; clear n0_ n1_ n2_ n3_; clear hb hbox hg; have hcz7_0 : w6.cell? ⟨gb160, 0, none⟩ = some (.int .i64 a0_0) := (blk_cell BK160.out 0).trans rfl; have hcz7_1 : w6.cell? ⟨gb160, 1, none⟩ = some (.int .i64 a0_1) := (blk_cell BK160.out 1).trans rfl; have hcz7_2 : w6.cell? ⟨gb160, 2, none⟩ = some (.int .i64 a0_2) := (blk_cell BK160.out 2).trans rfl; have hcz7_3 : w6.cell? ⟨gb160, 3, none⟩ = some (.int .i64 a0_3) := (blk_cell BK160.out 3).trans rfl; have hcz7_4 : w6.cell? ⟨gb160, 4, none⟩ = some (.slice A0_4 l0_4.length c0_4) := (blk_cell BK160.out 4).trans rfl; have hcz7_5 : w6.cell? ⟨gb160, 5, none⟩ = some (.slice A0_5 l0_5.length c0_5) := (blk_cell BK160.out 5).trans rfl; have hcz7_6 : w6.cell? ⟨gb160, 6, none⟩ = some (.string a0_6) := (blk_cell BK160.out 6).trans rfl; have hcz7_7 : w6.cell? ⟨gb160, 7, none⟩ = some (.slice A0_7 l0_7.length c0_7) := (blk_cell BK160.out 7).trans rfl; have hfz7_0 := blk_frozen BK160.out 0; have hfz7_1 := blk_frozen BK160.out 1; have hfz7_2 := blk_frozen BK160.out 2; have hfz7_3 := blk_frozen BK160.out 3; have hfz7_4 := blk_frozen BK160.out 4; have hfz7_5 := blk_frozen BK160.out 5; have hfz7_6 := blk_frozen BK160.out 6; have hfz7_7 := blk_frozen BK160.out 7) | ((with_reducible refine gate_callee (f := 14) rfl ?_); refine goesL_ (some 8) rfl rfl Try.func14 (by kernel_rfl) rfl #[.agg #[.int .i64 a0_0, .int .i64 a0_1, .int .i64 a0_2, .int .i64 a0_3, .slice A0_4 l0_4.length c0_4, .slice A0_5 l0_5.length c0_5, .string a0_6, .slice A0_7 l0_7.length c0_7]] rfl (by (try simp only [List.map_toArray, List.map_cons, List.map_nil]); first | done | rfl | (simp only [List.length_drop, List.length_take]; rfl)) ?_; (with_reducible refine (folkmootref16_On.calls k a0_0 a0_1 a0_2 a0_3 _ _ l0_4 _ _ l0_5 a0_6 _ _ l0_7 true _ ?side1 ?side2 ?side3 ?side4 ?side5 ?side6 A3.out).mono ?_); (case side1 => repeat (first | exact (Kd.C_below HR0_4.out HB.out) | (with_reducible refine Kd.C_alloc ?_ _) | (with_reducible refine Kd.C_drewN ?_ _) | (with_reducible refine Kd.C_drew ?_))); (case side2 => exact HC0_4.out); (case side3 => repeat (first | exact (Kd.C_below HR0_5.out HB.out) | (with_reducible refine Kd.C_alloc ?_ _) | (with_reducible refine Kd.C_drewN ?_ _) | (with_reducible refine Kd.C_drew ?_))); (case side4 => exact HC0_5.out); (case side5 => repeat (first | exact (Kd.C_below HR0_7.out HB.out) | (with_reducible refine Kd.C_alloc ?_ _) | (with_reducible refine Kd.C_drewN ?_ _) | (with_reducible refine Kd.C_drew ?_))); (case side6 => exact HC0_7.out); rintro e w8 ⟨rfl, hb⟩; refine ⟨_, rfl, ?_⟩; have n0_ := Aside0.mk (blk_below (g := gb160) (o := .cells #[.int .i64 a0_0, .int .i64 a0_1, .int .i64 a0_2, .int .i64 a0_3, .slice A0_4 l0_4.length c0_4, .slice A0_5 l0_5.length c0_5, .string a0_6, .slice A0_7 l0_7.length c0_7] 30 (0, 0)) (by (with_reducible repeat (first | refine blk_drewN ?_ _ | refine blk_drew ?_ | refine blk_alloc ?_ _)); exact BK160.out) hb); have n1_ := Aside0.mk (below_step (by repeat (first | (with_reducible first | exact HB.out | apply below_alloc | apply pw_below_drewN | apply below_drew1 | refine below_set ?_ GE160.out) | exact HB.out)) hb); clear BK160; clear HB; have BK160 := n0_; have HB := n1_; clear n0_ n1_; (try clear hb); (try clear hb2); (try clear hk); (try clear hi); have hcz9_0 : w8.cell? ⟨gb160, 0, none⟩ = some (.int .i64 a0_0) := (blk_cell BK160.out 0).trans rfl; have hcz9_1 : w8.cell? ⟨gb160, 1, none⟩ = some (.int .i64 a0_1) := (blk_cell BK160.out 1).trans rfl; have hcz9_2 : w8.cell? ⟨gb160, 2, none⟩ = some (.int .i64 a0_2) := (blk_cell BK160.out 2).trans rfl; have hcz9_3 : w8.cell? ⟨gb160, 3, none⟩ = some (.int .i64 a0_3) := (blk_cell BK160.out 3).trans rfl; have hcz9_4 : w8.cell? ⟨gb160, 4, none⟩ = some (.slice A0_4 l0_4.length c0_4) := (blk_cell BK160.out 4).trans rfl; have hcz9_5 : w8.cell? ⟨gb160, 5, none⟩ = some (.slice A0_5 l0_5.length c0_5) := (blk_cell BK160.out 5).trans rfl; have hcz9_6 : w8.cell? ⟨gb160, 6, none⟩ = some (.string a0_6) := (blk_cell BK160.out 6).trans rfl; have hcz9_7 : w8.cell? ⟨gb160, 7, none⟩ = some (.slice A0_7 l0_7.length c0_7) := (blk_cell BK160.out 7).trans rfl; have hfz9_0 := blk_frozen BK160.out 0; have hfz9_1 := blk_frozen BK160.out 1; have hfz9_2 := blk_frozen BK160.out 2; have hfz9_3 := blk_frozen BK160.out 3; have hfz9_4 := blk_frozen BK160.out 4; have hfz9_5 := blk_frozen BK160.out 5; have hfz9_6 := blk_frozen BK160.out 6; have hfz9_7 := blk_frozen BK160.out 7))
      go_ret2
      exact ⟨by first | rfl | (simp [errW_none, errW_some] <;> rfl) | (simp [*, errW_none, errW_some] <;> rfl), by repeat (first | (with_reducible first | exact HB.out | apply below_alloc | apply pw_below_drewN | apply below_drew1 | refine below_set ?_ GE160.out) | exact HB.out)⟩
    · rw [if_neg c5] at H
      have c5b0 : (a1 == a0_2) = false := beq_eq_false_iff_ne.mpr c5
      have c5b1 : (a1 != a0_2) = true := bne_iff_ne.mpr c5
      have H' := Aside0.mk H
      clear H
      go_enter Try.func16, Try.ntmps16
      go_wp2_with (first | ((with_reducible refine gate_dst (N := 2) rfl ?_); refine box_event ?hg (N := 2) ?hd (cs := #[.int .i64 a0_0, .int .i64 a0_1, .int .i64 a0_2, .int .i64 a0_3, .slice A0_4 l0_4.length c0_4, .slice A0_5 l0_5.length c0_5, .string a0_6, .slice A0_7 l0_7.length c0_7]) (t := 30) ?hr ?_; (case hd => rfl); (case hg => rfl); (case hr => first | (go_simp; done) | (go_simp; rfl)); intro gb160 hg w10 hbox hb; have n0_ := Aside0.mk (below_step (by repeat (first | (with_reducible first | exact HB.out | apply below_alloc | apply pw_below_drewN | apply below_drew1) | exact HB.out)) hb); have n1_ := Aside0.mk (hbox); have n2_ := Aside0.mk ((by rw [hg]; exact (below_size (by repeat (first | (with_reducible first | exact HB.out | apply below_alloc | apply pw_below_drewN | apply below_drew1) | exact HB.out))) : w.heap.size ≤ gb160)); have n3_ := Aside0.mk ((by rw [hg]; exact (below_size (by repeat (first | (with_reducible first | exact HB.out | apply below_alloc | apply pw_below_drewN | apply below_drew1) | exact HB.out))) : w.heap.size ≤ gb160)); clear HB; have HB := n0_; have BK160 := n1_; have GW160 := n2_; have GE160 := n3_; clear n0_ n1_ n2_ n3_; clear hb hbox hg; have hcz11_0 : w10.cell? ⟨gb160, 0, none⟩ = some (.int .i64 a0_0) := (blk_cell BK160.out 0).trans rfl; have hcz11_1 : w10.cell? ⟨gb160, 1, none⟩ = some (.int .i64 a0_1) := (blk_cell BK160.out 1).trans rfl; have hcz11_2 : w10.cell? ⟨gb160, 2, none⟩ = some (.int .i64 a0_2) := (blk_cell BK160.out 2).trans rfl; have hcz11_3 : w10.cell? ⟨gb160, 3, none⟩ = some (.int .i64 a0_3) := (blk_cell BK160.out 3).trans rfl; have hcz11_4 : w10.cell? ⟨gb160, 4, none⟩ = some (.slice A0_4 l0_4.length c0_4) := (blk_cell BK160.out 4).trans rfl; have hcz11_5 : w10.cell? ⟨gb160, 5, none⟩ = some (.slice A0_5 l0_5.length c0_5) := (blk_cell BK160.out 5).trans rfl; have hcz11_6 : w10.cell? ⟨gb160, 6, none⟩ = some (.string a0_6) := (blk_cell BK160.out 6).trans rfl; have hcz11_7 : w10.cell? ⟨gb160, 7, none⟩ = some (.slice A0_7 l0_7.length c0_7) := (blk_cell BK160.out 7).trans rfl; have hfz11_0 := blk_frozen BK160.out 0; have hfz11_1 := blk_frozen BK160.out 1; have hfz11_2 := blk_frozen BK160.out 2; have hfz11_3 := blk_frozen BK160.out 3; have hfz11_4 := blk_frozen BK160.out 4; have hfz11_5 := blk_frozen BK160.out 5; have hfz11_6 := blk_frozen BK160.out 6; have hfz11_7 := blk_frozen BK160.out 7) | ((with_reducible refine gate_callee (f := 14) rfl ?_); refine goesL_ (some 8) rfl rfl Try.func14 (by kernel_rfl) rfl #[.agg #[.int .i64 a0_0, .int .i64 a0_1, .int .i64 a0_2, .int .i64 a0_3, .slice A0_4 l0_4.length c0_4, .slice A0_5 l0_5.length c0_5, .string a0_6, .slice A0_7 l0_7.length c0_7]] rfl (by (try simp only [List.map_toArray, List.map_cons, List.map_nil]); first | done | rfl | (simp only [List.length_drop, List.length_take]; rfl)) ?_; (with_reducible refine (folkmootref16_On.calls k a0_0 a0_1 a0_2 a0_3 _ _ l0_4 _ _ l0_5 a0_6 _ _ l0_7 true _ ?side1 ?side2 ?side3 ?side4 ?side5 ?side6 A3.out).mono ?_); (case side1 => repeat (first | exact (Kd.C_below HR0_4.out HB.out) | (with_reducible refine Kd.C_alloc ?_ _) | (with_reducible refine Kd.C_drewN ?_ _) | (with_reducible refine Kd.C_drew ?_))); (case side2 => exact HC0_4.out); (case side3 => repeat (first | exact (Kd.C_below HR0_5.out HB.out) | (with_reducible refine Kd.C_alloc ?_ _) | (with_reducible refine Kd.C_drewN ?_ _) | (with_reducible refine Kd.C_drew ?_))); (case side4 => exact HC0_5.out); (case side5 => repeat (first | exact (Kd.C_below HR0_7.out HB.out) | (with_reducible refine Kd.C_alloc ?_ _) | (with_reducible refine Kd.C_drewN ?_ _) | (with_reducible refine Kd.C_drew ?_))); (case side6 => exact HC0_7.out); rintro e w12 ⟨rfl, hb⟩; refine ⟨_, rfl, ?_⟩; have n0_ := Aside0.mk (blk_below (g := gb160) (o := .cells #[.int .i64 a0_0, .int .i64 a0_1, .int .i64 a0_2, .int .i64 a0_3, .slice A0_4 l0_4.length c0_4, .slice A0_5 l0_5.length c0_5, .string a0_6, .slice A0_7 l0_7.length c0_7] 30 (0, 0)) (by (with_reducible repeat (first | refine blk_drewN ?_ _ | refine blk_drew ?_ | refine blk_alloc ?_ _)); exact BK160.out) hb); have n1_ := Aside0.mk (below_step (by repeat (first | (with_reducible first | exact HB.out | apply below_alloc | apply pw_below_drewN | apply below_drew1 | refine below_set ?_ GE160.out) | exact HB.out)) hb); clear BK160; clear HB; have BK160 := n0_; have HB := n1_; clear n0_ n1_; (try clear hb); (try clear hb2); (try clear hk); (try clear hi); have hcz13_0 : w12.cell? ⟨gb160, 0, none⟩ = some (.int .i64 a0_0) := (blk_cell BK160.out 0).trans rfl; have hcz13_1 : w12.cell? ⟨gb160, 1, none⟩ = some (.int .i64 a0_1) := (blk_cell BK160.out 1).trans rfl; have hcz13_2 : w12.cell? ⟨gb160, 2, none⟩ = some (.int .i64 a0_2) := (blk_cell BK160.out 2).trans rfl; have hcz13_3 : w12.cell? ⟨gb160, 3, none⟩ = some (.int .i64 a0_3) := (blk_cell BK160.out 3).trans rfl; have hcz13_4 : w12.cell? ⟨gb160, 4, none⟩ = some (.slice A0_4 l0_4.length c0_4) := (blk_cell BK160.out 4).trans rfl; have hcz13_5 : w12.cell? ⟨gb160, 5, none⟩ = some (.slice A0_5 l0_5.length c0_5) := (blk_cell BK160.out 5).trans rfl; have hcz13_6 : w12.cell? ⟨gb160, 6, none⟩ = some (.string a0_6) := (blk_cell BK160.out 6).trans rfl; have hcz13_7 : w12.cell? ⟨gb160, 7, none⟩ = some (.slice A0_7 l0_7.length c0_7) := (blk_cell BK160.out 7).trans rfl; have hfz13_0 := blk_frozen BK160.out 0; have hfz13_1 := blk_frozen BK160.out 1; have hfz13_2 := blk_frozen BK160.out 2; have hfz13_3 := blk_frozen BK160.out 3; have hfz13_4 := blk_frozen BK160.out 4; have hfz13_5 := blk_frozen BK160.out 5; have hfz13_6 := blk_frozen BK160.out 6; have hfz13_7 := blk_frozen BK160.out 7))
      go_loopg [6] k (fun kq v6 w' => ∃ (x6_1 : Int), v6 = .int .i64 x6_1 ∧ Aside0 (folkmootref16_Term.l0 kq a1 x6_1 a0_0 a0_1 a0_2 a0_3 l0_4 l0_5 a0_6 l0_7 = some (r1, r2)) ∧ Aside0 (kq ≤ k) ∧ Aside0 (w'.heap[gb160]? = some (.cells #[.int .i64 a0_0, .int .i64 a0_1, .int .i64 a0_2, .int .i64 a0_3, (.slice A0_4 l0_4.length c0_4), (.slice A0_5 l0_5.length c0_5), .string a0_6, (.slice A0_7 l0_7.length c0_7)] 30 (0, 0))) ∧ Aside0 (Below w.heap.size w w'))
      case atStart => exact ⟨(0), (by first | rfl | (simp; done) | (simp [*]; done)), H', ⟨Nat.le_refl _⟩, ⟨by (with_reducible repeat (first | refine blk_drewN ?_ _ | refine blk_drew ?_ | refine blk_alloc ?_ _)); exact BK160.out⟩, ⟨by repeat (first | (with_reducible first | exact HB.out | apply below_alloc | apply pw_below_drewN | apply below_drew1 | refine below_set ?_ GE160.out) | exact HB.out)⟩⟩
      case round =>
        clear H'
        try clear c1
        try clear p2
        try clear c4
        try clear c5
        try clear c5b0
        try clear c5b1
        try clear hcz11_0
        try clear hcz11_1
        try clear hcz11_2
        try clear hcz11_3
        try clear hcz11_4
        try clear hcz11_5
        try clear hcz11_6
        try clear hcz11_7
        try clear hcz13_0
        try clear hcz13_1
        try clear hcz13_2
        try clear hcz13_3
        try clear hcz13_4
        try clear hcz13_5
        try clear hcz13_6
        try clear hcz13_7
        try clear hcz7_0
        try clear hcz7_1
        try clear hcz7_2
        try clear hcz7_3
        try clear hcz7_4
        try clear hcz7_5
        try clear hcz7_6
        try clear hcz7_7
        try clear hcz9_0
        try clear hcz9_1
        try clear hcz9_2
        try clear hcz9_3
        try clear hcz9_4
        try clear hcz9_5
        try clear hcz9_6
        try clear hcz9_7
        try clear hfz11_0
        try clear hfz11_1
        try clear hfz11_2
        try clear hfz11_3
        try clear hfz11_4
        try clear hfz11_5
        try clear hfz11_6
        try clear hfz11_7
        try clear hfz13_0
        try clear hfz13_1
        try clear hfz13_2
        try clear hfz13_3
        try clear hfz13_4
        try clear hfz13_5
        try clear hfz13_6
        try clear hfz13_7
        try clear hfz7_0
        try clear hfz7_1
        try clear hfz7_2
        try clear hfz7_3
        try clear hfz7_4
        try clear hfz7_5
        try clear hfz7_6
        try clear hfz7_7
        try clear hfz9_0
        try clear hfz9_1
        try clear hfz9_2
        try clear hfz9_3
        try clear hfz9_4
        try clear hfz9_5
        try clear hfz9_6
        try clear hfz9_7
        obtain ⟨x6_1, rfl, HA, HK1, BK160, HB⟩ := hrel
        cases gk with
        | zero => exact absurd HA.out (by simp [folkmootref16_Term.l0])
        | succ k1 =>
          have H := HA.out
          clear HA
          simp only [folkmootref16_Term.l0] at H
          by_cases c14 : x6_1 < (l0_7.length : Int)
          · rw [if_pos c14] at H
            have c14b0 : decide (x6_1 < (l0_7.length : Int)) = true := decide_eq_true c14
            clear c14
            by_cases c15 : 0 ≤ x6_1
            · rw [if_pos c15] at H
              have c15b0 : decide (0 ≤ x6_1) = true := decide_eq_true c15
              clear c15
              by_cases c16 : ((rd_T54 l0_7 x6_1).f0) = a1
              · rw [if_pos c16] at H
                have c16b0 : (((rd_T54 l0_7 x6_1).f0) == a1) = true := beq_iff_eq.mpr c16
                have c16b1 : (((rd_T54 l0_7 x6_1).f0) != a1) = false := bne_eq_false_iff_eq.mpr c16
                clear c16
                simp only [Option.some.injEq, Prod.mk.injEq] at H
                obtain ⟨rfl, rfl⟩ := H
                have hcz17_0 : wr.cell? ⟨gb160, 0, none⟩ = some (.int .i64 a0_0) := (blk_cell BK160.out 0).trans rfl
                have hcz17_1 : wr.cell? ⟨gb160, 1, none⟩ = some (.int .i64 a0_1) := (blk_cell BK160.out 1).trans rfl
                have hcz17_2 : wr.cell? ⟨gb160, 2, none⟩ = some (.int .i64 a0_2) := (blk_cell BK160.out 2).trans rfl
                have hcz17_3 : wr.cell? ⟨gb160, 3, none⟩ = some (.int .i64 a0_3) := (blk_cell BK160.out 3).trans rfl
                have hcz17_4 : wr.cell? ⟨gb160, 4, none⟩ = some (.slice A0_4 l0_4.length c0_4) := (blk_cell BK160.out 4).trans rfl
                have hcz17_5 : wr.cell? ⟨gb160, 5, none⟩ = some (.slice A0_5 l0_5.length c0_5) := (blk_cell BK160.out 5).trans rfl
                have hcz17_6 : wr.cell? ⟨gb160, 6, none⟩ = some (.string a0_6) := (blk_cell BK160.out 6).trans rfl
                have hcz17_7 : wr.cell? ⟨gb160, 7, none⟩ = some (.slice A0_7 l0_7.length c0_7) := (blk_cell BK160.out 7).trans rfl
                have hfz17_0 := blk_frozen BK160.out 0
                have hfz17_1 := blk_frozen BK160.out 1
                have hfz17_2 := blk_frozen BK160.out 2
                have hfz17_3 := blk_frozen BK160.out 3
                have hfz17_4 := blk_frozen BK160.out 4
                have hfz17_5 := blk_frozen BK160.out 5
                have hfz17_6 := blk_frozen BK160.out 6
                have hfz17_7 := blk_frozen BK160.out 7
                have p162 : 0 ≤ (x6_1 : Int) := of_decide_eq_true (by first | (with_reducible assumption) | assumption)
                have q162 : x6_1 < (l0_7.length : Int) := of_decide_eq_true (by first | (with_reducible assumption) | assumption)
                obtain ⟨ad162, A162_3, c162_3, A162_4, c162_4, e162, hx162_0, hx162_1, hx162_2, hx162_3, hx162_4, hx162_5, hl162_3, hi162_3, hl162_4, hi162_4⟩ := at_T54 HR0_7.out x6_1 p162 q162
                cases e162
                replace hx162_0 := (HB.out.cell (World.block_lt_of_cell? w _ hx162_0)).trans hx162_0
                replace hx162_1 := (HB.out.cell (World.block_lt_of_cell? w _ hx162_1)).trans hx162_1
                replace hx162_2 := (HB.out.cell (World.block_lt_of_cell? w _ hx162_2)).trans hx162_2
                replace hx162_3 := (HB.out.cell (World.block_lt_of_cell? w _ hx162_3)).trans hx162_3
                replace hx162_4 := (HB.out.cell (World.block_lt_of_cell? w _ hx162_4)).trans hx162_4
                replace hx162_5 := (HB.out.cell (World.block_lt_of_cell? w _ hx162_5)).trans hx162_5
                have HR162_3 := Aside0.mk hi162_3
                have HC162_3 := Aside0.mk hl162_3
                clear hi162_3 hl162_3
                have HR162_4 := Aside0.mk hi162_4
                have HC162_4 := Aside0.mk hl162_4
                clear hi162_4 hl162_4
                replace p162 := eq_true p162
                replace q162 := eq_true q162
                have p163 : 0 ≤ (x6_1 : Int) := of_decide_eq_true (by first | (with_reducible assumption) | assumption)
                have q163 : x6_1 < (l0_7.length : Int) := of_decide_eq_true (by first | (with_reducible assumption) | assumption)
                obtain ⟨ad163, A163_3, c163_3, A163_4, c163_4, e163, hx163_0, hx163_1, hx163_2, hx163_3, hx163_4, hx163_5, hl163_3, hi163_3, hl163_4, hi163_4⟩ := at_T54 HR0_7.out x6_1 p163 q163
                obtain rfl : ad162 = ad163 := (by injection e163)
                replace hx163_0 := (HB.out.cell (World.block_lt_of_cell? w _ hx163_0)).trans hx163_0
                replace hx163_1 := (HB.out.cell (World.block_lt_of_cell? w _ hx163_1)).trans hx163_1
                replace hx163_2 := (HB.out.cell (World.block_lt_of_cell? w _ hx163_2)).trans hx163_2
                replace hx163_3 := (HB.out.cell (World.block_lt_of_cell? w _ hx163_3)).trans hx163_3
                replace hx163_4 := (HB.out.cell (World.block_lt_of_cell? w _ hx163_4)).trans hx163_4
                replace hx163_5 := (HB.out.cell (World.block_lt_of_cell? w _ hx163_5)).trans hx163_5
                have HR163_3 := Aside0.mk hi163_3
                have HC163_3 := Aside0.mk hl163_3
                clear hi163_3 hl163_3
                have HR163_4 := Aside0.mk hi163_4
                have HC163_4 := Aside0.mk hl163_4
                clear hi163_4 hl163_4
                replace p163 := eq_true p163
                replace q163 := eq_true q163
                have ea_ := Option.some.inj (hx162_3.symm.trans hx163_3)
                injection ea_ with ea_ en_ ec_
                subst ea_
                subst ec_
                clear en_
                have ea_ := Option.some.inj (hx162_4.symm.trans hx163_4)
                injection ea_ with ea_ en_ ec_
                subst ea_
                subst ec_
                clear en_
                go_wp2
                go_ret2
                exact ⟨by first | rfl | (simp [errW_none, errW_some] <;> rfl) | (simp [*, errW_none, errW_some] <;> rfl), by repeat (first | (with_reducible first | exact HB.out | apply below_alloc | apply pw_below_drewN | apply below_drew1 | refine below_set ?_ GE160.out) | exact HB.out)⟩
              · rw [if_neg c16] at H
                have c16b0 : (((rd_T54 l0_7 x6_1).f0) == a1) = false := beq_eq_false_iff_ne.mpr c16
                have c16b1 : (((rd_T54 l0_7 x6_1).f0) != a1) = true := bne_iff_ne.mpr c16
                have H' := Aside0.mk H
                clear H
                have hcz18_0 : wr.cell? ⟨gb160, 0, none⟩ = some (.int .i64 a0_0) := (blk_cell BK160.out 0).trans rfl
                have hcz18_1 : wr.cell? ⟨gb160, 1, none⟩ = some (.int .i64 a0_1) := (blk_cell BK160.out 1).trans rfl
                have hcz18_2 : wr.cell? ⟨gb160, 2, none⟩ = some (.int .i64 a0_2) := (blk_cell BK160.out 2).trans rfl
                have hcz18_3 : wr.cell? ⟨gb160, 3, none⟩ = some (.int .i64 a0_3) := (blk_cell BK160.out 3).trans rfl
                have hcz18_4 : wr.cell? ⟨gb160, 4, none⟩ = some (.slice A0_4 l0_4.length c0_4) := (blk_cell BK160.out 4).trans rfl
                have hcz18_5 : wr.cell? ⟨gb160, 5, none⟩ = some (.slice A0_5 l0_5.length c0_5) := (blk_cell BK160.out 5).trans rfl
                have hcz18_6 : wr.cell? ⟨gb160, 6, none⟩ = some (.string a0_6) := (blk_cell BK160.out 6).trans rfl
                have hcz18_7 : wr.cell? ⟨gb160, 7, none⟩ = some (.slice A0_7 l0_7.length c0_7) := (blk_cell BK160.out 7).trans rfl
                have hfz18_0 := blk_frozen BK160.out 0
                have hfz18_1 := blk_frozen BK160.out 1
                have hfz18_2 := blk_frozen BK160.out 2
                have hfz18_3 := blk_frozen BK160.out 3
                have hfz18_4 := blk_frozen BK160.out 4
                have hfz18_5 := blk_frozen BK160.out 5
                have hfz18_6 := blk_frozen BK160.out 6
                have hfz18_7 := blk_frozen BK160.out 7
                have p162 : 0 ≤ (x6_1 : Int) := of_decide_eq_true (by first | (with_reducible assumption) | assumption)
                have q162 : x6_1 < (l0_7.length : Int) := of_decide_eq_true (by first | (with_reducible assumption) | assumption)
                obtain ⟨ad162, A162_3, c162_3, A162_4, c162_4, e162, hx162_0, hx162_1, hx162_2, hx162_3, hx162_4, hx162_5, hl162_3, hi162_3, hl162_4, hi162_4⟩ := at_T54 HR0_7.out x6_1 p162 q162
                cases e162
                replace hx162_0 := (HB.out.cell (World.block_lt_of_cell? w _ hx162_0)).trans hx162_0
                replace hx162_1 := (HB.out.cell (World.block_lt_of_cell? w _ hx162_1)).trans hx162_1
                replace hx162_2 := (HB.out.cell (World.block_lt_of_cell? w _ hx162_2)).trans hx162_2
                replace hx162_3 := (HB.out.cell (World.block_lt_of_cell? w _ hx162_3)).trans hx162_3
                replace hx162_4 := (HB.out.cell (World.block_lt_of_cell? w _ hx162_4)).trans hx162_4
                replace hx162_5 := (HB.out.cell (World.block_lt_of_cell? w _ hx162_5)).trans hx162_5
                have HR162_3 := Aside0.mk hi162_3
                have HC162_3 := Aside0.mk hl162_3
                clear hi162_3 hl162_3
                have HR162_4 := Aside0.mk hi162_4
                have HC162_4 := Aside0.mk hl162_4
                clear hi162_4 hl162_4
                replace p162 := eq_true p162
                replace q162 := eq_true q162
                go_wp2
                go_roundg k1
                case measure => have := HK1.out; omega
                case rel => exact ⟨(wrap64 (x6_1 + 1)), (by first | rfl | (simp; done) | (simp [*]; done)), H', ⟨by have := HK1.out; omega⟩, ⟨by (with_reducible repeat (first | refine blk_drewN ?_ _ | refine blk_drew ?_ | refine blk_alloc ?_ _)); exact BK160.out⟩, ⟨by repeat (first | (with_reducible first | exact HB.out | apply below_alloc | apply pw_below_drewN | apply below_drew1 | refine below_set ?_ GE160.out) | exact HB.out)⟩⟩
            · rw [if_neg c15] at H
              exact absurd H (by simp)
          · rw [if_neg c14] at H
            have c14b0 : decide (x6_1 < (l0_7.length : Int)) = false := decide_eq_false c14
            clear c14
            simp only [Option.some.injEq, Prod.mk.injEq] at H
            obtain ⟨rfl, rfl⟩ := H
            have hcz19_0 : wr.cell? ⟨gb160, 0, none⟩ = some (.int .i64 a0_0) := (blk_cell BK160.out 0).trans rfl
            have hcz19_1 : wr.cell? ⟨gb160, 1, none⟩ = some (.int .i64 a0_1) := (blk_cell BK160.out 1).trans rfl
            have hcz19_2 : wr.cell? ⟨gb160, 2, none⟩ = some (.int .i64 a0_2) := (blk_cell BK160.out 2).trans rfl
            have hcz19_3 : wr.cell? ⟨gb160, 3, none⟩ = some (.int .i64 a0_3) := (blk_cell BK160.out 3).trans rfl
            have hcz19_4 : wr.cell? ⟨gb160, 4, none⟩ = some (.slice A0_4 l0_4.length c0_4) := (blk_cell BK160.out 4).trans rfl
            have hcz19_5 : wr.cell? ⟨gb160, 5, none⟩ = some (.slice A0_5 l0_5.length c0_5) := (blk_cell BK160.out 5).trans rfl
            have hcz19_6 : wr.cell? ⟨gb160, 6, none⟩ = some (.string a0_6) := (blk_cell BK160.out 6).trans rfl
            have hcz19_7 : wr.cell? ⟨gb160, 7, none⟩ = some (.slice A0_7 l0_7.length c0_7) := (blk_cell BK160.out 7).trans rfl
            have hfz19_0 := blk_frozen BK160.out 0
            have hfz19_1 := blk_frozen BK160.out 1
            have hfz19_2 := blk_frozen BK160.out 2
            have hfz19_3 := blk_frozen BK160.out 3
            have hfz19_4 := blk_frozen BK160.out 4
            have hfz19_5 := blk_frozen BK160.out 5
            have hfz19_6 := blk_frozen BK160.out 6
            have hfz19_7 := blk_frozen BK160.out 7
            go_wp2
            go_ret2
            exact ⟨by first | rfl | (simp [errW_none, errW_some] <;> rfl) | (simp [*, errW_none, errW_some] <;> rfl), by repeat (first | (with_reducible first | exact HB.out | apply below_alloc | apply pw_below_drewN | apply below_drew1 | refine below_set ?_ GE160.out) | exact HB.out)⟩
  · replace c4 := Bool.eq_false_iff.mpr c4
    subst c4
    have H1 : (some (0, 1)) = some (r1, r2) := by rw [if_neg (show ¬ (false = true) by decide)] at H; exact H
    clear H
    have H := H1
    clear H1
    simp only [Option.some.injEq, Prod.mk.injEq] at H
    obtain ⟨rfl, rfl⟩ := H
    go_enter Try.func16, Try.ntmps16
    go_wp2_with (first | ((with_reducible refine gate_dst (N := 2) rfl ?_); refine box_event ?hg (N := 2) ?hd (cs := #[.int .i64 a0_0, .int .i64 a0_1, .int .i64 a0_2, .int .i64 a0_3, .slice A0_4 l0_4.length c0_4, .slice A0_5 l0_5.length c0_5, .string a0_6, .slice A0_7 l0_7.length c0_7]) (t := 30) ?hr ?_; (case hd => rfl); (case hg => rfl); (case hr => first | (go_simp; done) | (go_simp; rfl)); intro gb160 hg w20 hbox hb; have n0_ := Aside0.mk (below_step (by repeat (first | (with_reducible first | exact HB.out | apply below_alloc | apply pw_below_drewN | apply below_drew1) | exact HB.out)) hb); have n1_ := Aside0.mk (hbox); have n2_ := Aside0.mk ((by rw [hg]; exact (below_size (by repeat (first | (with_reducible first | exact HB.out | apply below_alloc | apply pw_below_drewN | apply below_drew1) | exact HB.out))) : w.heap.size ≤ gb160)); have n3_ := Aside0.mk ((by rw [hg]; exact (below_size (by repeat (first | (with_reducible first | exact HB.out | apply below_alloc | apply pw_below_drewN | apply below_drew1) | exact HB.out))) : w.heap.size ≤ gb160)); clear HB; have HB := n0_; have BK160 := n1_; have GW160 := n2_; have GE160 := n3_; clear n0_ n1_ n2_ n3_; clear hb hbox hg; have hcz21_0 : w20.cell? ⟨gb160, 0, none⟩ = some (.int .i64 a0_0) := (blk_cell BK160.out 0).trans rfl; have hcz21_1 : w20.cell? ⟨gb160, 1, none⟩ = some (.int .i64 a0_1) := (blk_cell BK160.out 1).trans rfl; have hcz21_2 : w20.cell? ⟨gb160, 2, none⟩ = some (.int .i64 a0_2) := (blk_cell BK160.out 2).trans rfl; have hcz21_3 : w20.cell? ⟨gb160, 3, none⟩ = some (.int .i64 a0_3) := (blk_cell BK160.out 3).trans rfl; have hcz21_4 : w20.cell? ⟨gb160, 4, none⟩ = some (.slice A0_4 l0_4.length c0_4) := (blk_cell BK160.out 4).trans rfl; have hcz21_5 : w20.cell? ⟨gb160, 5, none⟩ = some (.slice A0_5 l0_5.length c0_5) := (blk_cell BK160.out 5).trans rfl; have hcz21_6 : w20.cell? ⟨gb160, 6, none⟩ = some (.string a0_6) := (blk_cell BK160.out 6).trans rfl; have hcz21_7 : w20.cell? ⟨gb160, 7, none⟩ = some (.slice A0_7 l0_7.length c0_7) := (blk_cell BK160.out 7).trans rfl; have hfz21_0 := blk_frozen BK160.out 0; have hfz21_1 := blk_frozen BK160.out 1; have hfz21_2 := blk_frozen BK160.out 2; have hfz21_3 := blk_frozen BK160.out 3; have hfz21_4 := blk_frozen BK160.out 4; have hfz21_5 := blk_frozen BK160.out 5; have hfz21_6 := blk_frozen BK160.out 6; have hfz21_7 := blk_frozen BK160.out 7) | ((with_reducible refine gate_callee (f := 14) rfl ?_); refine goesL_ (some 8) rfl rfl Try.func14 (by kernel_rfl) rfl #[.agg #[.int .i64 a0_0, .int .i64 a0_1, .int .i64 a0_2, .int .i64 a0_3, .slice A0_4 l0_4.length c0_4, .slice A0_5 l0_5.length c0_5, .string a0_6, .slice A0_7 l0_7.length c0_7]] rfl (by (try simp only [List.map_toArray, List.map_cons, List.map_nil]); first | done | rfl | (simp only [List.length_drop, List.length_take]; rfl)) ?_; (with_reducible refine (folkmootref16_On.calls k a0_0 a0_1 a0_2 a0_3 _ _ l0_4 _ _ l0_5 a0_6 _ _ l0_7 false _ ?side1 ?side2 ?side3 ?side4 ?side5 ?side6 A3.out).mono ?_); (case side1 => repeat (first | exact (Kd.C_below HR0_4.out HB.out) | (with_reducible refine Kd.C_alloc ?_ _) | (with_reducible refine Kd.C_drewN ?_ _) | (with_reducible refine Kd.C_drew ?_))); (case side2 => exact HC0_4.out); (case side3 => repeat (first | exact (Kd.C_below HR0_5.out HB.out) | (with_reducible refine Kd.C_alloc ?_ _) | (with_reducible refine Kd.C_drewN ?_ _) | (with_reducible refine Kd.C_drew ?_))); (case side4 => exact HC0_5.out); (case side5 => repeat (first | exact (Kd.C_below HR0_7.out HB.out) | (with_reducible refine Kd.C_alloc ?_ _) | (with_reducible refine Kd.C_drewN ?_ _) | (with_reducible refine Kd.C_drew ?_))); (case side6 => exact HC0_7.out); rintro e w22 ⟨rfl, hb⟩; refine ⟨_, rfl, ?_⟩; have n0_ := Aside0.mk (blk_below (g := gb160) (o := .cells #[.int .i64 a0_0, .int .i64 a0_1, .int .i64 a0_2, .int .i64 a0_3, .slice A0_4 l0_4.length c0_4, .slice A0_5 l0_5.length c0_5, .string a0_6, .slice A0_7 l0_7.length c0_7] 30 (0, 0)) (by (with_reducible repeat (first | refine blk_drewN ?_ _ | refine blk_drew ?_ | refine blk_alloc ?_ _)); exact BK160.out) hb); have n1_ := Aside0.mk (below_step (by repeat (first | (with_reducible first | exact HB.out | apply below_alloc | apply pw_below_drewN | apply below_drew1 | refine below_set ?_ GE160.out) | exact HB.out)) hb); clear BK160; clear HB; have BK160 := n0_; have HB := n1_; clear n0_ n1_; (try clear hb); (try clear hb2); (try clear hk); (try clear hi)))
    go_ret2
    exact ⟨by first | rfl | (simp [errW_none, errW_some] <;> rfl) | (simp [*, errW_none, errW_some] <;> rfl), by repeat (first | (with_reducible first | exact HB.out | apply below_alloc | apply pw_below_drewN | apply below_drew1 | refine below_set ?_ GE160.out) | exact HB.out)⟩

end Go.Proofs.Ytbjhjimkljbjlaa.PA
/- slices.Backward over a row of entries: its iterator's contract, over the row's raw cells. -/
namespace Go.Proofs.YtbjhjimkljbjlaaI
open Go Go.RowKit Go.Proofs.Ytbjhjimkljbjlaa Go.Proofs.YtbjhjimkljbjlaaW.PrintWords
attribute [local go_sem] Oper.semAt_some

def upto {α : Type} (f : Nat → α) (k : Nat) : List α := (List.range k).map f
theorem upto_succ {α : Type} (f : Nat → α) (k : Nat) : upto f (k + 1) = upto f k ++ [f k] := by simp [upto, List.range_succ]
theorem upto_length {α : Type} (f : Nat → α) (k : Nat) : (upto f k).length = k := by simp [upto]

set_option maxRecDepth 100000 in
set_option maxHeartbeats 2000000 in
theorem back_loop (F : Fence) (n : Nat) (h58 : F.fn 58) (hro : F.round = none) (hn : 1 ≤ n) (l B Bs len cap : Nat) (p : Nat → Prop) (ad : Addr) (cs : Nat → List Value) (hm : len ≤ 9223372036854775807) (hc6 : ∀ j, j < len → (cs j).length = 6)
    (J Jx : List Nat → World → Prop) (had : p ad.block) (hBs : p Bs)
    (W : World) (hB : B = W.heap.size)
    (hY : ∀ pre x W1, x < len → J pre W1 → pre.length < len → B ≤ W1.heap.size → YieldAt F (n - 1) Try.prog l #[.int .i64 (x : Nat), .agg (cs x).toArray] W1 fun e W' =>
      Mid p B W1 W' ∧ ((e = .returned (.bool true) ∧ J (pre ++ [x]) W') ∨ (e = .returned (.bool false) ∧ Jx (pre ++ [x]) W')))
    (hcB : W.cell? ⟨Bs, 0, none⟩ = some (.slice (some ad) len cap)) (hc : ∀ j, j < len → ∀ i u, (cs j)[i]? = some u → W.cell? (ad.add (j * 6 + i)) = some u) (h0 : J [] W) :
    CallsIn F n Try.prog 58 #[.func (.yield l) #[] #[], .pointer (some ⟨Bs, 0, none⟩)] W fun e W' => (∃ v, e = .returned v) ∧ W.heap.size ≤ W'.heap.size ∧
      ((∃ xs, xs = upto (fun k => len - 1 - k) len ∧ J xs W') ∨ (∃ pre, (∃ k, k ≤ len ∧ pre = upto (fun k => len - 1 - k) k) ∧ Jx pre W')) := by
  refine callsIn_of_wp Try.func58 rfl h58 ?_ hro
  simp only [Try.ntmps58, List.size_toArray, List.length_cons, List.length_nil, Nat.reduceAdd, Nat.reduceSub, Array.replicate_succ, Array.replicate_zero, List.push_toArray, List.append_toArray, List.nil_append, List.cons_append]
  gi_wp2
  gi_loopw [3] (fun i wr => ∃ r : Nat, r ≤ len ∧ i = .int .i64 ((r : Int) - 1) ∧ J (upto (fun k => len - 1 - k) (len - r)) wr ∧ Mid p B W wr)
    (fun i _ => (intOf i + 1).toNat)
  case atStart => exact ⟨len, Nat.le_refl _, rfl, by rw [Nat.sub_self]; exact h0, Mid.refl _ _ _⟩
  case round =>
    obtain ⟨r, hr, rfl, hJs, hmid⟩ := hrel
    cases r with
    | zero =>
      gi_wp2
      go_end0
      exact ⟨⟨_, rfl⟩, hmid.size, .inl ⟨_, rfl, by simpa using hJs⟩⟩
    | succ j =>
      have ej : (((j + 1 : Nat) : Int) - 1) = (j : Int) := by omega
      rw [ej]
      have hlt : j < len := by omega
      have hj9 : j ≤ 9223372036854775807 := by omega
      obtain ⟨u0, u1, u2, u3, u4, u5, hcs⟩ : ∃ u0 u1 u2 u3 u4 u5, cs j = [u0, u1, u2, u3, u4, u5] := by
        have h6 := hc6 j hlt
        match hh : cs j, h6 with
        | [a, b, c, d, e, f], _ => exact ⟨a, b, c, d, e, f, rfl⟩
      have cell : ∀ i u, (cs j)[i]? = some u → wr.cell? (ad.add (j * 6 + i)) = some u := fun i u hu =>
        hmid.cell (q := ad.add (j * 6 + i)) (.inl (by unfold Addr.add; split <;> exact had)) (hc j hlt i u hu)
      rw [hcs] at cell
      have k0 := cell 0 u0 rfl
      have k1 := cell 1 u1 rfl
      have k2 := cell 2 u2 rfl
      have k3 := cell 3 u3 rfl
      have k4 := cell 4 u4 rfl
      have k5 := cell 5 u5 rfl
      rw [Nat.add_zero] at k0
      rw [add_field _ _ 1 (by omega)] at k1
      rw [add_field _ _ 2 (by omega)] at k2
      rw [add_field _ _ 3 (by omega)] at k3
      rw [add_field _ _ 4 (by omega)] at k4
      rw [add_field _ _ 5 (by omega)] at k5
      have hBw : wr.cell? ⟨Bs, 0, none⟩ = some (.slice (some ad) len cap) := by
        exact hmid.cell (q := ⟨Bs, 0, none⟩) (.inl hBs) hcB
      obtain ⟨fn, tmps, assign, body, hy, hR⟩ := hY _ j wr hlt hJs (by rw [upto_length]; omega) (by have := hmid.size; omega)
      rw [hcs] at hy
      gi_wp2
      refine hR.mono ?_
      rintro e W3 ⟨hm3, ⟨rfl, hJ3⟩ | ⟨rfl, hJx3⟩⟩
      · gi_wp2
        go_roundw
        case rel => exact ⟨j, by omega, by simp, by rw [show len - j = (len - (j + 1)) + 1 from by omega, upto_succ, show len - 1 - (len - (j + 1)) = j from by omega]; exact hJ3, hmid.trans hm3⟩
        case measure => simp [intOf]
      · gi_wp2
        refine bodyPost_ret (results_none rfl _ _ _) rfl ?_
        exact ⟨⟨_, rfl⟩, (hmid.trans hm3).size, .inr ⟨_, ⟨len - j, by omega, by rw [show len - j = (len - (j + 1)) + 1 from by omega, upto_succ, show len - 1 - (len - (j + 1)) = j from by omega]⟩, hJx3⟩⟩

set_option maxRecDepth 100000 in
set_option maxHeartbeats 2000000 in
/-- At a row without an element (a nil one, too). -/
theorem back_none (F : Fence) (n : Nat) (h58 : F.fn 58) (hro : F.round = none) (l Bs cap : Nat) (A : Option Addr)
    (J Jx : List Nat → World → Prop) (W : World) (hcB : W.cell? ⟨Bs, 0, none⟩ = some (.slice A 0 cap)) (h0 : J [] W) :
    CallsIn F n Try.prog 58 #[.func (.yield l) #[] #[], .pointer (some ⟨Bs, 0, none⟩)] W fun e W' => (∃ v, e = .returned v) ∧ W.heap.size ≤ W'.heap.size ∧
      ((∃ xs, xs = upto (fun k => 0 - 1 - k) 0 ∧ J xs W') ∨ (∃ pre, (∃ k, k ≤ 0 ∧ pre = upto (fun k => 0 - 1 - k) k) ∧ Jx pre W')) := by
  refine callsIn_of_wp Try.func58 rfl h58 ?_ hro
  simp only [Try.ntmps58, List.size_toArray, List.length_cons, List.length_nil, Nat.reduceAdd, Nat.reduceSub, Array.replicate_succ, Array.replicate_zero, List.push_toArray, List.append_toArray, List.nil_append, List.cons_append]
  gi_wp2
  gi_loopw [3] (fun i wr => i = .int .i64 (-1) ∧ J [] wr ∧ W.heap.size ≤ wr.heap.size) (fun _ _ => 0)
  case atStart => exact ⟨by simp, h0, Nat.le_refl _⟩
  case round =>
    obtain ⟨rfl, hJs, hs⟩ := hrel
    gi_wp2
    go_end0
    exact ⟨⟨_, rfl⟩, hs, .inl ⟨_, rfl, hJs⟩⟩

/-- slices.Backward(s): the row is boxed, the iterator captures the box. -/
theorem back_makes (F : Fence) (n : Nat) (h51 : F.fn 51) (hro : F.round = none) (A : Option Addr) (len cap : Nat) (w : World) :
    CallsIn F n Try.prog 51 #[.slice A len cap] w fun e w' => e = .returned (.func (.func 58) #[] #[.pointer (some ⟨w.heap.size, 0, none⟩)]) ∧ w' = w.alloc (.cells #[.slice A len cap] 28) := by
  refine callsIn_of_wp Try.func51 rfl h51 ?_ hro
  simp only [Try.ntmps51, List.size_toArray, List.length_cons, List.length_nil, Nat.reduceAdd, Nat.reduceSub, Array.replicate_succ, Array.replicate_zero, List.push_toArray, List.append_toArray, List.nil_append, List.cons_append]
  gi_wp2
  go_ret
  exact ⟨rfl, rfl⟩

/-- The raw cells of a row that is read. -/
theorem raw_cells {α : Type} {d : Kd α} {w : World} {A : Option Addr} {n : Nat} {xs : List α} (z : α) (h : d.C w A n xs) (hn : 0 < n) :
    ∃ (ad : Addr) (cs : Nat → List Value), A = some ad ∧ ∀ j, j < n → (cs j).length = d.sz ∧ d.K w (xs.getD j z) (cs j) ∧ ∀ i u, (cs j)[i]? = some u → w.cell? (ad.add (j * d.sz + i)) = some u := by
  obtain ⟨hl, _, hr⟩ := h
  obtain ⟨ad, hA, hc⟩ := hr hn
  have hc' : ∀ j : Nat, ∃ c : List Value, j < n → c.length = d.sz ∧ d.K w (xs.getD j z) c ∧ ∀ i u, c[i]? = some u → w.cell? (ad.add (j * d.sz + i)) = some u := by
    intro j
    by_cases hj : j < n
    · obtain ⟨c, h1, h2, h3⟩ := hc j (xs.getD j z) (by rw [List.getD_eq_getElem?_getD, List.getElem?_eq_getElem (by omega)]; rfl)
      exact ⟨c, fun _ => ⟨h1, h2, h3⟩⟩
    · exact ⟨[], fun h => absurd h hj⟩
  exact ⟨ad, fun j => Classical.choose (hc' j), hA, fun j hj => Classical.choose_spec (hc' j) hj⟩

/-- What the iterator hands out: a place and the entry's cells. -/
def cellsAt (cs : Nat → List Value) (x : Nat) : Array Value := #[.int .i64 (x : Nat), .agg (cs x).toArray]
def downTo (len k : Nat) : List Nat := upto (fun k => len - 1 - k) k

theorem back_iter (F : Fence) (n : Nat) (h58 : F.fn 58) (hro : F.round = none) (hn : 1 ≤ n) (Bs len cap : Nat) (A : Option Addr) (p : Nat → Prop) (cs : Nat → List Value) (w : World)
    (hBs : p Bs) (hm : len ≤ 9223372036854775807)
    (hA : 0 < len → ∃ ad, A = some ad ∧ p ad.block ∧ ∀ j, j < len → (cs j).length = 6 ∧ ∀ i u, (cs j)[i]? = some u → w.cell? (ad.add (j * 6 + i)) = some u)
    (hcB : w.cell? ⟨Bs, 0, none⟩ = some (.slice A len cap)) :
    Iter F n Try.prog 58 #[.pointer (some ⟨Bs, 0, none⟩)] (cellsAt cs) (· < len) p len (fun xs => xs = downTo len len) (fun pre => ∃ k, k ≤ len ∧ pre = downTo len k) w := by
  intro l B J Jx W hB hl hW hJ hJx hY h0
  have hcB' : W.cell? ⟨Bs, 0, none⟩ = some (.slice A len cap) := (hW.cell (p := ⟨Bs, 0, none⟩) (World.block_lt_of_cell? w _ hcB)).trans hcB
  cases len with
  | zero => exact back_none F n h58 hro l Bs cap A J Jx W hcB' h0
  | succ m =>
    obtain ⟨ad, rfl, had, hc⟩ := hA (by omega)
    refine back_loop F n h58 hro hn l B Bs (m + 1) cap p ad cs hm (fun j hj => (hc j hj).1) J Jx had hBs W hB hY hcB' (fun j hj i u hu => ?_) h0
    have := (hc j hj).2 i u hu
    exact (hW.cell (World.block_lt_of_cell? w _ this)).trans this
end Go.Proofs.YtbjhjimkljbjlaaI
/- raftlog.backwards: the numbers and terms of a log, from the last one on, then the snapshot's. -/
namespace Go.Proofs.YtbjhjimkljbjlaaI
open Go Go.RowKit Go.Shelf Go.Proofs.Ytbjhjimkljbjlaa Go.Proofs.YtbjhjimkljbjlaaW.PrintWords
attribute [local go_sem] Oper.semAt_some

theorem backw_makes (F : Fence) (n : Nat) (h36 : F.fn 36) (hro : F.round = none) (c : Array Value) (w : World) :
    CallsIn F n Try.prog 36 #[.agg c] w fun e w' => e = .returned (.func (.func 50) #[] #[.pointer (some ⟨w.heap.size, 0, none⟩)]) ∧ w' = w.alloc (.cells c 30) := by
  refine callsIn_of_wp Try.func36 rfl h36 ?_ hro
  simp only [Try.ntmps36, List.size_toArray, List.length_cons, List.length_nil, Nat.reduceAdd, Nat.reduceSub, Array.replicate_succ, Array.replicate_zero, List.push_toArray, List.append_toArray, List.nil_append, List.cons_append]
  gi_wp2
  go_ret
  exact ⟨rfl, rfl⟩

/-- A number and a term, as yield is called with them. -/
def pairOf (x : Int × Int) : Array Value := #[.int .i64 x.1, .int .i64 x.2]
def backList (ix tm : Nat → Int) (si st : Int) (len : Nat) : List (Int × Int) := (downTo len len).map (fun j => (ix j, tm j)) ++ [(si, st)]

theorem downTo_prefix (ix tm : Nat → Int) (si st : Int) {len k : Nat} (hk : k ≤ len) : (downTo len k).map (fun j => (ix j, tm j)) <+: backList ix tm si st len := by
  obtain ⟨m, rfl⟩ := Nat.exists_eq_add_of_le hk
  refine ⟨(((List.range m).map fun i => (fun q => k + m - 1 - q) (k + i)).map fun j => (ix j, tm j)) ++ [(si, st)], ?_⟩
  simp [backList, downTo, upto, List.range_add, Function.comp_def]

/-- The entry's variable of a round. -/
def Ent (B : Nat) (cs : Nat → List Value) (fixed : Nat → Value → Act) (x : Nat) (a' : Act) (X : World) : Prop :=
  ∃ e, B + 2 ≤ e ∧ X.heap[e]? = some (.cells (cs x).toArray 54) ∧ a' = fixed x (.pointer (some ⟨e, 0, none⟩))

set_option maxRecDepth 100000 in
set_option maxHeartbeats 2000000 in
theorem backw_iter (F : Fence) (n : Nat) (h50 : F.fn 50) (h51 : F.fn 51) (h58 : F.fn 58) (hro : F.round = none) (hd : F.depth = none) (hn : 5 ≤ n) (bk len cap : Nat) (A : Option Addr) (p : Nat → Prop) (cs : Nat → List Value) (ix tm : Nat → Int)
    (t v si st : Int) (vo le da : Value) (w : World)
    (hbk : p bk) (hpw : ∀ k, p k → k < w.heap.size) (hm : len ≤ 9223372036854775807)
    (hA : 0 < len → ∃ ad, A = some ad ∧ p ad.block ∧ ∀ j, j < len → (cs j).length = 6 ∧ ∀ i u, (cs j)[i]? = some u → w.cell? (ad.add (j * 6 + i)) = some u)
    (hix : ∀ j, j < len → ∃ kd A3 n3 c3 A4 n4 c4 s, cs j = [.int .i64 (ix j), .int .i64 (tm j), .int .i64 kd, .slice A3 n3 c3, .slice A4 n4 c4, .string s])
    (hcK : w.heap[bk]? = some (.cells #[.int .i64 t, .int .i64 v, .int .i64 si, .int .i64 st, vo, le, da, .slice A len cap] 30)) :
    Iter F n Try.prog 50 #[.pointer (some ⟨bk, 0, none⟩)] pairOf (fun _ => True) p (len + 1) (fun xs => xs = backList ix tm si st len) (fun pre => pre <+: backList ix tm si st len) w := by
  intro l B J Jx W hB hl hW hJ hJx hY h0
  have h1 : 1 ≤ n := by omega
  have hK : W.heap[bk]? = some (.cells #[.int .i64 t, .int .i64 v, .int .i64 si, .int .i64 st, vo, le, da, .slice A len cap] 30) := (hW.block _ (hpw _ hbk)).trans hcK
  have hbW : bk < W.heap.size := by have := hpw _ hbk; have := hW.size; omega
  have c3 : ∀ o, (W.alloc o).cell? ⟨bk, 7, none⟩ = some (.slice A len cap) := fun o => by
    rw [World.cell?_of_block (w := W) (a := ⟨bk, 7, none⟩) (Below.heap_alloc W o bk hbW)]; simp [World.cell?, hK]
  refine callsIn_of_wp_marks Try.func50 rfl h50 ?_ hro
  simp only [Try.ntmps50, List.size_toArray, List.length_cons, List.length_nil, Nat.reduceAdd, Nat.reduceSub, Array.replicate_succ, Array.replicate_zero, List.push_toArray, List.append_toArray, List.nil_append, List.cons_append]
  gi_wp2_with (gi_at_call 51; refine (back_makes F (n - 1) h51 hro _ _ _ _).mono ?_; rintro e w' ⟨rfl, rfl⟩)
  obtain ⟨W2, hW2⟩ : ∃ W2, (W.alloc (.cells #[.func (.yield l) #[] #[]] 79)).alloc (.cells #[.slice A len cap] 28) = W2 := ⟨_, rfl⟩
  have hz2 : W2.heap.size = W.heap.size + 2 := by rw [← hW2]; simp
  have hb2 : Below W.heap.size W W2 := by rw [← hW2]; exact ((Below.refl _ _).alloc (Nat.le_refl _) _).alloc (by simp) _
  have hy2 : W2.heap[W.heap.size]? = some (.cells #[.func (.yield l) #[] #[]] 79) := by
    rw [← hW2]; exact (Below.heap_alloc _ _ _ (by simp)).trans (World.alloc_heap_new W _)
  have hs2 : W2.heap[W.heap.size + 1]? = some (.cells #[.slice A len cap] 28) := by
    rw [← hW2]; have := World.alloc_heap_new (W.alloc (.cells #[.func (.yield l) #[] #[]] 79)) (.cells #[.slice A len cap] 28); rwa [World.size_alloc] at this
  have hk2 : W2.heap[bk]? = some (.cells #[.int .i64 t, .int .i64 v, .int .i64 si, .int .i64 st, vo, le, da, .slice A len cap] 30) := (hb2.block _ hbW).trans hK
  rw [hW2]
  have hwW := hW.size
  refine wpIn_range hro h1 (gf := 58) (lb := #[.pointer (some ⟨W.heap.size + 1, 0, none⟩)]) rfl h58 (enters_of Try.func58 (by kernel_rfl) rfl)
    (back_iter F (n - 1) h58 hro (by omega) (W.heap.size + 1) len cap A (fun k => p k ∨ k = W.heap.size + 1) cs W2 (.inr rfl) hm
      (fun h => by
        obtain ⟨ad, e1, e2, e3⟩ := hA h
        refine ⟨ad, e1, .inl e2, fun j hj => ⟨(e3 j hj).1, fun i u hu => ?_⟩⟩
        have hc := (e3 j hj).2 i u hu
        exact ((hW.trans (hb2.mono hwW)).cell (World.block_lt_of_cell? w _ hc)).trans hc)
      (by simp [World.cell?, hs2]))
    (fun k hk => by rcases hk with hk | hk; have := hpw k hk; omega; omega) (fun _ => rfl)
    (fun pre X => J (pre.map fun j => (ix j, tm j)) X ∧ X.heap[W.heap.size]? = some (.cells #[.func (.yield l) #[] #[]] 79) ∧ X.heap[bk]? = some (.cells #[.int .i64 t, .int .i64 v, .int .i64 si, .int .i64 st, vo, le, da, .slice A len cap] 30) ∧ W.heap.size + 2 ≤ X.heap.size)
    (fun c pre X => c = .ret ∧ Jx (pre.map fun j => (ix j, tm j)) X ∧ W.heap.size ≤ X.heap.size)
    (fun s X Y hs hb => ⟨hJ _ _ _ hs.1 (hb.mono (by omega)), (hb.block _ (by omega)).trans hs.2.1, (hb.block _ (by omega)).trans hs.2.2.1, Nat.le_trans hs.2.2.2 hb.size⟩)
    (fun c s X Y hs hb => ⟨hs.1, hJx _ _ _ hs.2.1 (hb.mono (by omega)), Nat.le_trans hs.2.2 hb.size⟩)
    ⟨hJ _ _ _ h0 (hb2.mono (by omega)), hy2, hk2, by omega⟩
    (Ent W2.heap.size cs fun x e => { tmps := #[.func (.yield l) #[] #[], .pointer (some ⟨bk, 0, none⟩), .pointer (some ⟨W.heap.size, 0, none⟩), undef, e, .pointer (some ⟨bk, 7, none⟩), .slice A len cap, .func (.func 58) #[] #[.pointer (some ⟨W.heap.size + 1, 0, none⟩)], .int .i64 (x : Nat), .agg (cs x).toArray, undef, undef, undef, undef, undef, undef, undef, undef, undef, undef, undef, undef, undef, undef, undef], defers := [] })
    (fun x a' X o h => by obtain ⟨e, e1, e2, e3⟩ := h; exact ⟨e, e1, (World.putObj_heap_other (by omega)).trans e2, e3⟩)
    ?assign ?body ?done ?stop
  case assign =>
    rintro l2 pre x X K hx hX ⟨hj, hy, hk, hz⟩ hK'
    obtain ⟨kd, A3, n3, c3', A4, n4, c4, sd, hcs⟩ := hix x hx
    simp only [cellsAt, hcs]
    gi_wp2
    refine hK' _ _ ((Mid.refl _ _ _).alloc _) ⟨hJ _ _ _ hj ((Below.refl _ _).alloc (by omega) _), (Below.heap_alloc _ _ _ (by omega)).trans hy, (Below.heap_alloc _ _ _ (by omega)).trans hk, by simp; omega⟩ ⟨X.heap.size, hX, ?_, ?_⟩
    · rw [hcs]; exact World.alloc_heap_new X _
    · simp only [hcs]
  case body =>
    rintro l2 pre x a' X hx hX ⟨hj, hy, hk, hz⟩ ⟨e, e1, e2, rfl⟩ hlen
    obtain ⟨kd, A3, n3, c3', A4, n4, c4, sd, hcs⟩ := hix x hx
    rw [hcs] at e2
    have q0 : X.cell? ⟨e, 0, none⟩ = some (.int .i64 (ix x)) := by simp [World.cell?, e2]
    have q1 : X.cell? ⟨e, 1, none⟩ = some (.int .i64 (tm x)) := by simp [World.cell?, e2]
    have qy : X.cell? ⟨W.heap.size, 0, none⟩ = some (.func (.yield l) #[] #[]) := by simp [World.cell?, hy]
    obtain ⟨fn, tmps, assign, body, hyy, hR⟩ := hY (pre.map fun j => (ix j, tm j)) (ix x, tm x) X trivial hj (by simp; omega) (by omega)
    simp only [pairOf] at hyy
    have hR' := RoundIn.inRound l2 (round_any hd (m' := n - 1 - 1 - 1) hR)
    clear hR
    have hdd : (F.inRound l2).depth.isSome = true → 1 ≤ n - 1 - 1 := fun _ => by omega
    gi_wp2
    have hpB : ∀ k, p k → k < B := fun k hk => by have := hpw k hk; omega
    refine hR'.mono ?_
    rintro e' X3 ⟨hm3, ⟨rfl, hj3⟩ | ⟨rfl, hjx3⟩⟩
    · gi_wp2
      have hm4 : Mid (fun k => p k ∨ k = W.heap.size + 1) W2.heap.size X X3 := hm3.wider (fun k hk => by rcases hk with hk | hk; exact .inl hk; exact .inr (by omega)) (by omega)
      exact ⟨hm4, by rw [List.map_append]; exact hj3, hm3.at_ (by omega) hy, (hm3.block _ (by omega) (.inl hbk)).trans hk, Nat.le_trans hz hm3.size⟩
    · gi_wp2
      have hm4 : Mid (fun k => p k ∨ k = W.heap.size + 1) W2.heap.size X X3 := hm3.wider (fun k hk => by rcases hk with hk | hk; exact .inl hk; exact .inr (by omega)) (by omega)
      exact ⟨hm4, rfl, by rw [List.map_append]; exact hjx3, by have := hm3.size; omega⟩
  case done =>
    rintro D xs X hD rfl ⟨hj, hy, hk, hz⟩ hKD
    have qy : X.cell? ⟨W.heap.size, 0, none⟩ = some (.func (.yield l) #[] #[]) := by simp [World.cell?, hy]
    have q2 : X.cell? ⟨bk, 2, none⟩ = some (.int .i64 si) := by simp [World.cell?, hk]
    have q3 : X.cell? ⟨bk, 3, none⟩ = some (.int .i64 st) := by simp [World.cell?, hk]
    obtain ⟨fn, tmps, assign, body, hyy, hR⟩ := hY _ (si, st) X trivial hj (by simp [downTo, upto_length]) (by omega)
    simp only [pairOf] at hyy
    have hdd : F.depth.isSome = true → 1 ≤ n := fun _ => h1
    gi_wp2
    refine hR.mono ?_
    have hDX : D < X.heap.size := (Array.getElem?_eq_some_iff.1 hKD).1
    rintro e' X3 ⟨hm3, ⟨rfl, hj3⟩ | ⟨rfl, hjx3⟩⟩
    · gi_wp2
      have hKD3 := hm3.at_ (by omega) hKD
      refine ⟨by simp, .inl ⟨_, _, rfl, run_takeDeferred hKD3, ?_⟩⟩
      exact ⟨_, results_none rfl _ _ _, ⟨_, rfl⟩, by have := hm3.size; simp; omega, .inl ⟨_, rfl, hJ _ _ _ hj3 (below_putObj (Below.refl _ _) (by omega) _)⟩⟩
    · gi_wp2
      have hKD3 := hm3.at_ (by omega) hKD
      refine ⟨by simp, .inl ⟨_, _, rfl, run_takeDeferred hKD3, ?_⟩⟩
      exact ⟨_, results_none rfl _ _ _, ⟨_, rfl⟩, by have := hm3.size; simp; omega, .inr ⟨_, List.prefix_rfl, hJx _ _ _ hjx3 (below_putObj (Below.refl _ _) (by omega) _)⟩⟩
  case stop =>
    rintro D c pre X hD ⟨k, hk, rfl⟩ ⟨rfl, hjx, hz⟩ hKD
    gi_wp2
    refine ⟨by simp, .inl ⟨_, _, rfl, run_takeDeferred hKD, ?_⟩⟩
    exact ⟨_, results_none rfl _ _ _, ⟨_, rfl⟩, by simp; omega, .inr ⟨_, downTo_prefix ix tm si st hk, hJx _ _ _ hjx (below_putObj (Below.refl _ _) (by omega) _)⟩⟩
end Go.Proofs.YtbjhjimkljbjlaaI
/- raftlog.Last, by its walk. -/
namespace Go.Proofs.Ytbjhjimkljbjlaa.PA
open Go.RowKit Go.Shelf Go.Proofs.YtbjhjimkljbjlaaW.PrintWords Go.Proofs.YtbjhjimkljbjlaaW.PrintLast Go.Proofs.YtbjhjimkljbjlaaI
attribute [local go_sem] Oper.semAt_some

theorem alloc3 (w : World) (o1 o2 o3 : Obj) : (((w.alloc o1).alloc o2).alloc o3).heap.size = w.heap.size + 3 ∧ Below w.heap.size w (((w.alloc o1).alloc o2).alloc o3) ∧
    (((w.alloc o1).alloc o2).alloc o3).heap[w.heap.size]? = some o1 ∧ (((w.alloc o1).alloc o2).alloc o3).heap[w.heap.size + 1]? = some o2 ∧ (((w.alloc o1).alloc o2).alloc o3).heap[w.heap.size + 1 + 1]? = some o3 := by
  refine ⟨by simp, (((Below.refl _ _).alloc (Nat.le_refl _) _).alloc (by simp) _).alloc (by simp; omega) _, ?_, ?_, ?_⟩
  · exact (Below.heap_alloc _ _ _ (by simp; omega)).trans ((Below.heap_alloc _ _ _ (by simp)).trans (World.alloc_heap_new w _))
  · refine (Below.heap_alloc _ _ _ (by simp)).trans ?_
    have := World.alloc_heap_new (w.alloc o1) o2
    rwa [World.size_alloc] at this
  · have := World.alloc_heap_new ((w.alloc o1).alloc o2) o3
    rwa [World.size_alloc, World.size_alloc] at this

set_option maxRecDepth 100000 in
set_option maxHeartbeats 4000000 in
theorem raftlog_Last.bad (a0_0 a0_1 a0_2 a0_3 : Int) (A0_4 : Option Addr) (c0_4 : Nat) (l0_4 : List Int) (A0_5 : Option Addr) (c0_5 : Nat) (l0_5 : List Int) (a0_6 : ByteArray) (A0_7 : Option Addr) (c0_7 : Nat) (l0_7 : List S54) (w : World)
    (hr0_4 : Kd.C (Kd.int .i64) w A0_4 l0_4.length l0_4) (hc0_4 : l0_4.length ≤ c0_4) (hr0_5 : Kd.C (Kd.int .i64) w A0_5 l0_5.length l0_5) (hc0_5 : l0_5.length ≤ c0_5) (hr0_7 : Kd.C k54 w A0_7 l0_7.length l0_7) (hc0_7 : l0_7.length ≤ c0_7)
    (hk : chk a0_2 l0_7 = false) :
    CallsIn Fence.wide 10 Try.prog 10 #[.agg #[.int .i64 a0_0, .int .i64 a0_1, .int .i64 a0_2, .int .i64 a0_3, .slice A0_4 l0_4.length c0_4, .slice A0_5 l0_5.length c0_5, .string a0_6, .slice A0_7 l0_7.length c0_7]] w fun e w' => e = .returned (.tuple #[.int .i64 0, .int .i64 0]) ∧ Below w.heap.size w w' := by
  have hro : Fence.wide.round = none := rfl
  have hch : ∀ W, Below w.heap.size w W → Calls Try.prog 12 #[.agg #[.int .i64 a0_0, .int .i64 a0_1, .int .i64 a0_2, .int .i64 a0_3, .slice A0_4 l0_4.length c0_4, .slice A0_5 l0_5.length c0_5, .string a0_6, .slice A0_7 l0_7.length c0_7]] W fun e w' => e = .returned (.int .i64 1) ∧ Below W.heap.size W w' := fun W hb => by
    have he := check_eq (l0_7.length + 3) a0_0 a0_1 a0_2 a0_3 l0_4 l0_5 a0_6 l0_7 (Nat.le_refl _)
    rw [hk] at he
    exact raftlog_Check.calls _ _ _ _ _ _ _ _ _ _ _ _ _ _ _ 1 W (Kd.C_below hr0_4 hb) hc0_4 (Kd.C_below hr0_5 hb) hc0_5 (Kd.C_below hr0_7 hb) hc0_7 he
  have HCH := Lib.hid hch
  clear hch hk
  refine callsIn_of_wp_marks Try.func10 rfl trivial ?_ hro
  simp only [Try.ntmps10, List.size_toArray, List.length_cons, List.length_nil, Nat.reduceAdd, Nat.reduceSub, Array.replicate_succ, Array.replicate_zero, List.push_toArray, List.append_toArray, List.nil_append, List.cons_append]
  gi_wp2_with fail
  have A3 := alloc3 w (.cells #[.int .i64 a0_0, .int .i64 a0_1, .int .i64 a0_2, .int .i64 a0_3, .slice A0_4 l0_4.length c0_4, .slice A0_5 l0_5.length c0_5, .string a0_6, .slice A0_7 l0_7.length c0_7] 30) (.cells #[.int .i64 0] 3) (.cells #[.int .i64 0] 3)
  obtain ⟨z3, b3, _, q1, q2⟩ := A3
  refine ⟨trivial, (callsIn_wide.2 (HCH.out _ b3)).mono ?_⟩
  rintro e w1 ⟨rfl, hb1⟩
  rw [z3] at hb1
  have e1 := (hb1.block _ (by omega)).trans q1
  have e2 := (hb1.block _ (by omega)).trans q2
  have b1 := b3.trans (hb1.mono (by omega))
  clear hb1 q1 q2 z3 b3
  have c1 : w1.cell? ⟨w.heap.size + 1, 0, none⟩ = some (.int .i64 0) := by simp [World.cell?, e1]
  have c2 : w1.cell? ⟨w.heap.size + 1 + 1, 0, none⟩ = some (.int .i64 0) := by simp [World.cell?, e2]
  have f1 : w1.frozen? ⟨w.heap.size + 1, 0, none⟩ = false := by simp [World.frozen?, e1]
  have f2 : w1.frozen? ⟨w.heap.size + 1 + 1, 0, none⟩ = false := by simp [World.frozen?, e2]
  clear e1 e2
  gi_wp2
  refine ⟨.tuple #[.int .i64 0, .int .i64 0], ?_, rfl, (b1.setCell (p := ⟨w.heap.size + 1, 0, none⟩) (by simp) _).setCell (p := ⟨w.heap.size + 1 + 1, 0, none⟩) (by simp; omega) _⟩
  simp [results, Try.f10, go_sem, c1, c2]

/-- What the iterator needs of a log that is read. -/
theorem log_cells {w : World} {A : Option Addr} {es : List S54} (h : Kd.C k54 w A es.length es) : ∃ cs : Nat → List Value,
    (0 < es.length → ∃ ad, A = some ad ∧ ad.block < w.heap.size ∧ ∀ j, j < es.length → (cs j).length = 6 ∧ ∀ i u, (cs j)[i]? = some u → w.cell? (ad.add (j * 6 + i)) = some u) ∧
    (∀ j, j < es.length → ∃ kd A3 n3 c3 A4 n4 c4 s, cs j = [.int .i64 (es.getD j z54).f0, .int .i64 (es.getD j z54).f1, .int .i64 kd, .slice A3 n3 c3, .slice A4 n4 c4, .string s]) := by
  rcases Nat.eq_zero_or_pos es.length with h0 | h0
  · exact ⟨fun _ => [], fun hp => absurd hp (by omega), fun j hj => absurd hj (by omega)⟩
  · obtain ⟨ad, cs, hA, hc⟩ := raw_cells z54 h h0
    have hx : ∀ j, j < es.length → ∃ kd A3 n3 c3 A4 n4 c4 s, cs j = [.int .i64 (es.getD j z54).f0, .int .i64 (es.getD j z54).f1, .int .i64 kd, .slice A3 n3 c3, .slice A4 n4 c4, .string s] := fun j hj => by
      obtain ⟨A3, c3, A4, c4, e, _⟩ := k54_open (hc j hj).2.1
      exact ⟨_, _, _, _, _, _, _, _, e⟩
    refine ⟨cs, fun _ => ⟨ad, hA, ?_, fun j hj => ⟨(hc j hj).1, (hc j hj).2.2⟩⟩, hx⟩
    obtain ⟨kd, A3, n3, c3, A4, n4, c4, s, e⟩ := hx 0 h0
    have := World.block_lt_of_cell? w _ ((hc 0 h0).2.2 0 _ (by rw [e]; rfl))
    unfold Addr.add at this
    split at this <;> exact this

theorem back_ne (ix tm : Nat → Int) (si st : Int) (len : Nat) : backList ix tm si st len ≠ [] := by simp [backList]

theorem back_head (es : List S54) (si st : Int) (x : Int × Int) (h : [x] <+: backList (fun j => (es.getD j z54).f0) (fun j => (es.getD j z54).f1) si st es.length) : x = lastP si st es := by
  obtain ⟨r, hr⟩ := h
  unfold lastP
  rcases Nat.eq_zero_or_pos es.length with h0 | h0
  · have : es = [] := List.eq_nil_of_length_eq_zero h0
    subst this
    simp [backList, downTo, upto] at hr
    simp [hr.1]
  · obtain ⟨m, hm⟩ : ∃ m, es.length = m + 1 := ⟨es.length - 1, by omega⟩
    have hg : es.getLast? = some (es.getD m z54) := by
      rw [List.getLast?_eq_getElem?, hm, Nat.add_sub_cancel, List.getD_eq_getElem?_getD, List.getElem?_eq_getElem (by omega)]
      rfl
    rw [hg]
    have h1 : (backList (fun j => (es.getD j z54).f0) (fun j => (es.getD j z54).f1) si st es.length)[0]? = some ((es.getD m z54).f0, (es.getD m z54).f1) := by
      simp [backList, downTo, upto, hm, List.range_succ_eq_map]
    rw [← hr] at h1
    simpa using h1

set_option maxRecDepth 100000 in
set_option maxHeartbeats 4000000 in
theorem raftlog_Last.good (a0_0 a0_1 a0_2 a0_3 : Int) (A0_4 : Option Addr) (c0_4 : Nat) (l0_4 : List Int) (A0_5 : Option Addr) (c0_5 : Nat) (l0_5 : List Int) (a0_6 : ByteArray) (A0_7 : Option Addr) (c0_7 : Nat) (l0_7 : List S54) (w : World)
    (hr0_4 : Kd.C (Kd.int .i64) w A0_4 l0_4.length l0_4) (hc0_4 : l0_4.length ≤ c0_4) (hr0_5 : Kd.C (Kd.int .i64) w A0_5 l0_5.length l0_5) (hc0_5 : l0_5.length ≤ c0_5) (hr0_7 : Kd.C k54 w A0_7 l0_7.length l0_7) (hc0_7 : l0_7.length ≤ c0_7)
    (hk : chk a0_2 l0_7 = true) :
    CallsIn Fence.wide 10 Try.prog 10 #[.agg #[.int .i64 a0_0, .int .i64 a0_1, .int .i64 a0_2, .int .i64 a0_3, .slice A0_4 l0_4.length c0_4, .slice A0_5 l0_5.length c0_5, .string a0_6, .slice A0_7 l0_7.length c0_7]] w fun e w' => e = .returned (.tuple #[.int .i64 (lastP a0_2 a0_3 l0_7).1, .int .i64 (lastP a0_2 a0_3 l0_7).2]) ∧ Below w.heap.size w w' := by
  have hro : Fence.wide.round = none := rfl
  have hm : l0_7.length ≤ 9223372036854775807 := hr0_7.2.1
  have hch : ∀ W, Below w.heap.size w W → Calls Try.prog 12 #[.agg #[.int .i64 a0_0, .int .i64 a0_1, .int .i64 a0_2, .int .i64 a0_3, .slice A0_4 l0_4.length c0_4, .slice A0_5 l0_5.length c0_5, .string a0_6, .slice A0_7 l0_7.length c0_7]] W fun e w' => e = .returned (.int .i64 0) ∧ Below W.heap.size W w' := fun W hb => by
    have he := check_eq (l0_7.length + 3) a0_0 a0_1 a0_2 a0_3 l0_4 l0_5 a0_6 l0_7 (Nat.le_refl _)
    rw [hk] at he
    exact raftlog_Check.calls _ _ _ _ _ _ _ _ _ _ _ _ _ _ _ 0 W (Kd.C_below hr0_4 hb) hc0_4 (Kd.C_below hr0_5 hb) hc0_5 (Kd.C_below hr0_7 hb) hc0_7 he
  obtain ⟨cs, hcs, hix⟩ := log_cells hr0_7
  have HCH := Lib.hid hch
  have HCS := Lib.hid hcs
  have HIX := Lib.hid hix
  clear hch hk hcs hix
  refine callsIn_of_wp_marks Try.func10 rfl trivial ?_ hro
  simp only [Try.ntmps10, List.size_toArray, List.length_cons, List.length_nil, Nat.reduceAdd, Nat.reduceSub, Array.replicate_succ, Array.replicate_zero, List.push_toArray, List.append_toArray, List.nil_append, List.cons_append]
  gi_wp2_with fail
  have A3 := alloc3 w (.cells #[.int .i64 a0_0, .int .i64 a0_1, .int .i64 a0_2, .int .i64 a0_3, .slice A0_4 l0_4.length c0_4, .slice A0_5 l0_5.length c0_5, .string a0_6, .slice A0_7 l0_7.length c0_7] 30) (.cells #[.int .i64 0] 3) (.cells #[.int .i64 0] 3)
  obtain ⟨z3, b3, q0, q1, q2⟩ := A3
  refine ⟨trivial, (callsIn_wide.2 (HCH.out _ b3)).mono ?_⟩
  rintro e w1 ⟨rfl, hb1⟩
  rw [z3] at hb1
  have e0 := (hb1.block _ (by omega)).trans q0
  have e1 := (hb1.block _ (by omega)).trans q1
  have e2 := (hb1.block _ (by omega)).trans q2
  have b1 := b3.trans (hb1.mono (by omega))
  have z1 : w.heap.size + 3 ≤ w1.heap.size := by have := hb1.size; omega
  clear hb1 q0 q1 q2 z3 b3
  have k0 : w1.cell? ⟨w.heap.size, 0, none⟩ = some (.int .i64 a0_0) := by simp [World.cell?, e0]
  have k1 : w1.cell? ⟨w.heap.size, 1, none⟩ = some (.int .i64 a0_1) := by simp [World.cell?, e0]
  have k2 : w1.cell? ⟨w.heap.size, 2, none⟩ = some (.int .i64 a0_2) := by simp [World.cell?, e0]
  have k3 : w1.cell? ⟨w.heap.size, 3, none⟩ = some (.int .i64 a0_3) := by simp [World.cell?, e0]
  have k4 : w1.cell? ⟨w.heap.size, 4, none⟩ = some (.slice A0_4 l0_4.length c0_4) := by simp [World.cell?, e0]
  have k5 : w1.cell? ⟨w.heap.size, 5, none⟩ = some (.slice A0_5 l0_5.length c0_5) := by simp [World.cell?, e0]
  have k6 : w1.cell? ⟨w.heap.size, 6, none⟩ = some (.string a0_6) := by simp [World.cell?, e0]
  have k7 : w1.cell? ⟨w.heap.size, 7, none⟩ = some (.slice A0_7 l0_7.length c0_7) := by simp [World.cell?, e0]
  gi_wp2_with fail
  refine ⟨trivial, (backw_makes _ _ trivial hro _ _).mono ?_⟩
  rintro e w' ⟨rfl, rfl⟩
  gi_wp2_with fail
  obtain ⟨W2, hW2⟩ : ∃ W2, w1.alloc (.cells #[.int .i64 a0_0, .int .i64 a0_1, .int .i64 a0_2, .int .i64 a0_3, .slice A0_4 l0_4.length c0_4, .slice A0_5 l0_5.length c0_5, .string a0_6, .slice A0_7 l0_7.length c0_7] 30) = W2 := ⟨_, rfl⟩
  have hz2 : W2.heap.size = w1.heap.size + 1 := by rw [← hW2]; simp
  have hb2 : Below w1.heap.size w1 W2 := by rw [← hW2]; exact (Below.refl _ _).alloc (Nat.le_refl _) _
  have hk2 : W2.heap[w1.heap.size]? = some (.cells #[.int .i64 a0_0, .int .i64 a0_1, .int .i64 a0_2, .int .i64 a0_3, .slice A0_4 l0_4.length c0_4, .slice A0_5 l0_5.length c0_5, .string a0_6, .slice A0_7 l0_7.length c0_7] 30) := by
    rw [← hW2]; exact World.alloc_heap_new w1 _
  have d1 := (hb2.block _ (by omega)).trans e1
  have d2 := (hb2.block _ (by omega)).trans e2
  have bw2 : Below w.heap.size w W2 := b1.trans (hb2.mono (by omega))
  rw [hW2]
  clear e0 e1 e2 k0 k1 k2 k3 k4 k5 k6 k7 hb2 hW2
  refine wpIn_range hro (by omega) (gf := 50) (lb := #[.pointer (some ⟨w1.heap.size, 0, none⟩)]) rfl trivial (enters_of Try.func50 (by kernel_rfl) rfl)
    (backw_iter Fence.wide 9 trivial trivial trivial hro rfl (by omega) w1.heap.size l0_7.length c0_7 A0_7 (fun k => k < w.heap.size ∨ k = w1.heap.size) cs (fun j => (l0_7.getD j z54).f0) (fun j => (l0_7.getD j z54).f1) a0_0 a0_1 a0_2 a0_3 _ _ _ W2 (.inr rfl)
      (fun k hk => by rcases hk with hk | hk <;> omega) hm
      (fun h => by
        obtain ⟨ad, e1, e2, e3⟩ := HCS.out h
        refine ⟨ad, e1, .inl e2, fun j hj => ⟨(e3 j hj).1, fun i u hu => ?_⟩⟩
        have hc := (e3 j hj).2 i u hu
        exact (bw2.cell (World.block_lt_of_cell? w _ hc)).trans hc)
      HIX.out hk2)
    (fun k hk => by rcases hk with hk | hk <;> omega) (fun _ => rfl)
    (fun pre X => pre = [] ∧ X.heap[w.heap.size + 1]? = some (.cells #[.int .i64 0] 3) ∧ X.heap[w.heap.size + 1 + 1]? = some (.cells #[.int .i64 0] 3) ∧ Below w.heap.size w X)
    (fun c pre X => c = .ret ∧ ∃ x, pre = [x] ∧ X.heap[w.heap.size + 1]? = some (.cells #[.int .i64 x.1] 3) ∧ X.heap[w.heap.size + 1 + 1]? = some (.cells #[.int .i64 x.2] 3) ∧ Below w.heap.size w X)
    (fun s X Y hs hb => ⟨hs.1, (hb.block _ (by omega)).trans hs.2.1, (hb.block _ (by omega)).trans hs.2.2.1, hs.2.2.2.trans (hb.mono (by omega))⟩)
    (fun c s X Y hs hb => by
      obtain ⟨h1, x, h2, h3, h4, h5⟩ := hs
      exact ⟨h1, x, h2, (hb.block _ (by omega)).trans h3, (hb.block _ (by omega)).trans h4, h5.trans (hb.mono (by omega))⟩)
    ⟨rfl, d1, d2, bw2⟩
    (fun x a' _ => a' = { tmps := #[.agg #[.int .i64 a0_0, .int .i64 a0_1, .int .i64 a0_2, .int .i64 a0_3, .slice A0_4 l0_4.length c0_4, .slice A0_5 l0_5.length c0_5, .string a0_6, .slice A0_7 l0_7.length c0_7], .pointer (some ⟨w.heap.size, 0, none⟩), .pointer (some ⟨w.heap.size + 1, 0, none⟩), .pointer (some ⟨w.heap.size + 1 + 1, 0, none⟩), .int .i64 x.1, .int .i64 x.2, .agg #[.int .i64 a0_0, .int .i64 a0_1, .int .i64 a0_2, .int .i64 a0_3, .slice A0_4 l0_4.length c0_4, .slice A0_5 l0_5.length c0_5, .string a0_6, .slice A0_7 l0_7.length c0_7], .int .i64 0, .bool true, .agg #[.int .i64 a0_0, .int .i64 a0_1, .int .i64 a0_2, .int .i64 a0_3, .slice A0_4 l0_4.length c0_4, .slice A0_5 l0_5.length c0_5, .string a0_6, .slice A0_7 l0_7.length c0_7], .func (.func 50) #[] #[.pointer (some ⟨w1.heap.size, 0, none⟩)], .int .i64 x.1, .int .i64 x.2, undef, undef], defers := [] })
    (fun x a' X o h => h)
    ?assign ?body ?done ?stop
  case assign =>
    rintro l2 pre x X K _ hX hi hK'
    simp only [pairOf]
    gi_wp2
    exact hK' _ _ (Mid.refl _ _ _) hi rfl
  case body =>
    rintro l2 pre x a' X _ hX ⟨rfl, h1, h2, hb⟩ rfl hlen
    have c1 : X.cell? ⟨w.heap.size + 1, 0, none⟩ = some (.int .i64 0) := by simp [World.cell?, h1]
    have c2 : X.cell? ⟨w.heap.size + 1 + 1, 0, none⟩ = some (.int .i64 0) := by simp [World.cell?, h2]
    have f1 : X.frozen? ⟨w.heap.size + 1, 0, none⟩ = false := by simp [World.frozen?, h1]
    have f2 : X.frozen? ⟨w.heap.size + 1 + 1, 0, none⟩ = false := by simp [World.frozen?, h2]
    gi_wp2
    refine ⟨((Mid.refl _ _ _).setCell (q := ⟨w.heap.size + 1, 0, none⟩) (fun h => by rcases h with h | h <;> simp at h <;> omega) (by simp; omega) _).setCell (q := ⟨w.heap.size + 1 + 1, 0, none⟩) (fun h => by rcases h with h | h <;> simp at h <;> omega) (by simp; omega) _, rfl, x, rfl, ?_, ?_, ?_⟩
    · exact blk_far (blk_set h1 0 _) (by simp) _
    · exact blk_set (blk_far h2 (by simp) _) 0 _
    · exact (hb.setCell (p := ⟨w.heap.size + 1, 0, none⟩) (by simp) _).setCell (p := ⟨w.heap.size + 1 + 1, 0, none⟩) (by simp; omega) _
  case done =>
    rintro D xs X hD rfl ⟨hnil, _⟩ hKD
    exact absurd hnil (back_ne _ _ _ _ _)
  case stop =>
    rintro D c pre X hD hpre ⟨rfl, x, rfl, h1, h2, hb⟩ hKD
    obtain rfl := back_head l0_7 a0_2 a0_3 x hpre
    gi_wp2
    refine ⟨by simp, .inl ⟨_, _, rfl, run_takeDeferred hKD, ?_⟩⟩
    have g1 : (X.putObj D (.deferred none)).cell? ⟨w.heap.size + 1, 0, none⟩ = some (.int .i64 (lastP a0_2 a0_3 l0_7).1) := by
      simp [World.cell?, World.putObj_heap_other (w := X) (r := D) (k := w.heap.size + 1) (o := .deferred none) (by omega), h1]
    have g2 : (X.putObj D (.deferred none)).cell? ⟨w.heap.size + 1 + 1, 0, none⟩ = some (.int .i64 (lastP a0_2 a0_3 l0_7).2) := by
      simp [World.cell?, World.putObj_heap_other (w := X) (r := D) (k := w.heap.size + 1 + 1) (o := .deferred none) (by omega), h2]
    refine ⟨.tuple #[.int .i64 (lastP a0_2 a0_3 l0_7).1, .int .i64 (lastP a0_2 a0_3 l0_7).2], ?_, rfl, below_putObj hb (by omega) _⟩
    simp [results, Try.f10, go_sem, g1, g2]

/-- The contract, as the printed callers ask for it. -/
theorem raftlog_Last.calls (a0_0 a0_1 a0_2 a0_3 : Int) (A0_4 : Option Addr) (c0_4 : Nat) (l0_4 : List Int) (A0_5 : Option Addr) (c0_5 : Nat) (l0_5 : List Int) (a0_6 : ByteArray) (A0_7 : Option Addr) (c0_7 : Nat) (l0_7 : List S54) (r1 r2 : Int) (w : World)
    (hr0_4 : Kd.C (Kd.int .i64) w A0_4 l0_4.length l0_4) (hc0_4 : l0_4.length ≤ c0_4) (hr0_5 : Kd.C (Kd.int .i64) w A0_5 l0_5.length l0_5) (hc0_5 : l0_5.length ≤ c0_5) (hr0_7 : Kd.C k54 w A0_7 l0_7.length l0_7) (hc0_7 : l0_7.length ≤ c0_7)
    (h : raftlog_Last.f a0_0 a0_1 a0_2 a0_3 l0_4 l0_5 a0_6 l0_7 = some (r1, r2)) :
    Calls Try.prog 10 #[.agg #[.int .i64 a0_0, .int .i64 a0_1, .int .i64 a0_2, .int .i64 a0_3, .slice A0_4 l0_4.length c0_4, .slice A0_5 l0_5.length c0_5, .string a0_6, .slice A0_7 l0_7.length c0_7]] w fun e w' => e = .returned (.tuple #[.int .i64 r1, .int .i64 r2]) ∧ Below w.heap.size w w' := by
  simp only [raftlog_Last.f, Option.some.injEq] at h
  cases hk : chk a0_2 l0_7 with
  | false =>
    rw [hk] at h
    simp only [Bool.false_eq_true, if_false, Prod.mk.injEq] at h
    obtain ⟨rfl, rfl⟩ := h
    exact callsIn_wide.1 (raftlog_Last.bad a0_0 a0_1 a0_2 a0_3 A0_4 c0_4 l0_4 A0_5 c0_5 l0_5 a0_6 A0_7 c0_7 l0_7 w hr0_4 hc0_4 hr0_5 hc0_5 hr0_7 hc0_7 hk)
  | true =>
    rw [hk] at h
    simp only [if_true] at h
    have g := callsIn_wide.1 (raftlog_Last.good a0_0 a0_1 a0_2 a0_3 A0_4 c0_4 l0_4 A0_5 c0_5 l0_5 a0_6 A0_7 c0_7 l0_7 w hr0_4 hc0_4 hr0_5 hc0_5 hr0_7 hc0_7 hk)
    rw [h] at g
    exact g
end Go.Proofs.Ytbjhjimkljbjlaa.PA
/- raftlog.Term, by its walk. -/
namespace Go.Proofs.Ytbjhjimkljbjlaa.PA
open Go.RowKit Go.Shelf Go.Proofs.YtbjhjimkljbjlaaW.PrintWords Go.Proofs.YtbjhjimkljbjlaaW.PrintLast Go.Proofs.YtbjhjimkljbjlaaI
attribute [local go_sem] Oper.semAt_some

theorem alloc4 (w : World) (o1 o2 o3 o4 : Obj) : ((((w.alloc o1).alloc o2).alloc o3).alloc o4).heap.size = w.heap.size + 4 ∧ Below w.heap.size w ((((w.alloc o1).alloc o2).alloc o3).alloc o4) ∧
    ((((w.alloc o1).alloc o2).alloc o3).alloc o4).heap[w.heap.size]? = some o1 ∧ ((((w.alloc o1).alloc o2).alloc o3).alloc o4).heap[w.heap.size + 1]? = some o2 ∧ ((((w.alloc o1).alloc o2).alloc o3).alloc o4).heap[w.heap.size + 1 + 1]? = some o3 ∧
    ((((w.alloc o1).alloc o2).alloc o3).alloc o4).heap[w.heap.size + 1 + 1 + 1]? = some o4 := by
  obtain ⟨z, b, h1, h2, h3⟩ := alloc3 w o1 o2 o3
  refine ⟨by simp, b.alloc (by omega) _, (Below.heap_alloc _ _ _ (by omega)).trans h1, (Below.heap_alloc _ _ _ (by omega)).trans h2, (Below.heap_alloc _ _ _ (by omega)).trans h3, ?_⟩
  have := World.alloc_heap_new (((w.alloc o1).alloc o2).alloc o3) o4
  rwa [z] at this

theorem backList_eq (es : List S54) (si st : Int) : backList (fun j => (es.getD j z54).f0) (fun j => (es.getD j z54).f1) si st es.length = backL si st es := by
  unfold backList backL
  congr 1
  apply List.ext_getElem
  · simp [downTo, upto]
  · intro i h1 h2
    simp [downTo, upto] at h1
    simp [downTo, upto, List.getElem_reverse, List.getElem?_eq_getElem (show es.length - 1 - i < es.length by omega)]

theorem find_prefix {L pre : List (Int × Int)} {x : Int × Int} {index : Int} (h : pre ++ [x] <+: L) (hn : ∀ y ∈ pre, y.1 ≠ index) (hx : x.1 = index) : L.find? (fun x => x.1 == index) = some x := by
  obtain ⟨r, rfl⟩ := h
  rw [List.find?_append, List.find?_append, List.find?_eq_none.2 (fun y hy => by simpa using hn y hy)]
  simp [hx]

set_option maxRecDepth 100000 in
set_option maxHeartbeats 4000000 in
theorem raftlog_Term.bad (a0_0 a0_1 a0_2 a0_3 : Int) (A0_4 : Option Addr) (c0_4 : Nat) (l0_4 : List Int) (A0_5 : Option Addr) (c0_5 : Nat) (l0_5 : List Int) (a0_6 : ByteArray) (A0_7 : Option Addr) (c0_7 : Nat) (l0_7 : List S54) (a1 : Int) (w : World) (hr0_4 : Kd.C (Kd.int .i64) w A0_4 l0_4.length l0_4) (hc0_4 : l0_4.length ≤ c0_4) (hr0_5 : Kd.C (Kd.int .i64) w A0_5 l0_5.length l0_5) (hc0_5 : l0_5.length ≤ c0_5) (hr0_7 : Kd.C k54 w A0_7 l0_7.length l0_7) (hc0_7 : l0_7.length ≤ c0_7)
    (hk : chk a0_2 l0_7 = false) :
    CallsIn Fence.wide 10 Try.prog 15 #[.agg #[.int .i64 a0_0, .int .i64 a0_1, .int .i64 a0_2, .int .i64 a0_3, .slice A0_4 l0_4.length c0_4, .slice A0_5 l0_5.length c0_5, .string a0_6, .slice A0_7 l0_7.length c0_7], .int .i64 a1] w fun e w' => e = .returned (.tuple #[.int .i64 0, .int .i64 1]) ∧ Below w.heap.size w w' := by
  have hro : Fence.wide.round = none := rfl
  have hch : ∀ W, Below w.heap.size w W → Calls Try.prog 12 #[.agg #[.int .i64 a0_0, .int .i64 a0_1, .int .i64 a0_2, .int .i64 a0_3, .slice A0_4 l0_4.length c0_4, .slice A0_5 l0_5.length c0_5, .string a0_6, .slice A0_7 l0_7.length c0_7]] W fun e w' => e = .returned (.int .i64 1) ∧ Below W.heap.size W w' := fun W hb => by
    have he := check_eq (l0_7.length + 3) a0_0 a0_1 a0_2 a0_3 l0_4 l0_5 a0_6 l0_7 (Nat.le_refl _)
    rw [hk] at he
    exact raftlog_Check.calls _ _ _ _ _ _ _ _ _ _ _ _ _ _ _ 1 W (Kd.C_below hr0_4 hb) hc0_4 (Kd.C_below hr0_5 hb) hc0_5 (Kd.C_below hr0_7 hb) hc0_7 he
  have HCH := Lib.hid hch
  clear hch hk
  refine callsIn_of_wp_marks Try.func15 rfl trivial ?_ hro
  simp only [Try.ntmps15, List.size_toArray, List.length_cons, List.length_nil, Nat.reduceAdd, Nat.reduceSub, Array.replicate_succ, Array.replicate_zero, List.push_toArray, List.append_toArray, List.nil_append, List.cons_append]
  gi_wp2_with fail
  obtain ⟨z3, b3, q0, qi, q1, q2⟩ := alloc4 w (.cells #[.int .i64 a0_0, .int .i64 a0_1, .int .i64 a0_2, .int .i64 a0_3, .slice A0_4 l0_4.length c0_4, .slice A0_5 l0_5.length c0_5, .string a0_6, .slice A0_7 l0_7.length c0_7] 30) (.cells #[.int .i64 a1] 3) (.cells #[.int .i64 0] 3) (.cells #[.int .i64 0] 34)
  refine ⟨trivial, (callsIn_wide.2 (HCH.out _ b3)).mono ?_⟩
  rintro e w1 ⟨rfl, hb1⟩
  rw [z3] at hb1
  have e0 := (hb1.block _ (by omega)).trans q0
  have ei := (hb1.block _ (by omega)).trans qi
  have e1 := (hb1.block _ (by omega)).trans q1
  have e2 := (hb1.block _ (by omega)).trans q2
  have b1 := b3.trans (hb1.mono (by omega))
  have z1 : w.heap.size + 4 ≤ w1.heap.size := by have := hb1.size; omega
  clear hb1 q0 qi q1 q2 z3 b3
  have c1 : w1.cell? ⟨w.heap.size + 1 + 1, 0, none⟩ = some (.int .i64 0) := by simp [World.cell?, e1]
  have c2 : w1.cell? ⟨w.heap.size + 1 + 1 + 1, 0, none⟩ = some (.int .i64 0) := by simp [World.cell?, e2]
  have f1 : w1.frozen? ⟨w.heap.size + 1 + 1, 0, none⟩ = false := by simp [World.frozen?, e1]
  have f2 : w1.frozen? ⟨w.heap.size + 1 + 1 + 1, 0, none⟩ = false := by simp [World.frozen?, e2]
  clear e0 ei e1 e2
  gi_wp2
  refine ⟨.tuple #[.int .i64 0, .int .i64 1], ?_, rfl, (b1.setCell (p := ⟨w.heap.size + 1 + 1, 0, none⟩) (by simp; omega) _).setCell (p := ⟨w.heap.size + 1 + 1 + 1, 0, none⟩) (by simp; omega) _⟩
  simp [results, Try.f15, go_sem, c1, c2]

set_option maxRecDepth 100000 in
set_option maxHeartbeats 4000000 in
theorem raftlog_Term.good (a0_0 a0_1 a0_2 a0_3 : Int) (A0_4 : Option Addr) (c0_4 : Nat) (l0_4 : List Int) (A0_5 : Option Addr) (c0_5 : Nat) (l0_5 : List Int) (a0_6 : ByteArray) (A0_7 : Option Addr) (c0_7 : Nat) (l0_7 : List S54) (a1 : Int) (w : World) (hr0_4 : Kd.C (Kd.int .i64) w A0_4 l0_4.length l0_4) (hc0_4 : l0_4.length ≤ c0_4) (hr0_5 : Kd.C (Kd.int .i64) w A0_5 l0_5.length l0_5) (hc0_5 : l0_5.length ≤ c0_5) (hr0_7 : Kd.C k54 w A0_7 l0_7.length l0_7) (hc0_7 : l0_7.length ≤ c0_7)
    (hk : chk a0_2 l0_7 = true) :
    CallsIn Fence.wide 10 Try.prog 15 #[.agg #[.int .i64 a0_0, .int .i64 a0_1, .int .i64 a0_2, .int .i64 a0_3, .slice A0_4 l0_4.length c0_4, .slice A0_5 l0_5.length c0_5, .string a0_6, .slice A0_7 l0_7.length c0_7], .int .i64 a1] w fun e w' => e = .returned (.tuple #[.int .i64 (termR a0_2 a0_3 l0_7 a1).1, .int .i64 (termR a0_2 a0_3 l0_7 a1).2]) ∧ Below w.heap.size w w' := by
  have hm : l0_7.length ≤ 9223372036854775807 := hr0_7.2.1
  have hro : Fence.wide.round = none := rfl
  have hch : ∀ W, Below w.heap.size w W → Calls Try.prog 12 #[.agg #[.int .i64 a0_0, .int .i64 a0_1, .int .i64 a0_2, .int .i64 a0_3, .slice A0_4 l0_4.length c0_4, .slice A0_5 l0_5.length c0_5, .string a0_6, .slice A0_7 l0_7.length c0_7]] W fun e w' => e = .returned (.int .i64 0) ∧ Below W.heap.size W w' := fun W hb => by
    have he := check_eq (l0_7.length + 3) a0_0 a0_1 a0_2 a0_3 l0_4 l0_5 a0_6 l0_7 (Nat.le_refl _)
    rw [hk] at he
    exact raftlog_Check.calls _ _ _ _ _ _ _ _ _ _ _ _ _ _ _ 0 W (Kd.C_below hr0_4 hb) hc0_4 (Kd.C_below hr0_5 hb) hc0_5 (Kd.C_below hr0_7 hb) hc0_7 he
  have HCH := Lib.hid hch
  obtain ⟨cs, hcs, hix⟩ := log_cells hr0_7
  have HCS := Lib.hid hcs
  have HIX := Lib.hid hix
  clear hch hk hcs hix
  refine callsIn_of_wp_marks Try.func15 rfl trivial ?_ hro
  simp only [Try.ntmps15, List.size_toArray, List.length_cons, List.length_nil, Nat.reduceAdd, Nat.reduceSub, Array.replicate_succ, Array.replicate_zero, List.push_toArray, List.append_toArray, List.nil_append, List.cons_append]
  gi_wp2_with fail
  obtain ⟨z3, b3, q0, qi, q1, q2⟩ := alloc4 w (.cells #[.int .i64 a0_0, .int .i64 a0_1, .int .i64 a0_2, .int .i64 a0_3, .slice A0_4 l0_4.length c0_4, .slice A0_5 l0_5.length c0_5, .string a0_6, .slice A0_7 l0_7.length c0_7] 30) (.cells #[.int .i64 a1] 3) (.cells #[.int .i64 0] 3) (.cells #[.int .i64 0] 34)
  refine ⟨trivial, (callsIn_wide.2 (HCH.out _ b3)).mono ?_⟩
  rintro e w1 ⟨rfl, hb1⟩
  rw [z3] at hb1
  have e0 := (hb1.block _ (by omega)).trans q0
  have ei := (hb1.block _ (by omega)).trans qi
  have e1 := (hb1.block _ (by omega)).trans q1
  have e2 := (hb1.block _ (by omega)).trans q2
  have b1 := b3.trans (hb1.mono (by omega))
  have z1 : w.heap.size + 4 ≤ w1.heap.size := by have := hb1.size; omega
  clear hb1 q0 qi q1 q2 z3 b3
  have k0 : w1.cell? ⟨w.heap.size, 0, none⟩ = some (.int .i64 a0_0) := by simp [World.cell?, e0]
  have k1 : w1.cell? ⟨w.heap.size, 1, none⟩ = some (.int .i64 a0_1) := by simp [World.cell?, e0]
  have k2 : w1.cell? ⟨w.heap.size, 2, none⟩ = some (.int .i64 a0_2) := by simp [World.cell?, e0]
  have k3 : w1.cell? ⟨w.heap.size, 3, none⟩ = some (.int .i64 a0_3) := by simp [World.cell?, e0]
  have k4 : w1.cell? ⟨w.heap.size, 4, none⟩ = some (.slice A0_4 l0_4.length c0_4) := by simp [World.cell?, e0]
  have k5 : w1.cell? ⟨w.heap.size, 5, none⟩ = some (.slice A0_5 l0_5.length c0_5) := by simp [World.cell?, e0]
  have k6 : w1.cell? ⟨w.heap.size, 6, none⟩ = some (.string a0_6) := by simp [World.cell?, e0]
  have k7 : w1.cell? ⟨w.heap.size, 7, none⟩ = some (.slice A0_7 l0_7.length c0_7) := by simp [World.cell?, e0]
  gi_wp2_with fail
  refine ⟨trivial, (backw_makes _ _ trivial hro _ _).mono ?_⟩
  rintro e w' ⟨rfl, rfl⟩
  gi_wp2_with fail
  obtain ⟨W2, hW2⟩ : ∃ W2, w1.alloc (.cells #[.int .i64 a0_0, .int .i64 a0_1, .int .i64 a0_2, .int .i64 a0_3, .slice A0_4 l0_4.length c0_4, .slice A0_5 l0_5.length c0_5, .string a0_6, .slice A0_7 l0_7.length c0_7] 30) = W2 := ⟨_, rfl⟩
  have hz2 : W2.heap.size = w1.heap.size + 1 := by rw [← hW2]; simp
  have hb2 : Below w1.heap.size w1 W2 := by rw [← hW2]; exact (Below.refl _ _).alloc (Nat.le_refl _) _
  have hk2 : W2.heap[w1.heap.size]? = some (.cells #[.int .i64 a0_0, .int .i64 a0_1, .int .i64 a0_2, .int .i64 a0_3, .slice A0_4 l0_4.length c0_4, .slice A0_5 l0_5.length c0_5, .string a0_6, .slice A0_7 l0_7.length c0_7] 30) := by
    rw [← hW2]; exact World.alloc_heap_new w1 _
  have di := (hb2.block _ (by omega)).trans ei
  have d1 := (hb2.block _ (by omega)).trans e1
  have d2 := (hb2.block _ (by omega)).trans e2
  have bw2 : Below w.heap.size w W2 := b1.trans (hb2.mono (by omega))
  rw [hW2]
  clear e0 ei e1 e2 k0 k1 k2 k3 k4 k5 k6 k7 hb2 hW2
  refine wpIn_range hro (by omega) (gf := 50) (lb := #[.pointer (some ⟨w1.heap.size, 0, none⟩)]) rfl trivial (enters_of Try.func50 (by kernel_rfl) rfl)
    (backw_iter Fence.wide 9 trivial trivial trivial hro rfl (by omega) w1.heap.size l0_7.length c0_7 A0_7 (fun k => k < w.heap.size ∨ k = w1.heap.size) cs (fun j => (l0_7.getD j z54).f0) (fun j => (l0_7.getD j z54).f1) a0_0 a0_1 a0_2 a0_3 _ _ _ W2 (.inr rfl)
      (fun k hk => by rcases hk with hk | hk <;> omega) hm
      (fun h => by
        obtain ⟨ad, e1, e2, e3⟩ := HCS.out h
        refine ⟨ad, e1, .inl e2, fun j hj => ⟨(e3 j hj).1, fun i u hu => ?_⟩⟩
        have hc := (e3 j hj).2 i u hu
        exact (bw2.cell (World.block_lt_of_cell? w _ hc)).trans hc)
      HIX.out hk2)
    (fun k hk => by rcases hk with hk | hk <;> omega) (fun _ => rfl)
    (fun pre X => (∀ y ∈ pre, y.1 ≠ a1) ∧ X.heap[w.heap.size + 1]? = some (.cells #[.int .i64 a1] 3) ∧ X.heap[w.heap.size + 1 + 1]? = some (.cells #[.int .i64 0] 3) ∧ X.heap[w.heap.size + 1 + 1 + 1]? = some (.cells #[.int .i64 0] 34) ∧ Below w.heap.size w X)
    (fun c pre X => c = .ret ∧ ∃ p x, pre = p ++ [x] ∧ (∀ y ∈ p, y.1 ≠ a1) ∧ x.1 = a1 ∧ X.heap[w.heap.size + 1 + 1]? = some (.cells #[.int .i64 x.2] 3) ∧ X.heap[w.heap.size + 1 + 1 + 1]? = some (.cells #[.int .i64 0] 34) ∧ Below w.heap.size w X)
    (fun s X Y hs hb => ⟨hs.1, (hb.block _ (by omega)).trans hs.2.1, (hb.block _ (by omega)).trans hs.2.2.1, (hb.block _ (by omega)).trans hs.2.2.2.1, hs.2.2.2.2.trans (hb.mono (by omega))⟩)
    (fun c s X Y hs hb => by
      obtain ⟨h1, p, x, h2, h3, h4, h5, h6, h7⟩ := hs
      exact ⟨h1, p, x, h2, h3, h4, (hb.block _ (by omega)).trans h5, (hb.block _ (by omega)).trans h6, h7.trans (hb.mono (by omega))⟩)
    ⟨by simp, di, d1, d2, bw2⟩
    (fun x a' _ => a' = { tmps := #[.agg #[.int .i64 a0_0, .int .i64 a0_1, .int .i64 a0_2, .int .i64 a0_3, .slice A0_4 l0_4.length c0_4, .slice A0_5 l0_5.length c0_5, .string a0_6, .slice A0_7 l0_7.length c0_7], .int .i64 a1, .pointer (some ⟨w.heap.size, 0, none⟩), .pointer (some ⟨w.heap.size + 1, 0, none⟩), .pointer (some ⟨w.heap.size + 1 + 1, 0, none⟩), .pointer (some ⟨w.heap.size + 1 + 1 + 1, 0, none⟩), .int .i64 0, .int .i64 x.1, .int .i64 x.2, .agg #[.int .i64 a0_0, .int .i64 a0_1, .int .i64 a0_2, .int .i64 a0_3, .slice A0_4 l0_4.length c0_4, .slice A0_5 l0_5.length c0_5, .string a0_6, .slice A0_7 l0_7.length c0_7], .int .i64 0, .int .i64 0, .bool false, undef, .agg #[.int .i64 a0_0, .int .i64 a0_1, .int .i64 a0_2, .int .i64 a0_3, .slice A0_4 l0_4.length c0_4, .slice A0_5 l0_5.length c0_5, .string a0_6, .slice A0_7 l0_7.length c0_7], .func (.func 50) #[] #[.pointer (some ⟨w1.heap.size, 0, none⟩)], .int .i64 x.1, .int .i64 x.2, undef, undef, undef, undef], defers := [] })
    (fun x a' X o h => h)
    ?assign ?body ?done ?stop
  case assign =>
    rintro l2 pre x X K _ hX hi hK'
    simp only [pairOf]
    gi_wp2
    exact hK' _ _ (Mid.refl _ _ _) hi rfl
  case body =>
    rintro l2 pre x a' X _ hX ⟨hne, hi, h1, h2, hb⟩ rfl hlen
    have ci : X.cell? ⟨w.heap.size + 1, 0, none⟩ = some (.int .i64 a1) := by simp [World.cell?, hi]
    have c1 : X.cell? ⟨w.heap.size + 1 + 1, 0, none⟩ = some (.int .i64 0) := by simp [World.cell?, h1]
    have c2 : X.cell? ⟨w.heap.size + 1 + 1 + 1, 0, none⟩ = some (.int .i64 0) := by simp [World.cell?, h2]
    have f1 : X.frozen? ⟨w.heap.size + 1 + 1, 0, none⟩ = false := by simp [World.frozen?, h1]
    have f2 : X.frozen? ⟨w.heap.size + 1 + 1 + 1, 0, none⟩ = false := by simp [World.frozen?, h2]
    by_cases hx : x.1 = a1
    · have hxb : (x.1 == a1) = true := by simpa using hx
      have HX := Lib.hid hx
      clear hx
      gi_wp2
      refine ⟨((Mid.refl _ _ _).setCell (q := ⟨w.heap.size + 1 + 1, 0, none⟩) (fun h => by rcases h with h | h <;> simp at h <;> omega) (by simp; omega) _).setCell (q := ⟨w.heap.size + 1 + 1 + 1, 0, none⟩) (fun h => by rcases h with h | h <;> simp at h <;> omega) (by simp; omega) _, rfl, pre, x, rfl, hne, HX.out, ?_, ?_, ?_⟩
      · exact blk_far (blk_set h1 0 _) (by simp) _
      · exact blk_set (blk_far h2 (by simp) _) 0 _
      · exact (hb.setCell (p := ⟨w.heap.size + 1 + 1, 0, none⟩) (by simp; omega) _).setCell (p := ⟨w.heap.size + 1 + 1 + 1, 0, none⟩) (by simp; omega) _
    · have hxb : (x.1 == a1) = false := by simpa using hx
      gi_wp2
      exact ⟨Mid.refl _ _ _, fun y hy => (List.mem_append.1 hy).elim (hne y) (fun e => by simp at e; subst e; exact hx), hi, h1, h2, hb⟩
  case done =>
    rintro D xs X hD rfl ⟨hne, hi, h1, h2, hb⟩ hKD
    have hr : termR a0_2 a0_3 l0_7 a1 = (0, 150) := by
      unfold termR
      rw [← backList_eq, List.find?_eq_none.2 (fun y hy => by simpa using hne y hy)]
    have HR := Lib.hid hr
    clear hr
    have c1 : X.cell? ⟨w.heap.size + 1 + 1, 0, none⟩ = some (.int .i64 0) := by simp [World.cell?, h1]
    have c2 : X.cell? ⟨w.heap.size + 1 + 1 + 1, 0, none⟩ = some (.int .i64 0) := by simp [World.cell?, h2]
    have f1 : X.frozen? ⟨w.heap.size + 1 + 1, 0, none⟩ = false := by simp [World.frozen?, h1]
    have f2 : X.frozen? ⟨w.heap.size + 1 + 1 + 1, 0, none⟩ = false := by simp [World.frozen?, h2]
    gi_wp2
    have hKD' : ((X.setCell ⟨w.heap.size + 1 + 1, 0, none⟩ (.int .i64 0)).setCell ⟨w.heap.size + 1 + 1 + 1, 0, none⟩ (.int .i64 150)).heap[D]? = some (.deferred (some [])) := (Below.heap_setCell _ _ _ _ (by simp; omega)).trans ((Below.heap_setCell _ _ _ _ (by simp; omega)).trans hKD)
    refine ⟨by simp, .inl ⟨_, _, rfl, run_takeDeferred hKD', ?_⟩⟩
    have g1 : (((X.setCell ⟨w.heap.size + 1 + 1, 0, none⟩ (.int .i64 0)).setCell ⟨w.heap.size + 1 + 1 + 1, 0, none⟩ (.int .i64 150)).putObj D (.deferred none)).cell? ⟨w.heap.size + 1 + 1, 0, none⟩ = some (.int .i64 0) := by
      have := blk_far (blk_set h1 0 (.int .i64 0)) (p := ⟨w.heap.size + 1 + 1 + 1, 0, none⟩) (by simp) (.int .i64 150)
      simp [World.cell?, World.putObj_heap_other (r := D) (k := w.heap.size + 1 + 1) (o := .deferred none) (show w.heap.size + 1 + 1 ≠ D by omega), this]
    have g2 : (((X.setCell ⟨w.heap.size + 1 + 1, 0, none⟩ (.int .i64 0)).setCell ⟨w.heap.size + 1 + 1 + 1, 0, none⟩ (.int .i64 150)).putObj D (.deferred none)).cell? ⟨w.heap.size + 1 + 1 + 1, 0, none⟩ = some (.int .i64 150) := by
      have := blk_set (blk_far h2 (p := ⟨w.heap.size + 1 + 1, 0, none⟩) (by simp) (.int .i64 0)) 0 (.int .i64 150)
      simp [World.cell?, World.putObj_heap_other (r := D) (k := w.heap.size + 1 + 1 + 1) (o := .deferred none) (show w.heap.size + 1 + 1 + 1 ≠ D by omega), this]
    refine ⟨.tuple #[.int .i64 0, .int .i64 150], ?_, by rw [HR.out], below_putObj ((hb.setCell (p := ⟨w.heap.size + 1 + 1, 0, none⟩) (by simp; omega) _).setCell (p := ⟨w.heap.size + 1 + 1 + 1, 0, none⟩) (by simp; omega) _) (by omega) _⟩
    simp [results, Try.f15, go_sem, g1, g2]
  case stop =>
    rintro D c pre X hD hpre ⟨rfl, p, x, rfl, hne, hx, h1, h2, hb⟩ hKD
    have hr : termR a0_2 a0_3 l0_7 a1 = (x.2, 0) := by
      unfold termR
      rw [← backList_eq, find_prefix hpre hne hx]
    have HR := Lib.hid hr
    clear hr
    gi_wp2
    refine ⟨by simp, .inl ⟨_, _, rfl, run_takeDeferred hKD, ?_⟩⟩
    have g1 : (X.putObj D (.deferred none)).cell? ⟨w.heap.size + 1 + 1, 0, none⟩ = some (.int .i64 x.2) := by
      simp [World.cell?, World.putObj_heap_other (w := X) (r := D) (k := w.heap.size + 1 + 1) (o := .deferred none) (by omega), h1]
    have g2 : (X.putObj D (.deferred none)).cell? ⟨w.heap.size + 1 + 1 + 1, 0, none⟩ = some (.int .i64 0) := by
      simp [World.cell?, World.putObj_heap_other (w := X) (r := D) (k := w.heap.size + 1 + 1 + 1) (o := .deferred none) (by omega), h2]
    refine ⟨.tuple #[.int .i64 x.2, .int .i64 0], ?_, by rw [HR.out], below_putObj hb (by omega) _⟩
    simp [results, Try.f15, go_sem, g1, g2]

/-- The contract, as the printed callers ask for it. -/
theorem raftlog_Term.calls (a0_0 a0_1 a0_2 a0_3 : Int) (A0_4 : Option Addr) (c0_4 : Nat) (l0_4 : List Int) (A0_5 : Option Addr) (c0_5 : Nat) (l0_5 : List Int) (a0_6 : ByteArray) (A0_7 : Option Addr) (c0_7 : Nat) (l0_7 : List S54) (a1 : Int) (r1 r2 : Int) (w : World)
    (hr0_4 : Kd.C (Kd.int .i64) w A0_4 l0_4.length l0_4) (hc0_4 : l0_4.length ≤ c0_4) (hr0_5 : Kd.C (Kd.int .i64) w A0_5 l0_5.length l0_5) (hc0_5 : l0_5.length ≤ c0_5) (hr0_7 : Kd.C k54 w A0_7 l0_7.length l0_7) (hc0_7 : l0_7.length ≤ c0_7)
    (h : raftlog_Term.f a0_0 a0_1 a0_2 a0_3 l0_4 l0_5 a0_6 l0_7 a1 = some (r1, r2)) :
    Calls Try.prog 15 #[.agg #[.int .i64 a0_0, .int .i64 a0_1, .int .i64 a0_2, .int .i64 a0_3, .slice A0_4 l0_4.length c0_4, .slice A0_5 l0_5.length c0_5, .string a0_6, .slice A0_7 l0_7.length c0_7], .int .i64 a1] w fun e w' => e = .returned (.tuple #[.int .i64 r1, .int .i64 r2]) ∧ Below w.heap.size w w' := by
  simp only [raftlog_Term.f, Option.some.injEq] at h
  cases hk : chk a0_2 l0_7 with
  | false =>
    rw [hk] at h
    simp only [Bool.false_eq_true, if_false, Prod.mk.injEq] at h
    obtain ⟨rfl, rfl⟩ := h
    exact callsIn_wide.1 (raftlog_Term.bad a0_0 a0_1 a0_2 a0_3 A0_4 c0_4 l0_4 A0_5 c0_5 l0_5 a0_6 A0_7 c0_7 l0_7 a1 w hr0_4 hc0_4 hr0_5 hc0_5 hr0_7 hc0_7 hk)
  | true =>
    rw [hk] at h
    simp only [if_true] at h
    have g := callsIn_wide.1 (raftlog_Term.good a0_0 a0_1 a0_2 a0_3 A0_4 c0_4 l0_4 A0_5 c0_5 l0_5 a0_6 A0_7 c0_7 l0_7 a1 w hr0_4 hc0_4 hr0_5 hc0_5 hr0_7 hc0_7 hk)
    rw [h] at g
    exact g
end Go.Proofs.Ytbjhjimkljbjlaa.PA
-- WRITTEN BY hookprint.py (a program of this session, over the kit's print.py): not typed by hand
namespace Go.Proofs.Ytbjhjimkljbjlaa.PA
open Go.RowKit Go.Proofs.YtbjhjimkljbjlaaW.PrintWords Go.Proofs.YtbjhjimkljbjlaaW.PrintLast Go.Proofs.YtbjhjimkljbjlaaW.PrintMore
attribute [local go_sem] max2_int min2_int max_two min_two max_three min_three max_four min_four   -- for this text's walks alone
set_option linter.unusedVariables false
set_option linter.unusedSimpArgs false

/-! ### folkmootlaw16_terms: function 17 -/
end Go.Proofs.Ytbjhjimkljbjlaa.PA
/- Plain laws: the term of a number. -/
namespace Go.Proofs.Ytbjhjimkljbjlaa.PA
open Go.RowKit Go.Proofs.YtbjhjimkljbjlaaW.PrintWords Go.Proofs.YtbjhjimkljbjlaaW.PrintLast

/-- In a log that goes on the numbers are known by their places. -/
theorem log_nums {si : Int} {es : List S54} (hc : chk si es = true) (hw : ∀ e ∈ es, entWf e) : ∀ (j : Nat) (h : j < es.length), es[j].f0 = si + 1 + j := by
  intro j h
  simp only [chk, Bool.and_eq_true, decide_eq_true_eq] at hc
  have h1 := okFrom_all si es es.length 0 hc.2 j (by omega) (by omega)
  simp only [okAt, Bool.and_eq_true, decide_eq_true_eq] at h1
  rw [List.getD_eq_getElem?_getD, List.getElem?_eq_getElem h] at h1
  simp only [Option.getD_some] at h1
  have h2 := bounds_i64 (hw _ (List.getElem_mem h)).1
  have e1 : wrap64 (es[j].f0 - 1) = es[j].f0 - 1 := by unfold wrap64; omega
  have e2 : wrap64 (es[j].f0 - 1 - (j : Int)) = es[j].f0 - 1 - j := by unfold wrap64; omega
  rw [e1, e2] at h1
  omega
/-- The entry of a number. -/
def entAt (si : Int) (es : List S54) (index : Int) : Option S54 := if si < index then es[(index - si - 1).toNat]? else none

theorem find_num {si : Int} {es : List S54} (hn : ∀ (j : Nat) (h : j < es.length), es[j].f0 = si + 1 + j) (index : Int) : es.find? (fun e => e.f0 == index) = entAt si es index := by
  unfold entAt
  by_cases h : si < index ∧ (index - si - 1).toNat < es.length
  · obtain ⟨h1, h2⟩ := h
    rw [if_pos h1, List.getElem?_eq_getElem h2, List.find?_eq_some_iff_getElem]
    refine ⟨by rw [hn _ h2]; simp; omega, _, h2, rfl, fun j hj => ?_⟩
    rw [hn j (by omega)]
    simp
    omega
  · have hnone : (if si < index then es[(index - si - 1).toNat]? else none) = none := by
      by_cases h1 : si < index
      · rw [if_pos h1, List.getElem?_eq_none (by omega)]
      · rw [if_neg h1]
    rw [hnone, List.find?_eq_none]
    intro e he
    obtain ⟨j, hj, rfl⟩ := List.getElem_of_mem he
    rw [hn j hj]
    simp
    omega
theorem find_rev {si : Int} {es : List S54} (hn : ∀ (j : Nat) (h : j < es.length), es[j].f0 = si + 1 + j) (index : Int) : es.reverse.find? (fun e => e.f0 == index) = entAt si es index := by
  unfold entAt
  by_cases h : si < index ∧ (index - si - 1).toNat < es.length
  · obtain ⟨h1, h2⟩ := h
    rw [if_pos h1, List.getElem?_eq_getElem h2, List.find?_eq_some_iff_getElem]
    refine ⟨by rw [hn _ h2]; simp; omega, es.length - 1 - (index - si - 1).toNat, by simp; omega, ?_, fun j hj => ?_⟩
    · rw [List.getElem_reverse]
      congr 1
      omega
    · rw [List.getElem_reverse, hn _ (by omega)]
      simp
      omega
  · have hnone : (if si < index then es[(index - si - 1).toNat]? else none) = none := by
      by_cases h1 : si < index
      · rw [if_pos h1, List.getElem?_eq_none (by omega)]
      · rw [if_neg h1]
    rw [hnone, List.find?_eq_none]
    intro e he
    obtain ⟨j, hj, rfl⟩ := List.getElem_of_mem (List.mem_reverse.1 he)
    rw [hn j hj]
    simp
    omega

theorem termR_eq {si st : Int} {es : List S54} (hn : ∀ (j : Nat) (h : j < es.length), es[j].f0 = si + 1 + j) (index : Int) :
    termR si st es index = if index = si then (st, (0 : Int)) else match entAt si es index with
      | some e => (e.f1, (0 : Int))
      | none => ((0 : Int), (150 : Int)) := by
  unfold termR backL
  rw [List.find?_append, List.find?_map]
  have : ((fun x : Int × Int => x.1 == index) ∘ fun e : S54 => (e.f0, e.f1)) = fun e : S54 => e.f0 == index := rfl
  rw [this, find_rev hn]
  by_cases h : index = si
  · subst h
    rw [if_pos rfl]
    have : entAt index es index = none := by simp [entAt]
    rw [this]
    simp
  · rw [if_neg h]
    cases entAt si es index with
    | some e => simp
    | none => simp [Ne.symm h]

theorem refTerm_l (si st : Int) (es : List S54) (hl : es.length ≤ 9223372036854775807) (t v : Int) (vo le : List Int) (da : ByteArray) (index : Int) : ∀ (d i k : Nat), i + d = es.length → d < k →
    folkmootref16_Term.l0 k index (i : Int) t v si st vo le da es = some (match (es.drop i).find? (fun e => e.f0 == index) with
      | some e => (e.f1, 0)
      | none => (0, 150)) := by
  intro d
  induction d with
  | zero =>
    intro i k h hk
    obtain ⟨k, rfl⟩ : ∃ m, k = m + 1 := ⟨k - 1, by omega⟩
    simp only [folkmootref16_Term.l0]
    rw [if_neg (by omega), List.drop_of_length_le (by omega)]
    rfl
  | succ d ih =>
    intro i k h hk
    obtain ⟨k, rfl⟩ : ∃ m, k = m + 1 := ⟨k - 1, by omega⟩
    simp only [folkmootref16_Term.l0]
    rw [if_pos (by omega), if_pos (by omega)]
    have hrd : rd_T54 es (i : Int) = es[i] := by simp [rd_T54, List.getElem?_eq_getElem (show i < es.length by omega)]
    rw [hrd, List.drop_eq_getElem_cons (show i < es.length by omega), List.find?_cons]
    have hw : wrap64 ((i : Int) + 1) = ((i + 1 : Nat) : Int) := by unfold wrap64; omega
    by_cases h1 : es[i].f0 = index
    · rw [if_pos h1]
      simp [h1]
    · rw [if_neg h1, hw, ih (i + 1) k (by omega) (by omega)]
      have : (es[i].f0 == index) = false := by simpa using h1
      rw [this]

theorem refTerm_eq (k : Nat) (t v si st : Int) (vo le : List Int) (da : ByteArray) (es : List S54) (index : Int) (hk : es.length + 3 ≤ k) (hs : es.length ≤ 9223372036854775807) (hw : ∀ e ∈ es, entWf e) :
    folkmootref16_Term.f k t v si st vo le da es index = some (if chk si es = true then termR si st es index else (0, 1)) := by
  simp only [folkmootref16_Term.f]
  rw [on_eq k t v si st vo le da es hk]
  simp only [Option.bind_some]
  cases hc : chk si es with
  | false => simp
  | true =>
    simp only [if_true]
    have hn := log_nums hc hw
    rw [termR_eq hn]
    by_cases h : index = si
    · rw [if_pos h, if_pos h]
    · rw [if_neg h, if_neg h]
      have := refTerm_l si st es hs t v vo le da index es.length 0 k (by omega) (by omega)
      rw [show ((0 : Nat) : Int) = 0 from rfl] at this
      rw [this, List.drop_zero, find_num hn]

end Go.Proofs.Ytbjhjimkljbjlaa.PA
/- over: it writes over entries of the call's own, and over nothing else. -/
namespace Go.Proofs.Ytbjhjimkljbjlaa.PA
open Go.RowKit Go.Proofs.YtbjhjimkljbjlaaW.PrintWords Go.Proofs.YtbjhjimkljbjlaaW.PrintLast
set_option linter.unusedVariables false

/-- The blocks keep their types and sizes; of rows of entries all but the texts stays. -/
structure Alike54 (base : Nat) (w wr : World) : Prop where
  below : Below base w wr
  cells : ∀ (k : Nat) (cs : Array Value) (t : TypeId) (fr : Nat × Nat), w.heap[k]? = some (.cells cs t fr) → ∃ cs', wr.heap[k]? = some (.cells cs' t fr) ∧ cs'.size = cs.size ∧ (t = 54 → ∀ i, i % 6 ≠ 5 → cs'[i]? = cs[i]?)
theorem Alike54.refl (base : Nat) (w : World) : Alike54 base w w := ⟨Below.refl _ _, fun k cs t fr h => ⟨cs, h, rfl, fun _ _ _ => rfl⟩⟩
theorem Alike54.set {base : Nat} {w wr : World} (h : Alike54 base w wr) {g j : Nat} (hg : base ≤ g) (v : Value) (hok : ∀ cs fr, wr.heap[g]? = some (.cells cs 54 fr) → j % 6 = 5) : Alike54 base w (wr.setCell ⟨g, j, none⟩ v) := by
  refine ⟨h.below.setCell (p := ⟨g, j, none⟩) hg _, fun k cs t fr hk => ?_⟩
  obtain ⟨cs', h1, h2, h3⟩ := h.cells k cs t fr hk
  by_cases e : k = g
  · subst e
    refine ⟨cs'.setIfInBounds j v, ?_, by simpa using h2, fun ht i hi => ?_⟩
    · simp [World.setCell, Array.getElem?_modify, h1]
    · subst ht
      have := hok cs' fr h1
      rw [Array.getElem?_setIfInBounds_ne (by omega)]
      exact h3 rfl i hi
  · exact ⟨cs', (Below.heap_setCell wr ⟨g, j, none⟩ v k e).trans h1, h2, h3⟩

/-- What over needs of its row: where each entry's voters lie. -/
structure OverRow (w : World) (base : Nat) (v : Value) (n : Nat) : Prop where
  nil : n = 0 → ∃ A c, v = .slice A 0 c
  pos : 0 < n → ∃ g cap cur, v = .slice (some ⟨g, 0, none⟩) n cap ∧ base ≤ g ∧ w.heap[g]? = some (.cells cur 54 (0, 0)) ∧ n * 6 ≤ cur.size ∧ n ≤ 9223372036854775807 ∧
    ∀ i, i < n → ∃ A m c, cur[i * 6 + 3]? = some (.slice A m c) ∧ m ≤ c ∧ (0 < m → ∃ gi ci, A = some ⟨gi, 0, none⟩ ∧ base ≤ gi ∧ w.heap[gi]? = some (.cells ci 3 (0, 0)) ∧ m ≤ ci.size ∧ m ≤ 9223372036854775807)

end Go.Proofs.Ytbjhjimkljbjlaa.PA
/- copy(dst, src) where dst is a whole row of the call's own, and src is as long as it. -/
namespace Go.Proofs.YtbjhjimkljbjlaaCopy
open Go Go.RowKit

/-- Only block g has turned. -/
structure Only (g : Nat) (w w' : World) : Prop where
  os : w'.os = w.os
  tape : w'.tape = w.tape
  output : w'.output = w.output
  size : w'.heap.size = w.heap.size
  block : ∀ k, k ≠ g → w'.heap[k]? = w.heap[k]?
theorem Only.refl (g : Nat) (w : World) : Only g w w := ⟨rfl, rfl, rfl, rfl, fun _ _ => rfl⟩
theorem Only.below {g B : Nat} {w w' : World} (h : Only g w w') (hB : B ≤ g) : Below B w w' :=
  ⟨h.os, h.tape, h.output, by rw [h.size]; exact Nat.le_refl _, fun k hk => h.block k (by omega)⟩
theorem only_setRow (w : World) (g : Nat) (cs : Array Value) : Only g w (w.setRow g cs) :=
  ⟨rfl, rfl, rfl, by simp [World.setRow], fun k hk => setRow_other w g k cs hk⟩

theorem wpList_copy_all {P : Program} {w : World} {ops : Array Oper} {rest : List Oper} {o : Oper} {a : Act} {Q : Exit → Act → World → Prop} (hgd : o.guard = none) (d s : Operand) (dT sT : TypeId)
    (ho : o.op = .call { callee := .builtin .copy, args := #[d, s], argTypes := #[dT, sT] }) (elem : TypeId) (hu : P.underlying dT = some (.slice elem)) (hsz : (P.info? elem).map (·.size) = some 1)
    (g n dCap sCap : Nat) (sp : Option Addr) (hd : a.eval d = .slice (some ⟨g, 0, none⟩) n dCap) (hs : a.eval s = .slice sp n sCap)
    (cur : Array Value) (hcur : cur.size = n) (t : TypeId) (hg : w.heap[g]? = some (.cells cur t (0, 0))) (cs : List Value) (hn : cs.length = n)
    (hsrc : 0 < n → ∃ ad, sp = some ad ∧ ∀ j v, cs[j]? = some v → w.cell? (ad.add j) = some v) (h1 : ∀ v ∈ cs, v.oneCell' = true)
    (h : ∀ w', Only g w w' → w'.heap[g]? = some (.cells cs.toArray t (0, 0)) → wpList P ops Q rest (a.put o.dst (goInt n)) w') :
    wpList P ops Q (o :: rest) a w := by
  rcases Nat.eq_zero_or_pos n with h0 | h0
  · subst h0
    refine wpList_copy_nothing hgd d s dT sT ho elem hu hsz _ sp 0 dCap 0 sCap hd hs rfl ?_
    have e1 : cur = #[] := Array.eq_empty_of_size_eq_zero hcur
    have e2 : cs = [] := List.eq_nil_of_length_eq_zero hn
    subst e1 e2
    exact h w (Only.refl _ _) hg
  · obtain ⟨ad, rfl, hc⟩ := hsrc h0
    refine wpList_copy_own hgd d s dT sT ho elem hu hsz g 0 n dCap ad n sCap hd hs cur t hg cs (by rw [hn]; exact (Nat.min_self n).symm) hc (by omega) h1 ?_
    have e : (cur.toList.take 0 ++ (cs ++ cur.toList.drop (0 + cs.length))).toArray = cs.toArray := by
      rw [List.take_zero, List.nil_append, List.drop_of_length_le (by simp; omega), List.append_nil]
    rw [e, hn]
    exact h _ (only_setRow w g _) (setRow_heap w g _ _ t _ hg)
end Go.Proofs.YtbjhjimkljbjlaaCopy
/- raftlog.ownConfig: a configuration in memory of its own. -/
namespace Go.Proofs.Ytbjhjimkljbjlaa.PA
open Go.RowKit Go.Proofs.YtbjhjimkljbjlaaW.PrintWords Go.Proofs.YtbjhjimkljbjlaaW.PrintLast Go.Proofs.YtbjhjimkljbjlaaCopy
set_option linter.unusedVariables false

/-- Where things lie behind the makes: the row blocks, the new struct's. -/
structure Made2 (w wc : World) (B : Nat) (n0 n1 : Nat) (src res : Array Value) (g3 g0 g1 : Nat) : Prop where
  below : Below w.heap.size w wc
  b3 : B + 2 ≤ g3
  b0 : B + 2 ≤ g0
  b1 : B + 2 ≤ g1
  n30 : g3 ≠ g0
  n31 : g3 ≠ g1
  n01 : g0 ≠ g1
  h3 : wc.heap[g3]? = some (.cells #[.slice (some ⟨g0, 0, none⟩) n0 n0, .slice (some ⟨g1, 0, none⟩) n1 n1] 25)
  h0 : wc.heap[g0]? = some (.cells (madeCells #[.int .i64 0] n0) 3)
  h1 : wc.heap[g1]? = some (.cells (madeCells #[.int .i64 0] n1) 3)
  hs : wc.heap[B]? = some (.cells src 25)
  hr : wc.heap[B + 1]? = some (.cells res 25)

/-- Behind a copy into one of the rows. -/
structure Copied (w wc : World) (B : Nat) (n0 n1 : Nat) (src res : Array Value) (g3 g0 g1 : Nat) : Prop where
  below : Below w.heap.size w wc
  p30 : wc.cell? ⟨g3, 0, none⟩ = some (.slice (some ⟨g0, 0, none⟩) n0 n0)
  p31 : wc.cell? ⟨g3, 1, none⟩ = some (.slice (some ⟨g1, 0, none⟩) n1 n1)
  hs : wc.heap[B]? = some (.cells src 25 (0, 0))
  hr : wc.heap[B + 1]? = some (.cells res 25 (0, 0))
theorem Made2.copied {w wc : World} {n0 n1 : Nat} {src res : Array Value} {g3 g0 g1 : Nat} (M : Made2 w wc w.heap.size n0 n1 src res g3 g0 g1) : Copied w wc w.heap.size n0 n1 src res g3 g0 g1 :=
  ⟨M.below, by simp [World.cell?, M.h3], by simp [World.cell?, M.h3], M.hs, M.hr⟩
theorem Copied.only {w wc w2 : World} {n0 n1 : Nat} {src res : Array Value} {g3 g0 g1 g : Nat} (M : Copied w wc w.heap.size n0 n1 src res g3 g0 g1) (h : Only g wc w2) (hg : w.heap.size + 2 ≤ g) (h3 : g3 ≠ g) : Copied w w2 w.heap.size n0 n1 src res g3 g0 g1 :=
  ⟨M.below.trans (h.below (by omega)), (World.cell?_of_block (w := wc) (a := ⟨g3, 0, none⟩) (h.block g3 h3)).trans M.p30, (World.cell?_of_block (w := wc) (a := ⟨g3, 1, none⟩) (h.block g3 h3)).trans M.p31,
    (h.block _ (by omega)).trans M.hs, (h.block _ (by omega)).trans M.hr⟩
theorem cells2 {w : World} {g t : Nat} {v0 v1 : Value} (h : w.heap[g]? = some (.cells #[v0, v1] t (0, 0))) : w.cell? ⟨g, 0, none⟩ = some v0 ∧ w.cell? ⟨g, 1, none⟩ = some v1 ∧ w.frozen? ⟨g, 0, none⟩ = false ∧ w.frozen? ⟨g, 1, none⟩ = false := by
  simp [World.cell?, World.frozen?, h]

theorem src_cells {w wc : World} {A : Option Addr} {l : List Int} (h : Kd.C (Kd.int .i64) w A l.length l) (hb : Below w.heap.size w wc) :
    0 < l.length → ∃ ad, A = some ad ∧ ∀ j v, (nums .i64 l)[j]? = some v → wc.cell? (ad.add j) = some v := by
  intro hn
  obtain ⟨ad, hA, hc⟩ := (Kd.C_below h hb).2.2 hn
  refine ⟨ad, hA, fun j v hv => ?_⟩
  rw [nums, List.getElem?_map, Option.map_eq_some_iff] at hv
  obtain ⟨x, hx, rfl⟩ := hv
  obtain ⟨c, hl, hk, hcell⟩ := hc j x hx
  have hk' : c = [.int .i64 x] := hk
  subst hk'
  have := hcell 0 _ rfl
  rwa [show (Kd.int .i64).sz = 1 from rfl, Nat.mul_one, Nat.add_zero] at this

theorem made_size (n : Nat) : (madeCells #[Value.int .i64 0] n).size = n := by simp [size_madeCells]
theorem nums_one (l : List Int) : ∀ v ∈ nums .i64 l, v.oneCell' = true := fun v hv => by
  obtain ⟨x, _, rfl⟩ := List.mem_map.1 hv
  rfl

theorem alloc_heap (w : World) (o : Obj) : (w.alloc o).heap = w.heap.push o := rfl
theorem drew_heap (w : World) : w.drew.heap = w.heap := rfl

set_option maxRecDepth 100000 in
set_option maxHeartbeats 4000000 in
theorem ownConfig_walk (A0 : Option Addr) (c0 : Nat) (l0 : List Int) (A1 : Option Addr) (c1 : Nat) (l1 : List Int) (w : World) (r0 : Kd.C (Kd.int .i64) w A0 l0.length l0) (r1 : Kd.C (Kd.int .i64) w A1 l1.length l1) (h0 : l0.length < 17592186044416) (h1 : l1.length < 17592186044416) :
    Calls Try.prog 53 #[.agg #[.slice A0 l0.length c0, .slice A1 l1.length c1]] w fun e w' => ∃ g0 g1 : Nat, e = .returned (.agg #[.slice (some ⟨g0, 0, none⟩) l0.length l0.length, .slice (some ⟨g1, 0, none⟩) l1.length l1.length]) ∧ Below w.heap.size w w' ∧ w.heap.size ≤ g0 ∧ w.heap.size ≤ g1 ∧ g0 ≠ g1 ∧
      w'.heap[g0]? = some (.cells (nums .i64 l0).toArray 3 (0, 0)) ∧ w'.heap[g1]? = some (.cells (nums .i64 l1).toArray 3 (0, 0)) := by
  have m0 := print_make (P := Try.prog) 23 3 .i64 8 Try.underlying23 info3 (by omega) l0.length (by omega)
  have m1 := print_make (P := Try.prog) 23 3 .i64 8 Try.underlying23 info3 (by omega) l1.length (by omega)
  go_enter Try.func53, Try.ntmps53
  go_wp2
  go_cut [3] (fun v3 wc => ∃ g3 g0 g1 : Nat, v3 = .pointer (some ⟨g3, 0, none⟩) ∧ Made2 w wc w.heap.size l0.length l1.length #[.slice A0 l0.length c0, .slice A1 l1.length c1] #[.slice none 0 0, .slice none 0 0] g3 g0 g1)
  case first =>
    go_region
    all_goals (go_wp2_with fail; go_meet)
    all_goals first
      | (refine ⟨_, w.heap.size + 1 + 1, w.heap.size + 1 + 1 + 1, rfl, ⟨((((((Below.refl _ w).alloc (Nat.le_refl _) _).alloc (by simp) _).alloc (by simp; omega) _).alloc (by simp; omega) _).alloc (by simp; omega) _).drew, by omega, by omega, by omega, by omega, by omega, by omega, ?_, ?_, ?_, ?_, ?_⟩⟩ <;> (simp only [alloc_heap, drew_heap, Array.getElem?_push, Array.size_push]; (repeat (first | rfl | rw [if_pos trivial] | rw [if_pos (by omega)] | rw [if_neg (by omega)])); done))
      | (refine ⟨_, w.heap.size + 1 + 1 + 1, w.heap.size + 1 + 1, rfl, ⟨((((((Below.refl _ w).alloc (Nat.le_refl _) _).alloc (by simp) _).alloc (by simp; omega) _).alloc (by simp; omega) _).alloc (by simp; omega) _).drew, by omega, by omega, by omega, by omega, by omega, by omega, ?_, ?_, ?_, ?_, ?_⟩⟩ <;> (simp only [alloc_heap, drew_heap, Array.getElem?_push, Array.size_push]; (repeat (first | rfl | rw [if_pos trivial] | rw [if_pos (by omega)] | rw [if_neg (by omega)])); done))
      | (refine ⟨_, w.heap.size + 1 + 1, w.heap.size + 1 + 1 + 1 + 1, rfl, ⟨((((((Below.refl _ w).alloc (Nat.le_refl _) _).alloc (by simp) _).alloc (by simp; omega) _).alloc (by simp; omega) _).alloc (by simp; omega) _).drew, by omega, by omega, by omega, by omega, by omega, by omega, ?_, ?_, ?_, ?_, ?_⟩⟩ <;> (simp only [alloc_heap, drew_heap, Array.getElem?_push, Array.size_push]; (repeat (first | rfl | rw [if_pos trivial] | rw [if_pos (by omega)] | rw [if_neg (by omega)])); done))
      | (refine ⟨_, w.heap.size + 1 + 1 + 1 + 1, w.heap.size + 1 + 1, rfl, ⟨((((((Below.refl _ w).alloc (Nat.le_refl _) _).alloc (by simp) _).alloc (by simp; omega) _).alloc (by simp; omega) _).alloc (by simp; omega) _).drew, by omega, by omega, by omega, by omega, by omega, by omega, ?_, ?_, ?_, ?_, ?_⟩⟩ <;> (simp only [alloc_heap, drew_heap, Array.getElem?_push, Array.size_push]; (repeat (first | rfl | rw [if_pos trivial] | rw [if_pos (by omega)] | rw [if_neg (by omega)])); done))
      | (refine ⟨_, w.heap.size + 1 + 1 + 1, w.heap.size + 1 + 1 + 1 + 1, rfl, ⟨((((((Below.refl _ w).alloc (Nat.le_refl _) _).alloc (by simp) _).alloc (by simp; omega) _).alloc (by simp; omega) _).alloc (by simp; omega) _).drew, by omega, by omega, by omega, by omega, by omega, by omega, ?_, ?_, ?_, ?_, ?_⟩⟩ <;> (simp only [alloc_heap, drew_heap, Array.getElem?_push, Array.size_push]; (repeat (first | rfl | rw [if_pos trivial] | rw [if_pos (by omega)] | rw [if_neg (by omega)])); done))
      | (refine ⟨_, w.heap.size + 1 + 1 + 1 + 1, w.heap.size + 1 + 1 + 1, rfl, ⟨((((((Below.refl _ w).alloc (Nat.le_refl _) _).alloc (by simp) _).alloc (by simp; omega) _).alloc (by simp; omega) _).alloc (by simp; omega) _).drew, by omega, by omega, by omega, by omega, by omega, by omega, ?_, ?_, ?_, ?_, ?_⟩⟩ <;> (simp only [alloc_heap, drew_heap, Array.getElem?_push, Array.size_push]; (repeat (first | rfl | rw [if_pos trivial] | rw [if_pos (by omega)] | rw [if_neg (by omega)])); done))
  case rest =>
    clear m0 m1
    obtain ⟨g3, g0, g1, rfl, M⟩ := hcut
    have hsz : (Try.prog.info? 3).map (·.size) = some 1 := by kernel_rfl
    have HC := Lib.hid M.copied
    obtain ⟨qs0, qs1, _, _⟩ := cells2 HC.out.hs
    have q30 := HC.out.p30
    have S0 := Lib.hid (src_cells r0 M.below)
    have R1 := Lib.hid r1
    have M' := Lib.hid M
    clear M r0 r1
    have Z0 := Lib.hid (made_size l0.length)
    have Z1 := Lib.hid (made_size l1.length)
    have O0 := Lib.hid (nums_one l0)
    have O1 := Lib.hid (nums_one l1)
    go_wp2_with (first | (refine wpList_copy_all rfl (.tmp 14) (.tmp 16) 23 23 rfl 3 Try.underlying23 hsz g0 l0.length l0.length c0 A0 rfl rfl _ Z0.out 3 M'.out.h0 (nums .i64 l0) (nums_length _ _) S0.out O0.out ?_; intro w2 ho2 hg2; have HO2 := Lib.hid ho2; have HG2 := Lib.hid hg2; clear ho2 hg2; have HC2 := Lib.hid (HC.out.only HO2.out M'.out.b0 M'.out.n30); clear q30 qs0 qs1; obtain ⟨qs0, qs1, _, _⟩ := cells2 HC2.out.hs; have q31 := HC2.out.p31) | (refine wpList_copy_all rfl (.tmp 19) (.tmp 21) 23 23 rfl 3 Try.underlying23 hsz g1 l1.length l1.length c1 A1 rfl rfl _ Z1.out 3 ((HO2.out.block _ M'.out.n01.symm).trans M'.out.h1) (nums .i64 l1) (nums_length _ _) (src_cells R1.out HC2.out.below) O1.out ?_; intro w3 ho3 hg3; have HO3 := Lib.hid ho3; have HG3 := Lib.hid hg3; clear ho3 hg3; have HC3 := Lib.hid (HC2.out.only HO3.out M'.out.b1 M'.out.n31); clear q31 qs0 qs1; obtain ⟨t0, t1, f0, f1⟩ := cells2 HC3.out.hr; have q30 := HC3.out.p30; have q31 := HC3.out.p31))
    refine bodyPost_ret (v := .agg #[.slice (some ⟨g0, 0, none⟩) l0.length l0.length, .slice (some ⟨g1, 0, none⟩) l1.length l1.length]) ?_ rfl ?_
    · simp [results, Try.results53, go_sem, t0, t1]
    · have hb0 := M'.out.b0
      have hb1 := M'.out.b1
      refine ⟨g0, g1, rfl, (HC3.out.below.setCell (p := ⟨w.heap.size + 1, 0, none⟩) (by simp) _).setCell (p := ⟨w.heap.size + 1, 1, none⟩) (by simp) _, by omega, by omega, M'.out.n01, ?_, ?_⟩
      · exact blk_far (blk_far ((HO3.out.block _ M'.out.n01).trans HG2.out) (by simp; omega) _) (by simp; omega) _
      · exact blk_far (blk_far HG3.out (by simp; omega) _) (by simp; omega) _

theorem row_known {w : World} {base g : Nat} {l : List Int} (h : w.heap[g]? = some (.cells (nums .i64 l).toArray 3 (0, 0))) (hg : base ≤ g) (hl : l.length ≤ 9223372036854775807) (ok : Nat → Prop) (hok : ok g) :
    Kd.R (Kd.int .i64) 3 w base ok (.slice (some ⟨g, 0, none⟩) l.length l.length) l := by
  refine Kd.R_of_own ⟨by simp [encs], .inr ⟨g, l.length, (nums .i64 l).toArray, rfl, hg, h, Nat.le_refl _, by simpa [maxLen] using hl, by simp [nums], ?_⟩⟩ (fun k hk => ?_)
  · rw [Nat.mul_one, List.take_of_length_le (by simp [nums])]
    rfl
  · simp only [Value.ownBlock, Option.some.injEq] at hk
    exact hk ▸ hok

def raftlog_ownConfig.f (l0_0 l0_1 : List Int) : Option (List Int × List Int) := if l0_0.length < 17592186044416 then (if l0_1.length < 17592186044416 then some (l0_0, l0_1) else none) else none

/-- The contract, as the printed callers ask for it. -/
theorem raftlog_ownConfig.calls (A0_0 : Option Addr) (c0_0 : Nat) (l0_0 : List Int) (A0_1 : Option Addr) (c0_1 : Nat) (l0_1 : List Int) (r1 r2 : List Int) (w : World) (hr0_0 : Kd.C (Kd.int .i64) w A0_0 l0_0.length l0_0) (hc0_0 : l0_0.length ≤ c0_0) (hr0_1 : Kd.C (Kd.int .i64) w A0_1 l0_1.length l0_1) (hc0_1 : l0_1.length ≤ c0_1) (h : raftlog_ownConfig.f l0_0 l0_1 = some (r1, r2)) :
    Calls Try.prog 53 #[.agg #[.slice A0_0 l0_0.length c0_0, .slice A0_1 l0_1.length c0_1]] w fun e w' => ∃ v0_ v1_ : Value, e = .returned (.agg #[v0_, v1_]) ∧ Kd.R (Kd.int .i64) 3 w' w.heap.size (fun k_ => some k_ ≠ (v1_ : Value).ownBlock) v0_ r1 ∧ Kd.R (Kd.int .i64) 3 w' w.heap.size (fun k_ => some k_ ≠ (v0_ : Value).ownBlock) v1_ r2 ∧ Below w.heap.size w w' := by
  unfold raftlog_ownConfig.f at h
  by_cases h0 : l0_0.length < 17592186044416
  · by_cases h1 : l0_1.length < 17592186044416
    · rw [if_pos h0, if_pos h1] at h
      simp only [Option.some.injEq, Prod.mk.injEq] at h
      obtain ⟨rfl, rfl⟩ := h
      refine (ownConfig_walk A0_0 c0_0 l0_0 A0_1 c0_1 l0_1 w hr0_0 hr0_1 h0 h1).mono ?_
      rintro e w' ⟨g0, g1, rfl, hb, b0, b1, hne, k0, k1⟩
      exact ⟨_, _, rfl, row_known k0 b0 (by omega) _ (by simpa [Value.ownBlock] using hne), row_known k1 b1 (by omega) _ (by simpa [Value.ownBlock] using fun e => hne e.symm), hb⟩
    · rw [if_pos h0, if_neg h1] at h; cases h
  · rw [if_neg h0] at h; cases h
end Go.Proofs.Ytbjhjimkljbjlaa.PA
-- WRITTEN BY hookprint.py (a program of this session, over the kit's print.py): not typed by hand
namespace Go.Proofs.Ytbjhjimkljbjlaa.PA
open Go.RowKit Go.Proofs.YtbjhjimkljbjlaaW.PrintWords Go.Proofs.YtbjhjimkljbjlaaW.PrintLast Go.Proofs.YtbjhjimkljbjlaaW.PrintMore
attribute [local go_sem] max2_int min2_int max_two min_two max_three min_three max_four min_four   -- for this text's walks alone
set_option linter.unusedVariables false
set_option linter.unusedSimpArgs false

/-! ### folkmootref15_config: function 52 -/
def folkmootref15_config.f (l0_0 : List Int) (l0_1 : List Int) : Option (List Int × List Int) := if ([] : List Int).length + l0_0.length < 17592186044416 then (if ([] : List Int).length + l0_1.length < 17592186044416 then (some ((([] : List Int) ++ l0_0), (([] : List Int) ++ l0_1))) else (none)) else (none)
set_option maxHeartbeats 8000000 in
set_option maxRecDepth 100000 in
theorem folkmootref15_config.calls (A0_0 : Option Addr) (c0_0 : Nat) (l0_0 : List Int) (A0_1 : Option Addr) (c0_1 : Nat) (l0_1 : List Int) (r1 : List Int) (r2 : List Int) (w : World) (hr0_0 : Kd.C (Kd.int .i64) w A0_0 l0_0.length l0_0) (hc0_0 : l0_0.length ≤ c0_0) (hr0_1 : Kd.C (Kd.int .i64) w A0_1 l0_1.length l0_1) (hc0_1 : l0_1.length ≤ c0_1) (h : folkmootref15_config.f l0_0 l0_1 = some (r1, r2)) :
    Calls Try.prog 52 #[.agg #[.slice A0_0 l0_0.length c0_0, .slice A0_1 l0_1.length c0_1]] w fun e w' => ∃ v0_ v1_ : Value, e = .returned (.agg #[v0_, v1_]) ∧ Kd.R (Kd.int .i64) 3 w' w.heap.size (fun k_ => some k_ ≠ (v1_ : Value).ownBlock) v0_ r1 ∧ Kd.R (Kd.int .i64) 3 w' w.heap.size (fun k_ => some k_ ≠ (v0_ : Value).ownBlock) v1_ r2 ∧ Below w.heap.size w w' := by
  have hu25 := Try.underlying25
  have HR0_0 := Aside0.mk hr0_0
  have HC0_0 := Aside0.mk hc0_0
  clear hr0_0 hc0_0
  have HR0_1 := Aside0.mk hr0_1
  have HC0_1 := Aside0.mk hc0_1
  clear hr0_1 hc0_1
  have HB := Aside0.mk (Below.refl w.heap.size w)
  have H : (if ([] : List Int).length + l0_0.length < 17592186044416 then (if ([] : List Int).length + l0_1.length < 17592186044416 then (some ((([] : List Int) ++ l0_0), (([] : List Int) ++ l0_1))) else (none)) else (none)) = some (r1, r2) := h
  clear h
  by_cases c2 : ([] : List Int).length + l0_0.length < 17592186044416
  · rw [if_pos c2] at H
    have LMc2 := Aside0.mk c2
    clear c2
    obtain ⟨y249, hy249⟩ : ∃ y_ : List Int, y_ = (([] : List Int) ++ l0_0) := ⟨_, rfl⟩
    replace H : (if ([] : List Int).length + l0_1.length < 17592186044416 then (some (y249, (([] : List Int) ++ l0_1))) else (none)) = some (r1, r2) := by first | (rw [hy249]; with_reducible exact H) | (have H2_ := (Option.bind_some _ _).symm.trans H; rw [hy249]; with_reducible exact H2_) | (have H2_ := (Option.bind_some _ _).symm.trans H; with_reducible exact H2_) | with_reducible exact H | (rw [hy249]; exact H) | exact H
    have Ny249 := Aside0.mk hy249
    clear hy249
    by_cases c3 : ([] : List Int).length + l0_1.length < 17592186044416
    · rw [if_pos c3] at H
      have LMc3 := Aside0.mk c3
      clear c3
      obtain ⟨y252, hy252⟩ : ∃ y_ : List Int, y_ = (([] : List Int) ++ l0_1) := ⟨_, rfl⟩
      replace H : (some (y249, y252)) = some (r1, r2) := by first | (rw [hy252]; with_reducible exact H) | (have H2_ := (Option.bind_some _ _).symm.trans H; rw [hy252]; with_reducible exact H2_) | (have H2_ := (Option.bind_some _ _).symm.trans H; with_reducible exact H2_) | with_reducible exact H | (rw [hy252]; exact H) | exact H
      have Ny252 := Aside0.mk hy252
      clear hy252
      simp only [Option.some.injEq, Prod.mk.injEq] at H
      obtain ⟨rfl, rfl⟩ := H
      go_enter Try.func52, Try.ntmps52
      go_wp2_with (first | ((with_reducible refine gate_dst (N := 1) rfl ?_); refine box_event ?hg (N := 1) ?hd (cs := #[.slice A0_0 l0_0.length c0_0, .slice A0_1 l0_1.length c0_1]) (t := 25) ?hr ?_; (case hd => rfl); (case hg => rfl); (case hr => first | (go_simp; done) | (go_simp; rfl)); intro gb246 hg w4 hbox hb; have n0_ := Aside0.mk (below_step (by repeat (first | (with_reducible first | exact HB.out | apply below_alloc | apply pw_below_drewN | apply below_drew1) | exact HB.out)) hb); have n1_ := Aside0.mk (hbox); have n2_ := Aside0.mk ((by rw [hg]; exact (below_size (by repeat (first | (with_reducible first | exact HB.out | apply below_alloc | apply pw_below_drewN | apply below_drew1) | exact HB.out))) : w.heap.size ≤ gb246)); have n3_ := Aside0.mk ((by rw [hg]; exact (below_size (by repeat (first | (with_reducible first | exact HB.out | apply below_alloc | apply pw_below_drewN | apply below_drew1) | exact HB.out))) : w.heap.size ≤ gb246)); clear HB; have HB := n0_; have BK246 := n1_; have GW246 := n2_; have GE246 := n3_; clear n0_ n1_ n2_ n3_; clear hb hbox hg) | ((with_reducible refine gate_dst (N := 2) rfl ?_); refine box_event ?hg (N := 2) ?hd (cs := #[.slice none 0 0, .slice none 0 0]) (t := 25) ?hr ?_; (case hd => rfl); (case hg => rfl); (case hr => first | (go_simp; done) | (go_simp; rfl)); intro gb247 hg w5 hbox hb; have n0_ := Aside0.mk (blk_below (g := gb246) (o := .cells #[.slice A0_0 l0_0.length c0_0, .slice A0_1 l0_1.length c0_1] 25 (0, 0)) (by (with_reducible repeat (first | refine blk_drewN ?_ _ | refine blk_drew ?_ | refine blk_alloc ?_ _)); exact BK246.out) hb); have n1_ := Aside0.mk (below_step (by repeat (first | (with_reducible first | exact HB.out | apply below_alloc | apply pw_below_drewN | apply below_drew1 | refine below_set ?_ GE246.out) | exact HB.out)) hb); have n2_ := Aside0.mk (hbox); have n3_ := Aside0.mk ((by rw [hg]; exact (below_size (by repeat (first | (with_reducible first | exact HB.out | apply below_alloc | apply pw_below_drewN | apply below_drew1 | refine below_set ?_ GE246.out) | exact HB.out))) : w.heap.size ≤ gb247)); have n4_ := Aside0.mk ((by rw [hg]; exact (below_size (by repeat (first | (with_reducible first | exact HB.out | apply below_alloc | apply pw_below_drewN | apply below_drew1 | refine below_set ?_ GE246.out) | exact HB.out))) : w.heap.size ≤ gb247)); have n5_ := Aside0.mk ((by rw [hg]; exact Nat.ne_of_lt (blk_lt (g := gb246) (o := .cells #[.slice A0_0 l0_0.length c0_0, .slice A0_1 l0_1.length c0_1] 25 (0, 0)) (by (with_reducible repeat (first | refine blk_drewN ?_ _ | refine blk_drew ?_ | refine blk_alloc ?_ _)); exact BK246.out)) : gb246 ≠ gb247)); have n6_ := Aside0.mk ((by rw [hg]; exact Nat.ne_of_gt (blk_lt (g := gb246) (o := .cells #[.slice A0_0 l0_0.length c0_0, .slice A0_1 l0_1.length c0_1] 25 (0, 0)) (by (with_reducible repeat (first | refine blk_drewN ?_ _ | refine blk_drew ?_ | refine blk_alloc ?_ _)); exact BK246.out)) : gb247 ≠ gb246)); clear BK246; clear HB; have BK246 := n0_; have HB := n1_; have BK247 := n2_; have GW247 := n3_; have GE247 := n4_; have NB246_247 := n5_; have NB247_246 := n6_; clear n0_ n1_ n2_ n3_ n4_ n5_ n6_; clear hb hbox hg) | ((with_reducible refine gate_dst (N := 3) rfl ?_); refine box_event ?hg (N := 3) ?hd (cs := #[.slice none 0 0, .slice none 0 0]) (t := 25) ?hr ?_; (case hd => rfl); (case hg => rfl); (case hr => first | (go_simp; done) | (go_simp; rfl)); intro gb248 hg w6 hbox hb; have n0_ := Aside0.mk (blk_below (g := gb246) (o := .cells #[.slice A0_0 l0_0.length c0_0, .slice A0_1 l0_1.length c0_1] 25 (0, 0)) (by (with_reducible repeat (first | refine blk_drewN ?_ _ | refine blk_drew ?_ | refine blk_alloc ?_ _)); exact BK246.out) hb); have n1_ := Aside0.mk (blk_below (g := gb247) (o := .cells #[.slice none 0 0, .slice none 0 0] 25 (0, 0)) (by (with_reducible repeat (first | refine blk_drewN ?_ _ | refine blk_drew ?_ | refine blk_alloc ?_ _)); exact BK247.out) hb); have n2_ := Aside0.mk (below_step (by repeat (first | (with_reducible first | exact HB.out | apply below_alloc | apply pw_below_drewN | apply below_drew1 | refine below_set ?_ GE246.out | refine below_set ?_ GE247.out) | exact HB.out)) hb); have n3_ := Aside0.mk (hbox); have n4_ := Aside0.mk ((by rw [hg]; exact (below_size (by repeat (first | (with_reducible first | exact HB.out | apply below_alloc | apply pw_below_drewN | apply below_drew1 | refine below_set ?_ GE246.out | refine below_set ?_ GE247.out) | exact HB.out))) : w.heap.size ≤ gb248)); have n5_ := Aside0.mk ((by rw [hg]; exact (below_size (by repeat (first | (with_reducible first | exact HB.out | apply below_alloc | apply pw_below_drewN | apply below_drew1 | refine below_set ?_ GE246.out | refine below_set ?_ GE247.out) | exact HB.out))) : w.heap.size ≤ gb248)); have n6_ := Aside0.mk ((by rw [hg]; exact Nat.ne_of_lt (blk_lt (g := gb246) (o := .cells #[.slice A0_0 l0_0.length c0_0, .slice A0_1 l0_1.length c0_1] 25 (0, 0)) (by (with_reducible repeat (first | refine blk_drewN ?_ _ | refine blk_drew ?_ | refine blk_alloc ?_ _)); exact BK246.out)) : gb246 ≠ gb248)); have n7_ := Aside0.mk ((by rw [hg]; exact Nat.ne_of_gt (blk_lt (g := gb246) (o := .cells #[.slice A0_0 l0_0.length c0_0, .slice A0_1 l0_1.length c0_1] 25 (0, 0)) (by (with_reducible repeat (first | refine blk_drewN ?_ _ | refine blk_drew ?_ | refine blk_alloc ?_ _)); exact BK246.out)) : gb248 ≠ gb246)); have n8_ := Aside0.mk ((by rw [hg]; exact Nat.ne_of_lt (blk_lt (g := gb247) (o := .cells #[.slice none 0 0, .slice none 0 0] 25 (0, 0)) (by (with_reducible repeat (first | refine blk_drewN ?_ _ | refine blk_drew ?_ | refine blk_alloc ?_ _)); exact BK247.out)) : gb247 ≠ gb248)); have n9_ := Aside0.mk ((by rw [hg]; exact Nat.ne_of_gt (blk_lt (g := gb247) (o := .cells #[.slice none 0 0, .slice none 0 0] 25 (0, 0)) (by (with_reducible repeat (first | refine blk_drewN ?_ _ | refine blk_drew ?_ | refine blk_alloc ?_ _)); exact BK247.out)) : gb248 ≠ gb247)); clear BK246; clear BK247; clear HB; have BK246 := n0_; have BK247 := n1_; have HB := n2_; have BK248 := n3_; have GW248 := n4_; have GE248 := n5_; have NB246_248 := n6_; have NB248_246 := n7_; have NB247_248 := n8_; have NB248_247 := n9_; clear n0_ n1_ n2_ n3_ n4_ n5_ n6_ n7_ n8_ n9_; clear hb hbox hg; have hnb7 := NB248_246.out; have hnc7 := NB246_248.out; have hnb8 := NB248_247.out; have hnc8 := NB247_248.out; have hcz9_0 : w6.cell? ⟨gb248, 0, none⟩ = some (.slice none 0 0) := (blk_cell BK248.out 0).trans rfl; have hcz9_1 : w6.cell? ⟨gb248, 1, none⟩ = some (.slice none 0 0) := (blk_cell BK248.out 1).trans rfl; have hfz9_0 := blk_frozen BK248.out 0; have hfz9_1 := blk_frozen BK248.out 1; have hnb10 := NB246_247.out; have hnc10 := NB247_246.out; have hcz11_0 : w6.cell? ⟨gb246, 0, none⟩ = some (.slice A0_0 l0_0.length c0_0) := (blk_cell BK246.out 0).trans rfl; have hcz11_1 : w6.cell? ⟨gb246, 1, none⟩ = some (.slice A0_1 l0_1.length c0_1) := (blk_cell BK246.out 1).trans rfl; have hfz11_0 := blk_frozen BK246.out 0; have hfz11_1 := blk_frozen BK246.out 1) | ((with_reducible refine gate_builtin (b := .append) (xs := #[.tmp 6, .tmp 8]) rfl ?_); at_builtin; refine Kd.R_append_rows (Kd.int .i64) (w0 := w) w.heap.size rfl (.tmp 6) (.tmp 8) 23 3 (.int .i64 0) 8 rfl Try.underlying23 info3 rfl (by decide) (by omega) (.slice none 0 0) ([] : List Int) l0_0 _ _ _ (fun _ => True) (fun _ => False) rfl rfl ?aO ?aR (fun _ _ h => h) (fun _ h => h.elim) ?aF ?aB ?aS ?aL ?_; (case aR => exact Kd.C_below HR0_0.out (by repeat (first | (with_reducible first | exact HB.out | apply below_alloc | apply pw_below_drewN | apply below_drew1 | refine below_set ?_ GE246.out | refine below_set ?_ GE247.out | refine below_set ?_ GE248.out) | exact HB.out))); (case aB => exact (by repeat (first | (with_reducible first | exact HB.out | apply below_alloc | apply pw_below_drewN | apply below_drew1 | refine below_set ?_ GE246.out | refine below_set ?_ GE247.out | refine below_set ?_ GE248.out) | exact HB.out))); (case aF => exact (fun _ _ => trivial)); (case aO => exact ((Kd.R_nil _ _ _ _ (fun _ => True)))); (case aS => exact (below_size (by repeat (first | (with_reducible first | exact HB.out | apply below_alloc | apply pw_below_drewN | apply below_drew1 | refine below_set ?_ GE246.out | refine below_set ?_ GE247.out | refine below_set ?_ GE248.out) | exact HB.out)))); (case aL => have := LMc2.out; omega); intro v250 w12 ho hb hg hat; rw [← Ny249.out] at ho; have n0_ := Aside0.mk (blk_grown (g := gb246) (o := .cells #[.slice A0_0 l0_0.length c0_0, .slice A0_1 l0_1.length c0_1] 25 (0, 0)) (by (with_reducible repeat (first | refine blk_drewN ?_ _ | refine blk_drew ?_ | refine blk_alloc ?_ _)); refine blk_far ?_ NB246_248.out _; (with_reducible repeat (first | refine blk_drewN ?_ _ | refine blk_drew ?_ | refine blk_alloc ?_ _)); refine blk_far ?_ NB246_248.out _; (with_reducible repeat (first | refine blk_drewN ?_ _ | refine blk_drew ?_ | refine blk_alloc ?_ _)); exact BK246.out) hg (by simp [Value.ownBlock])); have n1_ := Aside0.mk (blk_grown (g := gb247) (o := .cells #[.slice none 0 0, .slice none 0 0] 25 (0, 0)) (by (with_reducible repeat (first | refine blk_drewN ?_ _ | refine blk_drew ?_ | refine blk_alloc ?_ _)); refine blk_far ?_ NB247_248.out _; (with_reducible repeat (first | refine blk_drewN ?_ _ | refine blk_drew ?_ | refine blk_alloc ?_ _)); refine blk_far ?_ NB247_248.out _; (with_reducible repeat (first | refine blk_drewN ?_ _ | refine blk_drew ?_ | refine blk_alloc ?_ _)); exact BK247.out) hg (by simp [Value.ownBlock])); have n2_ := Aside0.mk (blk_grown (g := gb248) (o := .cells #[.slice none 0 0, .slice none 0 0] 25 (0, 0)) (by (with_reducible repeat (first | refine blk_drewN ?_ _ | refine blk_drew ?_ | refine blk_alloc ?_ _)); refine blk_put (cs := #[.slice none 0 0, .slice none 0 0]) ?_ 1 _ rfl; (with_reducible repeat (first | refine blk_drewN ?_ _ | refine blk_drew ?_ | refine blk_alloc ?_ _)); refine blk_put (cs := #[.slice none 0 0, .slice none 0 0]) ?_ 0 _ rfl; (with_reducible repeat (first | refine blk_drewN ?_ _ | refine blk_drew ?_ | refine blk_alloc ?_ _)); exact BK248.out) hg (by simp [Value.ownBlock])); have n3_ := Aside0.mk (hb); have n4_ := Aside0.mk (ho); clear BK246; clear BK247; clear BK248; clear HB; have BK246 := n0_; have BK247 := n1_; have BK248 := n2_; have HB := n3_; have HO251 := n4_; clear n0_ n1_ n2_ n3_ n4_; clear ho hb hg hat; obtain ⟨Ao13, co13, eo13⟩ := Kd.R_slice HO251.out; subst eo13; have hcz14_0 : w12.cell? ⟨gb248, 0, none⟩ = some (.slice none 0 0) := (blk_cell BK248.out 0).trans rfl; have hcz14_1 : w12.cell? ⟨gb248, 1, none⟩ = some (.slice none 0 0) := (blk_cell BK248.out 1).trans rfl; have hfz14_0 := blk_frozen BK248.out 0; have hfz14_1 := blk_frozen BK248.out 1; have hcz15_0 : w12.cell? ⟨gb246, 0, none⟩ = some (.slice A0_0 l0_0.length c0_0) := (blk_cell BK246.out 0).trans rfl; have hcz15_1 : w12.cell? ⟨gb246, 1, none⟩ = some (.slice A0_1 l0_1.length c0_1) := (blk_cell BK246.out 1).trans rfl; have hfz15_0 := blk_frozen BK246.out 0; have hfz15_1 := blk_frozen BK246.out 1) | ((with_reducible refine gate_builtin (b := .append) (xs := #[.tmp 12, .tmp 14]) rfl ?_); at_builtin; refine Kd.R_append_rows (Kd.int .i64) (w0 := w) w.heap.size rfl (.tmp 12) (.tmp 14) 23 3 (.int .i64 0) 8 rfl Try.underlying23 info3 rfl (by decide) (by omega) (.slice none 0 0) ([] : List Int) l0_1 _ _ _ (fun k_ => some k_ ≠ (.slice Ao13 y249.length co13 : Value).ownBlock) (fun _ => False) rfl rfl ?aO ?aR (fun _ _ h => h) (fun _ h => h.elim) ?aF ?aB ?aS ?aL ?_; (case aR => exact Kd.C_below HR0_1.out (by repeat (first | (with_reducible first | exact HB.out | apply below_alloc | apply pw_below_drewN | apply below_drew1 | refine below_set ?_ GE246.out | refine below_set ?_ GE247.out | refine below_set ?_ GE248.out) | exact HB.out))); (case aB => exact (by repeat (first | (with_reducible first | exact HB.out | apply below_alloc | apply pw_below_drewN | apply below_drew1 | refine below_set ?_ GE246.out | refine below_set ?_ GE247.out | refine below_set ?_ GE248.out) | exact HB.out))); (case aF => exact (fun k_ hk => Kd.fresh' (Kd.R_lt (by (with_reducible repeat (first | apply Kd.R_alloc | apply Kd.R_drewN | apply Kd.R_drew)); exact (Kd.R_mono (Kd.R_far (p := ⟨gb248, 0, none⟩) (Kd.R_types HO251.out BK248.out (by decide)) (fun _ hk => hk.2) (.slice Ao13 y249.length co13)) (fun _ h_ => h_.1)))) k_ hk)); (case aO => exact ((Kd.R_nil _ _ _ _ (fun k_ => some k_ ≠ (.slice Ao13 y249.length co13 : Value).ownBlock)))); (case aS => exact (below_size (by repeat (first | (with_reducible first | exact HB.out | apply below_alloc | apply pw_below_drewN | apply below_drew1 | refine below_set ?_ GE246.out | refine below_set ?_ GE247.out | refine below_set ?_ GE248.out) | exact HB.out)))); (case aL => have := LMc3.out; omega); intro v253 w16 ho hb hg hat; rw [← Ny252.out] at ho; have n0_ := Aside0.mk (blk_grown (g := gb246) (o := .cells #[.slice A0_0 l0_0.length c0_0, .slice A0_1 l0_1.length c0_1] 25 (0, 0)) (by (with_reducible repeat (first | refine blk_drewN ?_ _ | refine blk_drew ?_ | refine blk_alloc ?_ _)); refine blk_far ?_ NB246_248.out _; (with_reducible repeat (first | refine blk_drewN ?_ _ | refine blk_drew ?_ | refine blk_alloc ?_ _)); exact BK246.out) hg (by simp [Value.ownBlock])); have n1_ := Aside0.mk (blk_grown (g := gb247) (o := .cells #[.slice none 0 0, .slice none 0 0] 25 (0, 0)) (by (with_reducible repeat (first | refine blk_drewN ?_ _ | refine blk_drew ?_ | refine blk_alloc ?_ _)); refine blk_far ?_ NB247_248.out _; (with_reducible repeat (first | refine blk_drewN ?_ _ | refine blk_drew ?_ | refine blk_alloc ?_ _)); exact BK247.out) hg (by simp [Value.ownBlock])); have n2_ := Aside0.mk (blk_grown (g := gb248) (o := .cells #[.slice Ao13 y249.length co13, .slice none 0 0] 25 (0, 0)) (by (with_reducible repeat (first | refine blk_drewN ?_ _ | refine blk_drew ?_ | refine blk_alloc ?_ _)); refine blk_put (cs := #[.slice none 0 0, .slice none 0 0]) ?_ 0 _ rfl; (with_reducible repeat (first | refine blk_drewN ?_ _ | refine blk_drew ?_ | refine blk_alloc ?_ _)); exact BK248.out) hg (by simp [Value.ownBlock])); have n3_ := Aside0.mk (Kd.R_after (Kd.R_apart_nil (by (with_reducible repeat (first | apply Kd.R_alloc | apply Kd.R_drewN | apply Kd.R_drew)); exact (Kd.R_mono (Kd.R_far (p := ⟨gb248, 0, none⟩) (Kd.R_types HO251.out BK248.out (by decide)) (fun _ hk => hk.2) (.slice Ao13 y249.length co13)) (fun _ h_ => h_.1)))) hg hat); have n4_ := Aside0.mk (hb); have n5_ := Aside0.mk (ho); clear BK246; clear BK247; clear BK248; clear HO251; clear HB; have BK246 := n0_; have BK247 := n1_; have BK248 := n2_; have HO251 := n3_; have HB := n4_; have HO254 := n5_; clear n0_ n1_ n2_ n3_ n4_ n5_; clear ho hb hg hat; obtain ⟨Ao17, co17, eo17⟩ := Kd.R_slice HO254.out; subst eo17; have hcz18_0 : w16.cell? ⟨gb248, 0, none⟩ = some (.slice Ao13 y249.length co13) := (blk_cell BK248.out 0).trans rfl; have hcz18_1 : w16.cell? ⟨gb248, 1, none⟩ = some (.slice none 0 0) := (blk_cell BK248.out 1).trans rfl; have hfz18_0 := blk_frozen BK248.out 0; have hfz18_1 := blk_frozen BK248.out 1; have hcz19_0 : w16.cell? ⟨gb247, 0, none⟩ = some (.slice none 0 0) := (blk_cell BK247.out 0).trans rfl; have hcz19_1 : w16.cell? ⟨gb247, 1, none⟩ = some (.slice none 0 0) := (blk_cell BK247.out 1).trans rfl; have hfz19_0 := blk_frozen BK247.out 0; have hfz19_1 := blk_frozen BK247.out 1))
      refine bodyPost_ret (results_cell_row rfl _ _ gb247 25 #[.slice Ao13 y249.length co13, .slice Ao17 y252.length co17] (0, 0) _ rfl (by (with_reducible repeat (first | refine blk_drewN ?_ _ | refine blk_drew ?_ | refine blk_alloc ?_ _)); refine blk_put (cs := #[.slice Ao13 y249.length co13, .slice none 0 0]) ?_ 1 _ rfl; (with_reducible repeat (first | refine blk_drewN ?_ _ | refine blk_drew ?_ | refine blk_alloc ?_ _)); refine blk_put (cs := #[.slice none 0 0, .slice none 0 0]) ?_ 0 _ rfl; (with_reducible repeat (first | refine blk_drewN ?_ _ | refine blk_drew ?_ | refine blk_alloc ?_ _)); refine blk_far ?_ NB247_248.out _; (with_reducible repeat (first | refine blk_drewN ?_ _ | refine blk_drew ?_ | refine blk_alloc ?_ _)); exact BK247.out) Try.underlying25 rfl (by kernel_rfl)) rfl ?_
      exact ⟨_, _, by first | rfl | (simp [errW_none, errW_some] <;> rfl) | (simp [*, errW_none, errW_some] <;> rfl), by (with_reducible repeat (first | apply Kd.R_alloc | apply Kd.R_drewN | apply Kd.R_drew)); exact Kd.R_mono (Kd.R_far (p := ⟨gb247, 1, none⟩) (Kd.R_far (p := ⟨gb247, 0, none⟩) (Kd.R_far (p := ⟨gb248, 1, none⟩) (Kd.R_types (Kd.R_types HO251.out BK248.out (by decide)) BK247.out (by decide)) (fun _ hk => hk.1.2) (.slice Ao17 y252.length co17)) (fun _ hk => hk.2) (.slice Ao13 y249.length co13)) (fun _ hk => hk.2) (.slice Ao17 y252.length co17)) (fun _ hk => hk.1.1.2), by (with_reducible repeat (first | apply Kd.R_alloc | apply Kd.R_drewN | apply Kd.R_drew)); exact Kd.R_mono (Kd.R_far (p := ⟨gb247, 1, none⟩) (Kd.R_far (p := ⟨gb247, 0, none⟩) (Kd.R_far (p := ⟨gb248, 1, none⟩) (Kd.R_types (Kd.R_types HO254.out BK248.out (by decide)) BK247.out (by decide)) (fun _ hk => hk.1.2) (.slice Ao17 y252.length co17)) (fun _ hk => hk.2) (.slice Ao13 y249.length co13)) (fun _ hk => hk.2) (.slice Ao17 y252.length co17)) (fun _ hk => hk.1.1), by repeat (first | (with_reducible first | exact HB.out | apply below_alloc | apply pw_below_drewN | apply below_drew1 | refine below_set ?_ GE246.out | refine below_set ?_ GE247.out | refine below_set ?_ GE248.out) | exact HB.out)⟩
    · rw [if_neg c3] at H
      exact absurd H (by simp)
  · rw [if_neg c2] at H
    exact absurd H (by simp)

end Go.Proofs.Ytbjhjimkljbjlaa.PA
-- WRITTEN BY hookprint.py (a program of this session, over the kit's print.py): not typed by hand
namespace Go.Proofs.Ytbjhjimkljbjlaa.PA
open Go.RowKit Go.Proofs.YtbjhjimkljbjlaaW.PrintWords Go.Proofs.YtbjhjimkljbjlaaW.PrintLast Go.Proofs.YtbjhjimkljbjlaaW.PrintMore
attribute [local go_sem] max2_int min2_int max_two min_two max_three min_three max_four min_four   -- for this text's walks alone
set_option linter.unusedVariables false
set_option linter.unusedSimpArgs false

/-! ### folkmootref15_Snap: function 38 -/
def folkmootref15_Snap.f (a0_0 : Int) (a0_1 : Int) (l0_2 : List Int) (l0_3 : List Int) (a0_4 : ByteArray) : Option (Int × Int × List Int × List Int × ByteArray) := (folkmootref15_config.f l0_2 l0_3).bind fun bt257 => (some (a0_0, a0_1, bt257.1, bt257.2, a0_4))
set_option maxHeartbeats 8000000 in
set_option maxRecDepth 100000 in
theorem folkmootref15_Snap.calls (a0_0 : Int) (a0_1 : Int) (A0_2 : Option Addr) (c0_2 : Nat) (l0_2 : List Int) (A0_3 : Option Addr) (c0_3 : Nat) (l0_3 : List Int) (a0_4 : ByteArray) (r1 : Int) (r2 : Int) (r3 : List Int) (r4 : List Int) (r5 : ByteArray) (w : World) (hr0_2 : Kd.C (Kd.int .i64) w A0_2 l0_2.length l0_2) (hc0_2 : l0_2.length ≤ c0_2) (hr0_3 : Kd.C (Kd.int .i64) w A0_3 l0_3.length l0_3) (hc0_3 : l0_3.length ≤ c0_3) (h : folkmootref15_Snap.f a0_0 a0_1 l0_2 l0_3 a0_4 = some (r1, r2, r3, r4, r5)) :
    Calls Try.prog 38 #[.agg #[.int .i64 a0_0, .int .i64 a0_1, .slice A0_2 l0_2.length c0_2, .slice A0_3 l0_3.length c0_3, .string a0_4]] w fun e w' => ∃ v2_ v3_ : Value, e = .returned (.agg #[.int .i64 r1, .int .i64 r2, v2_, v3_, .string r5]) ∧ Kd.R (Kd.int .i64) 3 w' w.heap.size (fun k_ => some k_ ≠ (v3_ : Value).ownBlock) v2_ r3 ∧ Kd.R (Kd.int .i64) 3 w' w.heap.size (fun k_ => some k_ ≠ (v2_ : Value).ownBlock) v3_ r4 ∧ Below w.heap.size w w' := by
  have hu27 := Try.underlying27
  have hu25 := Try.underlying25
  have HR0_2 := Aside0.mk hr0_2
  have HC0_2 := Aside0.mk hc0_2
  clear hr0_2 hc0_2
  have HR0_3 := Aside0.mk hr0_3
  have HC0_3 := Aside0.mk hc0_3
  clear hr0_3 hc0_3
  have HB := Aside0.mk (Below.refl w.heap.size w)
  have H : ((folkmootref15_config.f l0_2 l0_3).bind fun bt257 => (some (a0_0, a0_1, bt257.1, bt257.2, a0_4))) = some (r1, r2, r3, r4, r5) := h
  clear h
  replace H := Option.bind_eq_some_iff.mp H
  obtain ⟨⟨t257, t260⟩, A20, H⟩ := H
  replace H : (some (a0_0, a0_1, t257, t260, a0_4)) = some (r1, r2, r3, r4, r5) := H
  have A2 := Aside0.mk A20
  clear A20
  simp only [Option.some.injEq, Prod.mk.injEq] at H
  obtain ⟨rfl, rfl, rfl, rfl, rfl⟩ := H
  go_enter Try.func38, Try.ntmps38
  go_wp2_with (first | ((with_reducible refine gate_dst (N := 1) rfl ?_); refine box_event ?hg (N := 1) ?hd (cs := #[.int .i64 a0_0, .int .i64 a0_1, .slice A0_2 l0_2.length c0_2, .slice A0_3 l0_3.length c0_3, .string a0_4]) (t := 27) ?hr ?_; (case hd => rfl); (case hg => rfl); (case hr => first | (go_simp; done) | (go_simp; rfl)); intro gb255 hg w3 hbox hb; have n0_ := Aside0.mk (below_step (by repeat (first | (with_reducible first | exact HB.out | apply below_alloc | apply pw_below_drewN | apply below_drew1) | exact HB.out)) hb); have n1_ := Aside0.mk (hbox); have n2_ := Aside0.mk ((by rw [hg]; exact (below_size (by repeat (first | (with_reducible first | exact HB.out | apply below_alloc | apply pw_below_drewN | apply below_drew1) | exact HB.out))) : w.heap.size ≤ gb255)); have n3_ := Aside0.mk ((by rw [hg]; exact (below_size (by repeat (first | (with_reducible first | exact HB.out | apply below_alloc | apply pw_below_drewN | apply below_drew1) | exact HB.out))) : w.heap.size ≤ gb255)); clear HB; have HB := n0_; have BK255 := n1_; have GW255 := n2_; have GE255 := n3_; clear n0_ n1_ n2_ n3_; clear hb hbox hg) | ((with_reducible refine gate_dst (N := 2) rfl ?_); refine box_event ?hg (N := 2) ?hd (cs := #[.int .i64 0, .int .i64 0, .slice none 0 0, .slice none 0 0, .string (⟨#[]⟩ : ByteArray)]) (t := 27) ?hr ?_; (case hd => rfl); (case hg => rfl); (case hr => first | (go_simp; done) | (go_simp; rfl)); intro gb256 hg w4 hbox hb; have n0_ := Aside0.mk (blk_below (g := gb255) (o := .cells #[.int .i64 a0_0, .int .i64 a0_1, .slice A0_2 l0_2.length c0_2, .slice A0_3 l0_3.length c0_3, .string a0_4] 27 (0, 0)) (by (with_reducible repeat (first | refine blk_drewN ?_ _ | refine blk_drew ?_ | refine blk_alloc ?_ _)); exact BK255.out) hb); have n1_ := Aside0.mk (below_step (by repeat (first | (with_reducible first | exact HB.out | apply below_alloc | apply pw_below_drewN | apply below_drew1 | refine below_set ?_ GE255.out) | exact HB.out)) hb); have n2_ := Aside0.mk (hbox); have n3_ := Aside0.mk ((by rw [hg]; exact (below_size (by repeat (first | (with_reducible first | exact HB.out | apply below_alloc | apply pw_below_drewN | apply below_drew1 | refine below_set ?_ GE255.out) | exact HB.out))) : w.heap.size ≤ gb256)); have n4_ := Aside0.mk ((by rw [hg]; exact (below_size (by repeat (first | (with_reducible first | exact HB.out | apply below_alloc | apply pw_below_drewN | apply below_drew1 | refine below_set ?_ GE255.out) | exact HB.out))) : w.heap.size ≤ gb256)); have n5_ := Aside0.mk ((by rw [hg]; exact Nat.ne_of_lt (blk_lt (g := gb255) (o := .cells #[.int .i64 a0_0, .int .i64 a0_1, .slice A0_2 l0_2.length c0_2, .slice A0_3 l0_3.length c0_3, .string a0_4] 27 (0, 0)) (by (with_reducible repeat (first | refine blk_drewN ?_ _ | refine blk_drew ?_ | refine blk_alloc ?_ _)); exact BK255.out)) : gb255 ≠ gb256)); have n6_ := Aside0.mk ((by rw [hg]; exact Nat.ne_of_gt (blk_lt (g := gb255) (o := .cells #[.int .i64 a0_0, .int .i64 a0_1, .slice A0_2 l0_2.length c0_2, .slice A0_3 l0_3.length c0_3, .string a0_4] 27 (0, 0)) (by (with_reducible repeat (first | refine blk_drewN ?_ _ | refine blk_drew ?_ | refine blk_alloc ?_ _)); exact BK255.out)) : gb256 ≠ gb255)); clear BK255; clear HB; have BK255 := n0_; have HB := n1_; have BK256 := n2_; have GW256 := n3_; have GE256 := n4_; have NB255_256 := n5_; have NB256_255 := n6_; clear n0_ n1_ n2_ n3_ n4_ n5_ n6_; clear hb hbox hg; have hnb5 := NB255_256.out; have hnc5 := NB256_255.out; have hcz6_0 : w4.cell? ⟨gb255, 0, none⟩ = some (.int .i64 a0_0) := (blk_cell BK255.out 0).trans rfl; have hcz6_1 : w4.cell? ⟨gb255, 1, none⟩ = some (.int .i64 a0_1) := (blk_cell BK255.out 1).trans rfl; have hcz6_2 : w4.cell? ⟨gb255, 2, none⟩ = some (.slice A0_2 l0_2.length c0_2) := (blk_cell BK255.out 2).trans rfl; have hcz6_3 : w4.cell? ⟨gb255, 3, none⟩ = some (.slice A0_3 l0_3.length c0_3) := (blk_cell BK255.out 3).trans rfl; have hcz6_4 : w4.cell? ⟨gb255, 4, none⟩ = some (.string a0_4) := (blk_cell BK255.out 4).trans rfl; have hfz6_0 := blk_frozen BK255.out 0; have hfz6_1 := blk_frozen BK255.out 1; have hfz6_2 := blk_frozen BK255.out 2; have hfz6_3 := blk_frozen BK255.out 3; have hfz6_4 := blk_frozen BK255.out 4) | ((with_reducible refine gate_callee (f := 52) rfl ?_); refine goesL_ (some 5) rfl rfl Try.func52 (by kernel_rfl) rfl #[.agg #[.slice A0_2 l0_2.length c0_2, .slice A0_3 l0_3.length c0_3]] rfl (by (try simp only [List.map_toArray, List.map_cons, List.map_nil]); first | done | rfl | (simp only [List.length_drop, List.length_take]; rfl)) ?_; (with_reducible refine (folkmootref15_config.calls _ _ l0_2 _ _ l0_3 t257 t260 _ ?side1 ?side2 ?side3 ?side4 A2.out).mono ?_); (case side1 => repeat (first | exact (Kd.C_below HR0_2.out HB.out) | (with_reducible refine Kd.C_alloc ?_ _) | (with_reducible refine Kd.C_drewN ?_ _) | (with_reducible refine Kd.C_drew ?_))); (case side2 => exact HC0_2.out); (case side3 => repeat (first | exact (Kd.C_below HR0_3.out HB.out) | (with_reducible refine Kd.C_alloc ?_ _) | (with_reducible refine Kd.C_drewN ?_ _) | (with_reducible refine Kd.C_drew ?_))); (case side4 => exact HC0_3.out); rintro e w7 ⟨v258, v261, rfl, ho0, ho1, hb⟩; refine ⟨_, rfl, ?_⟩; have n0_ := Aside0.mk (Kd.R_lower ho0 (below_size (by repeat (first | (with_reducible first | exact HB.out | apply below_alloc | apply pw_below_drewN | apply below_drew1 | refine below_set ?_ GE255.out | refine below_set ?_ GE256.out) | exact HB.out)))); have n1_ := Aside0.mk (Kd.R_lower ho1 (below_size (by repeat (first | (with_reducible first | exact HB.out | apply below_alloc | apply pw_below_drewN | apply below_drew1 | refine below_set ?_ GE255.out | refine below_set ?_ GE256.out) | exact HB.out)))); have n2_ := Aside0.mk (blk_below (g := gb255) (o := .cells #[.int .i64 a0_0, .int .i64 a0_1, .slice A0_2 l0_2.length c0_2, .slice A0_3 l0_3.length c0_3, .string a0_4] 27 (0, 0)) (by (with_reducible repeat (first | refine blk_drewN ?_ _ | refine blk_drew ?_ | refine blk_alloc ?_ _)); exact BK255.out) hb); have n3_ := Aside0.mk (blk_below (g := gb256) (o := .cells #[.int .i64 0, .int .i64 0, .slice none 0 0, .slice none 0 0, .string (⟨#[]⟩ : ByteArray)] 27 (0, 0)) (by (with_reducible repeat (first | refine blk_drewN ?_ _ | refine blk_drew ?_ | refine blk_alloc ?_ _)); exact BK256.out) hb); have n4_ := Aside0.mk (below_step (by repeat (first | (with_reducible first | exact HB.out | apply below_alloc | apply pw_below_drewN | apply below_drew1 | refine below_set ?_ GE255.out | refine below_set ?_ GE256.out) | exact HB.out)) hb); clear BK255; clear BK256; clear HB; have HO259 := n0_; have HO262 := n1_; have BK255 := n2_; have BK256 := n3_; have HB := n4_; clear n0_ n1_ n2_ n3_ n4_; (try clear hb); (try clear hb2); (try clear hk); (try clear hi); (try clear ho0); (try clear ho1); obtain ⟨Ao8, co8, eo8⟩ := Kd.R_slice HO259.out; subst eo8; have hcz9_0 : w7.cell? ⟨gb255, 0, none⟩ = some (.int .i64 a0_0) := (blk_cell BK255.out 0).trans rfl; have hcz9_1 : w7.cell? ⟨gb255, 1, none⟩ = some (.int .i64 a0_1) := (blk_cell BK255.out 1).trans rfl; have hcz9_2 : w7.cell? ⟨gb255, 2, none⟩ = some (.slice A0_2 l0_2.length c0_2) := (blk_cell BK255.out 2).trans rfl; have hcz9_3 : w7.cell? ⟨gb255, 3, none⟩ = some (.slice A0_3 l0_3.length c0_3) := (blk_cell BK255.out 3).trans rfl; have hcz9_4 : w7.cell? ⟨gb255, 4, none⟩ = some (.string a0_4) := (blk_cell BK255.out 4).trans rfl; have hfz9_0 := blk_frozen BK255.out 0; have hfz9_1 := blk_frozen BK255.out 1; have hfz9_2 := blk_frozen BK255.out 2; have hfz9_3 := blk_frozen BK255.out 3; have hfz9_4 := blk_frozen BK255.out 4; obtain ⟨Ao10, co10, eo10⟩ := Kd.R_slice HO262.out; subst eo10; have hcz11_0 : w7.cell? ⟨gb256, 0, none⟩ = some (.int .i64 0) := (blk_cell BK256.out 0).trans rfl; have hcz11_1 : w7.cell? ⟨gb256, 1, none⟩ = some (.int .i64 0) := (blk_cell BK256.out 1).trans rfl; have hcz11_2 : w7.cell? ⟨gb256, 2, none⟩ = some (.slice none 0 0) := (blk_cell BK256.out 2).trans rfl; have hcz11_3 : w7.cell? ⟨gb256, 3, none⟩ = some (.slice none 0 0) := (blk_cell BK256.out 3).trans rfl; have hcz11_4 : w7.cell? ⟨gb256, 4, none⟩ = some (.string (⟨#[]⟩ : ByteArray)) := (blk_cell BK256.out 4).trans rfl; have hfz11_0 := blk_frozen BK256.out 0; have hfz11_1 := blk_frozen BK256.out 1; have hfz11_2 := blk_frozen BK256.out 2; have hfz11_3 := blk_frozen BK256.out 3; have hfz11_4 := blk_frozen BK256.out 4))
  refine bodyPost_ret (results_cell_row rfl _ _ gb256 27 #[.int .i64 a0_0, .int .i64 a0_1, .slice Ao8 t257.length co8, .slice Ao10 t260.length co10, .string a0_4] (0, 0) _ rfl (by (with_reducible repeat (first | refine blk_drewN ?_ _ | refine blk_drew ?_ | refine blk_alloc ?_ _)); refine blk_put (cs := #[.int .i64 a0_0, .int .i64 a0_1, .slice Ao8 t257.length co8, .slice Ao10 t260.length co10, .string (⟨#[]⟩ : ByteArray)]) ?_ 4 _ rfl; (with_reducible repeat (first | refine blk_drewN ?_ _ | refine blk_drew ?_ | refine blk_alloc ?_ _)); refine blk_put (cs := #[.int .i64 a0_0, .int .i64 a0_1, .slice Ao8 t257.length co8, .slice none 0 0, .string (⟨#[]⟩ : ByteArray)]) ?_ 3 _ rfl; (with_reducible repeat (first | refine blk_drewN ?_ _ | refine blk_drew ?_ | refine blk_alloc ?_ _)); refine blk_put (cs := #[.int .i64 a0_0, .int .i64 a0_1, .slice none 0 0, .slice none 0 0, .string (⟨#[]⟩ : ByteArray)]) ?_ 2 _ rfl; (with_reducible repeat (first | refine blk_drewN ?_ _ | refine blk_drew ?_ | refine blk_alloc ?_ _)); refine blk_put (cs := #[.int .i64 a0_0, .int .i64 0, .slice none 0 0, .slice none 0 0, .string (⟨#[]⟩ : ByteArray)]) ?_ 1 _ rfl; (with_reducible repeat (first | refine blk_drewN ?_ _ | refine blk_drew ?_ | refine blk_alloc ?_ _)); refine blk_put (cs := #[.int .i64 0, .int .i64 0, .slice none 0 0, .slice none 0 0, .string (⟨#[]⟩ : ByteArray)]) ?_ 0 _ rfl; (with_reducible repeat (first | refine blk_drewN ?_ _ | refine blk_drew ?_ | refine blk_alloc ?_ _)); refine blk_far ?_ NB256_255.out _; (with_reducible repeat (first | refine blk_drewN ?_ _ | refine blk_drew ?_ | refine blk_alloc ?_ _)); refine blk_far ?_ NB256_255.out _; (with_reducible repeat (first | refine blk_drewN ?_ _ | refine blk_drew ?_ | refine blk_alloc ?_ _)); exact BK256.out) Try.underlying27 rfl (by kernel_rfl)) rfl ?_
  exact ⟨_, _, by first | rfl | (simp [errW_none, errW_some] <;> rfl) | (simp [*, errW_none, errW_some] <;> rfl), by (with_reducible repeat (first | apply Kd.R_alloc | apply Kd.R_drewN | apply Kd.R_drew)); exact Kd.R_mono (Kd.R_far (p := ⟨gb256, 4, none⟩) (Kd.R_far (p := ⟨gb256, 3, none⟩) (Kd.R_far (p := ⟨gb256, 2, none⟩) (Kd.R_far (p := ⟨gb256, 1, none⟩) (Kd.R_far (p := ⟨gb256, 0, none⟩) (Kd.R_far (p := ⟨gb255, 3, none⟩) (Kd.R_far (p := ⟨gb255, 2, none⟩) (Kd.R_types (Kd.R_types HO259.out BK255.out (by decide)) BK256.out (by decide)) (fun _ hk => hk.1.2) (.slice Ao8 t257.length co8)) (fun _ hk => hk.1.2) (.slice Ao10 t260.length co10)) (fun _ hk => hk.2) (.int .i64 a0_0)) (fun _ hk => hk.2) (.int .i64 a0_1)) (fun _ hk => hk.2) (.slice Ao8 t257.length co8)) (fun _ hk => hk.2) (.slice Ao10 t260.length co10)) (fun _ hk => hk.2) (.string a0_4)) (fun _ hk => hk.1.1), by (with_reducible repeat (first | apply Kd.R_alloc | apply Kd.R_drewN | apply Kd.R_drew)); exact Kd.R_mono (Kd.R_far (p := ⟨gb256, 4, none⟩) (Kd.R_far (p := ⟨gb256, 3, none⟩) (Kd.R_far (p := ⟨gb256, 2, none⟩) (Kd.R_far (p := ⟨gb256, 1, none⟩) (Kd.R_far (p := ⟨gb256, 0, none⟩) (Kd.R_far (p := ⟨gb255, 3, none⟩) (Kd.R_far (p := ⟨gb255, 2, none⟩) (Kd.R_types (Kd.R_types HO262.out BK255.out (by decide)) BK256.out (by decide)) (fun _ hk => hk.1.2) (.slice Ao8 t257.length co8)) (fun _ hk => hk.1.2) (.slice Ao10 t260.length co10)) (fun _ hk => hk.2) (.int .i64 a0_0)) (fun _ hk => hk.2) (.int .i64 a0_1)) (fun _ hk => hk.2) (.slice Ao8 t257.length co8)) (fun _ hk => hk.2) (.slice Ao10 t260.length co10)) (fun _ hk => hk.2) (.string a0_4)) (fun _ hk => hk.1.1), by repeat (first | (with_reducible first | exact HB.out | apply below_alloc | apply pw_below_drewN | apply below_drew1 | refine below_set ?_ GE255.out | refine below_set ?_ GE256.out) | exact HB.out)⟩

end Go.Proofs.Ytbjhjimkljbjlaa.PA
-- WRITTEN BY hookprint.py (a program of this session, over the kit's print.py): not typed by hand
namespace Go.Proofs.Ytbjhjimkljbjlaa.PA
open Go.RowKit Go.Proofs.YtbjhjimkljbjlaaW.PrintWords Go.Proofs.YtbjhjimkljbjlaaW.PrintLast Go.Proofs.YtbjhjimkljbjlaaW.PrintMore
attribute [local go_sem] max2_int min2_int max_two min_two max_three min_three max_four min_four   -- for this text's walks alone
set_option linter.unusedVariables false
set_option linter.unusedSimpArgs false

/-! ### folkmootref15_Entry: function 39 -/
def folkmootref15_Entry.f (a0_0 : Int) (a0_1 : Int) (a0_2 : Int) (l0_3 : List Int) (l0_4 : List Int) (a0_5 : ByteArray) : Option (Int × Int × Int × List Int × List Int × ByteArray) := (folkmootref15_config.f l0_3 l0_4).bind fun bt265 => (some (a0_0, a0_1, a0_2, bt265.1, bt265.2, a0_5))
set_option maxHeartbeats 8000000 in
set_option maxRecDepth 100000 in
theorem folkmootref15_Entry.calls (a0_0 : Int) (a0_1 : Int) (a0_2 : Int) (A0_3 : Option Addr) (c0_3 : Nat) (l0_3 : List Int) (A0_4 : Option Addr) (c0_4 : Nat) (l0_4 : List Int) (a0_5 : ByteArray) (r1 : Int) (r2 : Int) (r3 : Int) (r4 : List Int) (r5 : List Int) (r6 : ByteArray) (w : World) (hr0_3 : Kd.C (Kd.int .i64) w A0_3 l0_3.length l0_3) (hc0_3 : l0_3.length ≤ c0_3) (hr0_4 : Kd.C (Kd.int .i64) w A0_4 l0_4.length l0_4) (hc0_4 : l0_4.length ≤ c0_4) (h : folkmootref15_Entry.f a0_0 a0_1 a0_2 l0_3 l0_4 a0_5 = some (r1, r2, r3, r4, r5, r6)) :
    Calls Try.prog 39 #[.agg #[.int .i64 a0_0, .int .i64 a0_1, .int .i64 a0_2, .slice A0_3 l0_3.length c0_3, .slice A0_4 l0_4.length c0_4, .string a0_5]] w fun e w' => ∃ v3_ v4_ : Value, e = .returned (.agg #[.int .i64 r1, .int .i64 r2, .int .i64 r3, v3_, v4_, .string r6]) ∧ Kd.R (Kd.int .i64) 3 w' w.heap.size (fun k_ => some k_ ≠ (v4_ : Value).ownBlock) v3_ r4 ∧ Kd.R (Kd.int .i64) 3 w' w.heap.size (fun k_ => some k_ ≠ (v3_ : Value).ownBlock) v4_ r5 ∧ Below w.heap.size w w' := by
  have hu54 := Try.underlying54
  have hu25 := Try.underlying25
  have HR0_3 := Aside0.mk hr0_3
  have HC0_3 := Aside0.mk hc0_3
  clear hr0_3 hc0_3
  have HR0_4 := Aside0.mk hr0_4
  have HC0_4 := Aside0.mk hc0_4
  clear hr0_4 hc0_4
  have HB := Aside0.mk (Below.refl w.heap.size w)
  have H : ((folkmootref15_config.f l0_3 l0_4).bind fun bt265 => (some (a0_0, a0_1, a0_2, bt265.1, bt265.2, a0_5))) = some (r1, r2, r3, r4, r5, r6) := h
  clear h
  replace H := Option.bind_eq_some_iff.mp H
  obtain ⟨⟨t265, t268⟩, A20, H⟩ := H
  replace H : (some (a0_0, a0_1, a0_2, t265, t268, a0_5)) = some (r1, r2, r3, r4, r5, r6) := H
  have A2 := Aside0.mk A20
  clear A20
  simp only [Option.some.injEq, Prod.mk.injEq] at H
  obtain ⟨rfl, rfl, rfl, rfl, rfl, rfl⟩ := H
  go_enter Try.func39, Try.ntmps39
  go_wp2_with (first | ((with_reducible refine gate_dst (N := 1) rfl ?_); refine box_event ?hg (N := 1) ?hd (cs := #[.int .i64 a0_0, .int .i64 a0_1, .int .i64 a0_2, .slice A0_3 l0_3.length c0_3, .slice A0_4 l0_4.length c0_4, .string a0_5]) (t := 54) ?hr ?_; (case hd => rfl); (case hg => rfl); (case hr => first | (go_simp; done) | (go_simp; rfl)); intro gb263 hg w3 hbox hb; have n0_ := Aside0.mk (below_step (by repeat (first | (with_reducible first | exact HB.out | apply below_alloc | apply pw_below_drewN | apply below_drew1) | exact HB.out)) hb); have n1_ := Aside0.mk (hbox); have n2_ := Aside0.mk ((by rw [hg]; exact (below_size (by repeat (first | (with_reducible first | exact HB.out | apply below_alloc | apply pw_below_drewN | apply below_drew1) | exact HB.out))) : w.heap.size ≤ gb263)); have n3_ := Aside0.mk ((by rw [hg]; exact (below_size (by repeat (first | (with_reducible first | exact HB.out | apply below_alloc | apply pw_below_drewN | apply below_drew1) | exact HB.out))) : w.heap.size ≤ gb263)); clear HB; have HB := n0_; have BK263 := n1_; have GW263 := n2_; have GE263 := n3_; clear n0_ n1_ n2_ n3_; clear hb hbox hg) | ((with_reducible refine gate_dst (N := 2) rfl ?_); refine box_event ?hg (N := 2) ?hd (cs := #[.int .i64 0, .int .i64 0, .int .i64 0, .slice none 0 0, .slice none 0 0, .string (⟨#[]⟩ : ByteArray)]) (t := 54) ?hr ?_; (case hd => rfl); (case hg => rfl); (case hr => first | (go_simp; done) | (go_simp; rfl)); intro gb264 hg w4 hbox hb; have n0_ := Aside0.mk (blk_below (g := gb263) (o := .cells #[.int .i64 a0_0, .int .i64 a0_1, .int .i64 a0_2, .slice A0_3 l0_3.length c0_3, .slice A0_4 l0_4.length c0_4, .string a0_5] 54 (0, 0)) (by (with_reducible repeat (first | refine blk_drewN ?_ _ | refine blk_drew ?_ | refine blk_alloc ?_ _)); exact BK263.out) hb); have n1_ := Aside0.mk (below_step (by repeat (first | (with_reducible first | exact HB.out | apply below_alloc | apply pw_below_drewN | apply below_drew1 | refine below_set ?_ GE263.out) | exact HB.out)) hb); have n2_ := Aside0.mk (hbox); have n3_ := Aside0.mk ((by rw [hg]; exact (below_size (by repeat (first | (with_reducible first | exact HB.out | apply below_alloc | apply pw_below_drewN | apply below_drew1 | refine below_set ?_ GE263.out) | exact HB.out))) : w.heap.size ≤ gb264)); have n4_ := Aside0.mk ((by rw [hg]; exact (below_size (by repeat (first | (with_reducible first | exact HB.out | apply below_alloc | apply pw_below_drewN | apply below_drew1 | refine below_set ?_ GE263.out) | exact HB.out))) : w.heap.size ≤ gb264)); have n5_ := Aside0.mk ((by rw [hg]; exact Nat.ne_of_lt (blk_lt (g := gb263) (o := .cells #[.int .i64 a0_0, .int .i64 a0_1, .int .i64 a0_2, .slice A0_3 l0_3.length c0_3, .slice A0_4 l0_4.length c0_4, .string a0_5] 54 (0, 0)) (by (with_reducible repeat (first | refine blk_drewN ?_ _ | refine blk_drew ?_ | refine blk_alloc ?_ _)); exact BK263.out)) : gb263 ≠ gb264)); have n6_ := Aside0.mk ((by rw [hg]; exact Nat.ne_of_gt (blk_lt (g := gb263) (o := .cells #[.int .i64 a0_0, .int .i64 a0_1, .int .i64 a0_2, .slice A0_3 l0_3.length c0_3, .slice A0_4 l0_4.length c0_4, .string a0_5] 54 (0, 0)) (by (with_reducible repeat (first | refine blk_drewN ?_ _ | refine blk_drew ?_ | refine blk_alloc ?_ _)); exact BK263.out)) : gb264 ≠ gb263)); clear BK263; clear HB; have BK263 := n0_; have HB := n1_; have BK264 := n2_; have GW264 := n3_; have GE264 := n4_; have NB263_264 := n5_; have NB264_263 := n6_; clear n0_ n1_ n2_ n3_ n4_ n5_ n6_; clear hb hbox hg; have hnb5 := NB263_264.out; have hnc5 := NB264_263.out; have hcz6_0 : w4.cell? ⟨gb263, 0, none⟩ = some (.int .i64 a0_0) := (blk_cell BK263.out 0).trans rfl; have hcz6_1 : w4.cell? ⟨gb263, 1, none⟩ = some (.int .i64 a0_1) := (blk_cell BK263.out 1).trans rfl; have hcz6_2 : w4.cell? ⟨gb263, 2, none⟩ = some (.int .i64 a0_2) := (blk_cell BK263.out 2).trans rfl; have hcz6_3 : w4.cell? ⟨gb263, 3, none⟩ = some (.slice A0_3 l0_3.length c0_3) := (blk_cell BK263.out 3).trans rfl; have hcz6_4 : w4.cell? ⟨gb263, 4, none⟩ = some (.slice A0_4 l0_4.length c0_4) := (blk_cell BK263.out 4).trans rfl; have hcz6_5 : w4.cell? ⟨gb263, 5, none⟩ = some (.string a0_5) := (blk_cell BK263.out 5).trans rfl; have hfz6_0 := blk_frozen BK263.out 0; have hfz6_1 := blk_frozen BK263.out 1; have hfz6_2 := blk_frozen BK263.out 2; have hfz6_3 := blk_frozen BK263.out 3; have hfz6_4 := blk_frozen BK263.out 4; have hfz6_5 := blk_frozen BK263.out 5) | ((with_reducible refine gate_callee (f := 52) rfl ?_); refine goesL_ (some 5) rfl rfl Try.func52 (by kernel_rfl) rfl #[.agg #[.slice A0_3 l0_3.length c0_3, .slice A0_4 l0_4.length c0_4]] rfl (by (try simp only [List.map_toArray, List.map_cons, List.map_nil]); first | done | rfl | (simp only [List.length_drop, List.length_take]; rfl)) ?_; (with_reducible refine (folkmootref15_config.calls _ _ l0_3 _ _ l0_4 t265 t268 _ ?side1 ?side2 ?side3 ?side4 A2.out).mono ?_); (case side1 => repeat (first | exact (Kd.C_below HR0_3.out HB.out) | (with_reducible refine Kd.C_alloc ?_ _) | (with_reducible refine Kd.C_drewN ?_ _) | (with_reducible refine Kd.C_drew ?_))); (case side2 => exact HC0_3.out); (case side3 => repeat (first | exact (Kd.C_below HR0_4.out HB.out) | (with_reducible refine Kd.C_alloc ?_ _) | (with_reducible refine Kd.C_drewN ?_ _) | (with_reducible refine Kd.C_drew ?_))); (case side4 => exact HC0_4.out); rintro e w7 ⟨v266, v269, rfl, ho0, ho1, hb⟩; refine ⟨_, rfl, ?_⟩; have n0_ := Aside0.mk (Kd.R_lower ho0 (below_size (by repeat (first | (with_reducible first | exact HB.out | apply below_alloc | apply pw_below_drewN | apply below_drew1 | refine below_set ?_ GE263.out | refine below_set ?_ GE264.out) | exact HB.out)))); have n1_ := Aside0.mk (Kd.R_lower ho1 (below_size (by repeat (first | (with_reducible first | exact HB.out | apply below_alloc | apply pw_below_drewN | apply below_drew1 | refine below_set ?_ GE263.out | refine below_set ?_ GE264.out) | exact HB.out)))); have n2_ := Aside0.mk (blk_below (g := gb263) (o := .cells #[.int .i64 a0_0, .int .i64 a0_1, .int .i64 a0_2, .slice A0_3 l0_3.length c0_3, .slice A0_4 l0_4.length c0_4, .string a0_5] 54 (0, 0)) (by (with_reducible repeat (first | refine blk_drewN ?_ _ | refine blk_drew ?_ | refine blk_alloc ?_ _)); exact BK263.out) hb); have n3_ := Aside0.mk (blk_below (g := gb264) (o := .cells #[.int .i64 0, .int .i64 0, .int .i64 0, .slice none 0 0, .slice none 0 0, .string (⟨#[]⟩ : ByteArray)] 54 (0, 0)) (by (with_reducible repeat (first | refine blk_drewN ?_ _ | refine blk_drew ?_ | refine blk_alloc ?_ _)); exact BK264.out) hb); have n4_ := Aside0.mk (below_step (by repeat (first | (with_reducible first | exact HB.out | apply below_alloc | apply pw_below_drewN | apply below_drew1 | refine below_set ?_ GE263.out | refine below_set ?_ GE264.out) | exact HB.out)) hb); clear BK263; clear BK264; clear HB; have HO267 := n0_; have HO270 := n1_; have BK263 := n2_; have BK264 := n3_; have HB := n4_; clear n0_ n1_ n2_ n3_ n4_; (try clear hb); (try clear hb2); (try clear hk); (try clear hi); (try clear ho0); (try clear ho1); obtain ⟨Ao8, co8, eo8⟩ := Kd.R_slice HO267.out; subst eo8; have hcz9_0 : w7.cell? ⟨gb263, 0, none⟩ = some (.int .i64 a0_0) := (blk_cell BK263.out 0).trans rfl; have hcz9_1 : w7.cell? ⟨gb263, 1, none⟩ = some (.int .i64 a0_1) := (blk_cell BK263.out 1).trans rfl; have hcz9_2 : w7.cell? ⟨gb263, 2, none⟩ = some (.int .i64 a0_2) := (blk_cell BK263.out 2).trans rfl; have hcz9_3 : w7.cell? ⟨gb263, 3, none⟩ = some (.slice A0_3 l0_3.length c0_3) := (blk_cell BK263.out 3).trans rfl; have hcz9_4 : w7.cell? ⟨gb263, 4, none⟩ = some (.slice A0_4 l0_4.length c0_4) := (blk_cell BK263.out 4).trans rfl; have hcz9_5 : w7.cell? ⟨gb263, 5, none⟩ = some (.string a0_5) := (blk_cell BK263.out 5).trans rfl; have hfz9_0 := blk_frozen BK263.out 0; have hfz9_1 := blk_frozen BK263.out 1; have hfz9_2 := blk_frozen BK263.out 2; have hfz9_3 := blk_frozen BK263.out 3; have hfz9_4 := blk_frozen BK263.out 4; have hfz9_5 := blk_frozen BK263.out 5; obtain ⟨Ao10, co10, eo10⟩ := Kd.R_slice HO270.out; subst eo10; have hcz11_0 : w7.cell? ⟨gb264, 0, none⟩ = some (.int .i64 0) := (blk_cell BK264.out 0).trans rfl; have hcz11_1 : w7.cell? ⟨gb264, 1, none⟩ = some (.int .i64 0) := (blk_cell BK264.out 1).trans rfl; have hcz11_2 : w7.cell? ⟨gb264, 2, none⟩ = some (.int .i64 0) := (blk_cell BK264.out 2).trans rfl; have hcz11_3 : w7.cell? ⟨gb264, 3, none⟩ = some (.slice none 0 0) := (blk_cell BK264.out 3).trans rfl; have hcz11_4 : w7.cell? ⟨gb264, 4, none⟩ = some (.slice none 0 0) := (blk_cell BK264.out 4).trans rfl; have hcz11_5 : w7.cell? ⟨gb264, 5, none⟩ = some (.string (⟨#[]⟩ : ByteArray)) := (blk_cell BK264.out 5).trans rfl; have hfz11_0 := blk_frozen BK264.out 0; have hfz11_1 := blk_frozen BK264.out 1; have hfz11_2 := blk_frozen BK264.out 2; have hfz11_3 := blk_frozen BK264.out 3; have hfz11_4 := blk_frozen BK264.out 4; have hfz11_5 := blk_frozen BK264.out 5))
  refine bodyPost_ret (results_cell_row rfl _ _ gb264 54 #[.int .i64 a0_0, .int .i64 a0_1, .int .i64 a0_2, .slice Ao8 t265.length co8, .slice Ao10 t268.length co10, .string a0_5] (0, 0) _ rfl (by (with_reducible repeat (first | refine blk_drewN ?_ _ | refine blk_drew ?_ | refine blk_alloc ?_ _)); refine blk_put (cs := #[.int .i64 a0_0, .int .i64 a0_1, .int .i64 a0_2, .slice Ao8 t265.length co8, .slice Ao10 t268.length co10, .string (⟨#[]⟩ : ByteArray)]) ?_ 5 _ rfl; (with_reducible repeat (first | refine blk_drewN ?_ _ | refine blk_drew ?_ | refine blk_alloc ?_ _)); refine blk_put (cs := #[.int .i64 a0_0, .int .i64 a0_1, .int .i64 a0_2, .slice Ao8 t265.length co8, .slice none 0 0, .string (⟨#[]⟩ : ByteArray)]) ?_ 4 _ rfl; (with_reducible repeat (first | refine blk_drewN ?_ _ | refine blk_drew ?_ | refine blk_alloc ?_ _)); refine blk_put (cs := #[.int .i64 a0_0, .int .i64 a0_1, .int .i64 a0_2, .slice none 0 0, .slice none 0 0, .string (⟨#[]⟩ : ByteArray)]) ?_ 3 _ rfl; (with_reducible repeat (first | refine blk_drewN ?_ _ | refine blk_drew ?_ | refine blk_alloc ?_ _)); refine blk_put (cs := #[.int .i64 a0_0, .int .i64 a0_1, .int .i64 0, .slice none 0 0, .slice none 0 0, .string (⟨#[]⟩ : ByteArray)]) ?_ 2 _ rfl; (with_reducible repeat (first | refine blk_drewN ?_ _ | refine blk_drew ?_ | refine blk_alloc ?_ _)); refine blk_put (cs := #[.int .i64 a0_0, .int .i64 0, .int .i64 0, .slice none 0 0, .slice none 0 0, .string (⟨#[]⟩ : ByteArray)]) ?_ 1 _ rfl; (with_reducible repeat (first | refine blk_drewN ?_ _ | refine blk_drew ?_ | refine blk_alloc ?_ _)); refine blk_put (cs := #[.int .i64 0, .int .i64 0, .int .i64 0, .slice none 0 0, .slice none 0 0, .string (⟨#[]⟩ : ByteArray)]) ?_ 0 _ rfl; (with_reducible repeat (first | refine blk_drewN ?_ _ | refine blk_drew ?_ | refine blk_alloc ?_ _)); refine blk_far ?_ NB264_263.out _; (with_reducible repeat (first | refine blk_drewN ?_ _ | refine blk_drew ?_ | refine blk_alloc ?_ _)); refine blk_far ?_ NB264_263.out _; (with_reducible repeat (first | refine blk_drewN ?_ _ | refine blk_drew ?_ | refine blk_alloc ?_ _)); exact BK264.out) Try.underlying54 rfl (by kernel_rfl)) rfl ?_
  exact ⟨_, _, by first | rfl | (simp [errW_none, errW_some] <;> rfl) | (simp [*, errW_none, errW_some] <;> rfl), by (with_reducible repeat (first | apply Kd.R_alloc | apply Kd.R_drewN | apply Kd.R_drew)); exact Kd.R_mono (Kd.R_far (p := ⟨gb264, 5, none⟩) (Kd.R_far (p := ⟨gb264, 4, none⟩) (Kd.R_far (p := ⟨gb264, 3, none⟩) (Kd.R_far (p := ⟨gb264, 2, none⟩) (Kd.R_far (p := ⟨gb264, 1, none⟩) (Kd.R_far (p := ⟨gb264, 0, none⟩) (Kd.R_far (p := ⟨gb263, 4, none⟩) (Kd.R_far (p := ⟨gb263, 3, none⟩) (Kd.R_types (Kd.R_types HO267.out BK263.out (by decide)) BK264.out (by decide)) (fun _ hk => hk.1.2) (.slice Ao8 t265.length co8)) (fun _ hk => hk.1.2) (.slice Ao10 t268.length co10)) (fun _ hk => hk.2) (.int .i64 a0_0)) (fun _ hk => hk.2) (.int .i64 a0_1)) (fun _ hk => hk.2) (.int .i64 a0_2)) (fun _ hk => hk.2) (.slice Ao8 t265.length co8)) (fun _ hk => hk.2) (.slice Ao10 t268.length co10)) (fun _ hk => hk.2) (.string a0_5)) (fun _ hk => hk.1.1), by (with_reducible repeat (first | apply Kd.R_alloc | apply Kd.R_drewN | apply Kd.R_drew)); exact Kd.R_mono (Kd.R_far (p := ⟨gb264, 5, none⟩) (Kd.R_far (p := ⟨gb264, 4, none⟩) (Kd.R_far (p := ⟨gb264, 3, none⟩) (Kd.R_far (p := ⟨gb264, 2, none⟩) (Kd.R_far (p := ⟨gb264, 1, none⟩) (Kd.R_far (p := ⟨gb264, 0, none⟩) (Kd.R_far (p := ⟨gb263, 4, none⟩) (Kd.R_far (p := ⟨gb263, 3, none⟩) (Kd.R_types (Kd.R_types HO270.out BK263.out (by decide)) BK264.out (by decide)) (fun _ hk => hk.1.2) (.slice Ao8 t265.length co8)) (fun _ hk => hk.1.2) (.slice Ao10 t268.length co10)) (fun _ hk => hk.2) (.int .i64 a0_0)) (fun _ hk => hk.2) (.int .i64 a0_1)) (fun _ hk => hk.2) (.int .i64 a0_2)) (fun _ hk => hk.2) (.slice Ao8 t265.length co8)) (fun _ hk => hk.2) (.slice Ao10 t268.length co10)) (fun _ hk => hk.2) (.string a0_5)) (fun _ hk => hk.1.1), by repeat (first | (with_reducible first | exact HB.out | apply below_alloc | apply pw_below_drewN | apply below_drew1 | refine below_set ?_ GE263.out | refine below_set ?_ GE264.out) | exact HB.out)⟩

end Go.Proofs.Ytbjhjimkljbjlaa.PA
