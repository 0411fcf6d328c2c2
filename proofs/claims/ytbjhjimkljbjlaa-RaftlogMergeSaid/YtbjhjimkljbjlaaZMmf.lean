/- Texts put together: PAx31, HPureMerge, HMerges, HLawMerge, HMerge2. -/
import Derived.Test.YtbjhjimkljbjlaaZMma
import Derived.Test.YtbjhjimkljbjlaaZMmb
import Derived.Test.YtbjhjimkljbjlaaZMme
import Derived.Outline
import Derived.Lib.Hide
import Derived.KernelRfl
import Derived.Test.YtbjhjimkljbjlaaZMmc
import Derived.Test.YtbjhjimkljbjlaaZMmd
-- WRITTEN BY hookprint.py (a program of this session, over the kit's print.py): not typed by hand
namespace Go.Proofs.Ytbjhjimkljbjlaa.PA
open Go.RowKit Go.Proofs.YtbjhjimkljbjlaaW.PrintWords Go.Proofs.YtbjhjimkljbjlaaW.PrintLast Go.Proofs.YtbjhjimkljbjlaaW.PrintMore
attribute [local go_sem] max2_int min2_int max_two min_two max_three min_three max_four min_four   -- for this text's walks alone
set_option linter.unusedVariables false
set_option linter.unusedSimpArgs false

/-! ### folkmootref16_Merge: function 29 -/
mutual
def folkmootref16_Merge.l0 : Nat → Int → Int → List (S54) → Int → Int → Int → Int → Int → List Int → List Int → ByteArray → List (S54) → Option ((List (S57)) × Int × Int)
  | 0, _, _, _, _, _, _, _, _, _, _, _, _ => none
  | k + 1, x1, x2, x3, x11, x432000, x432001, x432002, x432003, x432004, x432005, x432006, x432007 => if x11 < (x3.length : Int) then (if 0 ≤ x11 then (if ((rd_T54 x3 x11).f0) ≤ x1 then (some (([] : List (S57)), 0, 1)) else (if (wrap64 ((wrap64 (((rd_T54 x3 x11).f0) - 1)) - x11)) = x1 then (folkmootref16_Merge.l0 k x1 x2 x3 (wrap64 (x11 + 1)) x432000 x432001 x432002 x432003 x432004 x432005 x432006 x432007) else (some (([] : List (S57)), 0, 1)))) else (none)) else ((folkmootref16_Last.f k x432000 x432001 x432002 x432003 x432004 x432005 x432006 x432007).bind fun bt435 => (if x1 > bt435.1 then (some (([] : List (S57)), 0, 150)) else (if x1 ≥ x432002 then ((folkmootref16_Term.f k x432000 x432001 x432002 x432003 x432004 x432005 x432006 x432007 x1).bind fun bt437 => (if bt437.1 = x2 then (folkmootref16_Merge.j1 k x1 x3 x432000 x432001 x432002 x432003 x432004 x432005 x432006 x432007) else (some (([] : List (S57)), 0, 150)))) else (folkmootref16_Merge.j1 k x1 x3 x432000 x432001 x432002 x432003 x432004 x432005 x432006 x432007))))
def folkmootref16_Merge.j1 : Nat → Int → List (S54) → Int → Int → Int → Int → List Int → List Int → ByteArray → List (S54) → Option ((List (S57)) × Int × Int)
  | 0, _, _, _, _, _, _, _, _, _, _ => none
  | k + 1, x1, x3, x432000, x432001, x432002, x432003, x432004, x432005, x432006, x432007 => folkmootref16_Merge.l1 k x1 x3 ([] : List (S57)) 0 x432000 x432001 x432002 x432003 x432004 x432005 x432006 x432007
def folkmootref16_Merge.l1 : Nat → Int → List (S54) → List (S57) → Int → Int → Int → Int → Int → List Int → List Int → ByteArray → List (S54) → Option ((List (S57)) × Int × Int)
  | 0, _, _, _, _, _, _, _, _, _, _, _, _ => none
  | k + 1, x1, x3, x16, x17, x432000, x432001, x432002, x432003, x432004, x432005, x432006, x432007 => if x17 < (x3.length : Int) then (if 0 ≤ x17 then (if ((rd_T54 x3 x17).f0) ≤ x432002 then (folkmootref16_Merge.l1 k x1 x3 x16 (wrap64 (x17 + 1)) x432000 x432001 x432002 x432003 x432004 x432005 x432006 x432007) else ((folkmootref16_Term.f k x432000 x432001 x432002 x432003 x432004 x432005 x432006 x432007 ((rd_T54 x3 x17).f0)).bind fun bt442 => (if (x16.length : Int) = 0 then (if bt442.2 = 0 then (folkmootref16_Merge.j3 k x1 x3 x16 x17 bt442.2 (bt442.1 == ((rd_T54 x3 x17).f1)) x432000 x432001 x432002 x432003 x432004 x432005 x432006 x432007) else (folkmootref16_Merge.j3 k x1 x3 x16 x17 bt442.2 false x432000 x432001 x432002 x432003 x432004 x432005 x432006 x432007)) else (folkmootref16_Merge.j3 k x1 x3 x16 x17 bt442.2 false x432000 x432001 x432002 x432003 x432004 x432005 x432006 x432007)))) else (none)) else (if (x3.length : Int) > 0 then (if 0 ≤ (wrap64 ((x3.length : Int) - 1)) then (if (wrap64 ((x3.length : Int) - 1)) < (x3.length : Int) then (some (x16, mx ((rd_T54 x3 (wrap64 ((x3.length : Int) - 1))).f0) x432002, 0)) else (none)) else (none)) else (some (x16, mx x1 x432002, 0)))
def folkmootref16_Merge.j3 : Nat → Int → List (S54) → List (S57) → Int → Int → Bool → Int → Int → Int → Int → List Int → List Int → ByteArray → List (S54) → Option ((List (S57)) × Int × Int)
  | 0, _, _, _, _, _, _, _, _, _, _, _, _, _, _ => none
  | k + 1, x1, x3, x16, x17, x19, x111, x432000, x432001, x432002, x432003, x432004, x432005, x432006, x432007 => if x111 = true then (folkmootref16_Merge.l1 k x1 x3 x16 (wrap64 (x17 + 1)) x432000 x432001 x432002 x432003 x432004 x432005 x432006 x432007) else (if (x16.length : Int) = 0 then (if x19 = 0 then (if 0 ≤ x17 then (if x17 < (x3.length : Int) then (if x16.length < 703687441776 then ((some (x16 ++ [(⟨3, 0, 0, (⟨0, 0, 0, (⟨([] : List Int), ([] : List Int)⟩ : S25), (⟨#[]⟩ : ByteArray)⟩ : S54), (rd_T54 x3 x17).f0, (⟨0, 0, (⟨([] : List Int), ([] : List Int)⟩ : S25), (⟨#[]⟩ : ByteArray)⟩ : S27)⟩ : S57)] : List (S57))).bind fun y446 => ((folkmootref15_Entry.f ((rd_T54 x3 x17).f0) ((rd_T54 x3 x17).f1) ((rd_T54 x3 x17).f2) ((rd_T54 x3 x17).f3.f0) ((rd_T54 x3 x17).f3.f1) ((rd_T54 x3 x17).f4)).bind fun bt450 => (if y446.length < 703687441776 then (folkmootref16_Merge.l1 k x1 x3 (y446 ++ [(⟨2, 0, 0, (⟨bt450.1, bt450.2.1, bt450.2.2.1, (⟨bt450.2.2.2.1, bt450.2.2.2.2.1⟩ : S25), bt450.2.2.2.2.2⟩ : S54), 0, (⟨0, 0, (⟨([] : List Int), ([] : List Int)⟩ : S25), (⟨#[]⟩ : ByteArray)⟩ : S27)⟩ : S57)]) (wrap64 (x17 + 1)) x432000 x432001 x432002 x432003 x432004 x432005 x432006 x432007) else (none)))) else (none)) else (none)) else (none)) else (if 0 ≤ x17 then (if x17 < (x3.length : Int) then ((folkmootref15_Entry.f ((rd_T54 x3 x17).f0) ((rd_T54 x3 x17).f1) ((rd_T54 x3 x17).f2) ((rd_T54 x3 x17).f3.f0) ((rd_T54 x3 x17).f3.f1) ((rd_T54 x3 x17).f4)).bind fun bt464 => (if x16.length < 703687441776 then (folkmootref16_Merge.l1 k x1 x3 (x16 ++ [(⟨2, 0, 0, (⟨bt464.1, bt464.2.1, bt464.2.2.1, (⟨bt464.2.2.2.1, bt464.2.2.2.2.1⟩ : S25), bt464.2.2.2.2.2⟩ : S54), 0, (⟨0, 0, (⟨([] : List Int), ([] : List Int)⟩ : S25), (⟨#[]⟩ : ByteArray)⟩ : S27)⟩ : S57)]) (wrap64 (x17 + 1)) x432000 x432001 x432002 x432003 x432004 x432005 x432006 x432007) else (none))) else (none)) else (none))) else (if 0 ≤ x17 then (if x17 < (x3.length : Int) then ((folkmootref15_Entry.f ((rd_T54 x3 x17).f0) ((rd_T54 x3 x17).f1) ((rd_T54 x3 x17).f2) ((rd_T54 x3 x17).f3.f0) ((rd_T54 x3 x17).f3.f1) ((rd_T54 x3 x17).f4)).bind fun bt478 => (if x16.length < 703687441776 then (folkmootref16_Merge.l1 k x1 x3 (x16 ++ [(⟨2, 0, 0, (⟨bt478.1, bt478.2.1, bt478.2.2.1, (⟨bt478.2.2.2.1, bt478.2.2.2.2.1⟩ : S25), bt478.2.2.2.2.2⟩ : S54), 0, (⟨0, 0, (⟨([] : List Int), ([] : List Int)⟩ : S25), (⟨#[]⟩ : ByteArray)⟩ : S27)⟩ : S57)]) (wrap64 (x17 + 1)) x432000 x432001 x432002 x432003 x432004 x432005 x432006 x432007) else (none))) else (none)) else (none)))
end
def folkmootref16_Merge.f (k : Nat) (a0_0 : Int) (a0_1 : Int) (a0_2 : Int) (a0_3 : Int) (l0_4 : List Int) (l0_5 : List Int) (a0_6 : ByteArray) (l0_7 : List (S54)) (a1 : Int) (a2 : Int) (l3 : List (S54)) : Option ((List (S57)) × Int × Int) := (folkmootref16_On.f k a0_0 a0_1 a0_2 a0_3 l0_4 l0_5 a0_6 l0_7).bind fun t432 => (if t432 = true then (folkmootref16_Merge.l0 k a1 a2 l3 0 a0_0 a0_1 a0_2 a0_3 l0_4 l0_5 a0_6 l0_7) else (some (([] : List (S57)), 0, 1)))
def folkmootref16_Merge.T19 : Bool × List (List Nat × List Nat) := (true, [([], []), ([], []), ([0, 1], [0, 1]), ([2], [2]), ([3], [3]), ([], []), ([5], [5]), ([6], [6]), ([4, 7], [4, 7])])
def folkmootref16_Merge.B19 : List Nat := [0, 0, 3, 7, 15, 0, 32, 96, 255]
theorem folkmootref16_Merge.tab19 : rtab .any (opsOf Try.f29 19) = folkmootref16_Merge.T19 := by kernel_rfl
theorem folkmootref16_Merge.bits19 : waitsOk folkmootref16_Merge.T19.2 folkmootref16_Merge.B19 = true := by kernel_rfl
def folkmootref16_Merge.T20 : Bool × List (List Nat × List Nat) := (true, [([], []), ([], []), ([], []), ([1, 2], [1, 2]), ([3], [3]), ([4], [4]), ([0, 5], [0, 5]), ([6], [6]), ([7], [7]), ([7], [7]), ([8, 6, 0, 1, 2, 3, 4, 5, 6, 7, 8], [8]), ([9, 10, 0, 1, 2, 3, 4, 5, 6, 7, 8, 9, 10], [9])])
def folkmootref16_Merge.B20 : List Nat := [0, 0, 0, 6, 14, 30, 63, 127, 255, 255, 511, 2047]
theorem folkmootref16_Merge.tab20 : rtab .any (opsOf Try.f29 20) = folkmootref16_Merge.T20 := by kernel_rfl
theorem folkmootref16_Merge.bits20 : waitsOk folkmootref16_Merge.T20.2 folkmootref16_Merge.B20 = true := by kernel_rfl
def folkmootref16_Merge.T28 : Bool × List (List Nat × List Nat) := (true, [([], []), ([], []), ([], []), ([2], [2]), ([3], [3]), ([1, 4], [1, 4]), ([0, 0], [0]), ([5, 6, 0, 1, 2, 3, 4, 5, 6], [5]), ([7, 0, 1, 2, 3, 4, 5, 6, 7], [])])
def folkmootref16_Merge.B28 : List Nat := [0, 0, 0, 4, 12, 30, 1, 127, 255]
theorem folkmootref16_Merge.tab28 : rtab .any (opsOf Try.f29 28) = folkmootref16_Merge.T28 := by kernel_rfl
theorem folkmootref16_Merge.bits28 : waitsOk folkmootref16_Merge.T28.2 folkmootref16_Merge.B28 = true := by kernel_rfl
set_option maxHeartbeats 8000000 in
set_option maxRecDepth 100000 in
theorem folkmootref16_Merge.calls (k : Nat) (a0_0 : Int) (a0_1 : Int) (a0_2 : Int) (a0_3 : Int) (A0_4 : Option Addr) (c0_4 : Nat) (l0_4 : List Int) (A0_5 : Option Addr) (c0_5 : Nat) (l0_5 : List Int) (a0_6 : ByteArray) (A0_7 : Option Addr) (c0_7 : Nat) (l0_7 : List (S54)) (a1 : Int) (a2 : Int) (A3 : Option Addr) (c3 : Nat) (l3 : List (S54)) (r1 : List (S57)) (r2 : Int) (r3 : Int) (w : World) (hr0_4 : Kd.C (Kd.int .i64) w A0_4 l0_4.length l0_4) (hc0_4 : l0_4.length ≤ c0_4) (hr0_5 : Kd.C (Kd.int .i64) w A0_5 l0_5.length l0_5) (hc0_5 : l0_5.length ≤ c0_5) (hr0_7 : Kd.C k54 w A0_7 l0_7.length l0_7) (hc0_7 : l0_7.length ≤ c0_7) (hr3 : Kd.C k54 w A3 l3.length l3) (hc3 : l3.length ≤ c3) (h : folkmootref16_Merge.f k a0_0 a0_1 a0_2 a0_3 l0_4 l0_5 a0_6 l0_7 a1 a2 l3 = some (r1, r2, r3)) :
    Calls Try.prog 29 #[.agg #[.int .i64 a0_0, .int .i64 a0_1, .int .i64 a0_2, .int .i64 a0_3, .slice A0_4 l0_4.length c0_4, .slice A0_5 l0_5.length c0_5, .string a0_6, .slice A0_7 l0_7.length c0_7], .int .i64 a1, .int .i64 a2, .slice A3 l3.length c3] w fun e w' => ∃ v0_ : Value, e = .returned (.tuple #[v0_, .int .i64 r2, .int .i64 r3]) ∧ Kd.S k57 57 w' w.heap.size (fun _ => True) v0_ r1 ∧ Below w.heap.size w w' := by
  have hu30 := Try.underlying30
  have hu57 := Try.underlying57
  have hu54 := Try.underlying54
  have HR0_4 := Aside0.mk hr0_4
  have HC0_4 := Aside0.mk hc0_4
  clear hr0_4 hc0_4
  have HR0_5 := Aside0.mk hr0_5
  have HC0_5 := Aside0.mk hc0_5
  clear hr0_5 hc0_5
  have HR0_7 := Aside0.mk hr0_7
  have HC0_7 := Aside0.mk hc0_7
  clear hr0_7 hc0_7
  have HR3 := Aside0.mk hr3
  have HC3 := Aside0.mk hc3
  clear hr3 hc3
  have HB := Aside0.mk (Below.refl w.heap.size w)
  have H : ((folkmootref16_On.f k a0_0 a0_1 a0_2 a0_3 l0_4 l0_5 a0_6 l0_7).bind fun t432 => (if t432 = true then (folkmootref16_Merge.l0 k a1 a2 l3 0 a0_0 a0_1 a0_2 a0_3 l0_4 l0_5 a0_6 l0_7) else (some (([] : List (S57)), 0, 1)))) = some (r1, r2, r3) := h
  clear h
  replace H := Option.bind_eq_some_iff.mp H
  obtain ⟨t432, A50, H⟩ := H
  replace H : (if t432 = true then (folkmootref16_Merge.l0 k a1 a2 l3 0 a0_0 a0_1 a0_2 a0_3 l0_4 l0_5 a0_6 l0_7) else (some (([] : List (S57)), 0, 1))) = some (r1, r2, r3) := H
  have A5 := Aside0.mk A50
  clear A50
  by_cases c6 : t432 = true
  · subst c6
    have H1 : (folkmootref16_Merge.l0 k a1 a2 l3 0 a0_0 a0_1 a0_2 a0_3 l0_4 l0_5 a0_6 l0_7) = some (r1, r2, r3) := by rw [if_pos rfl] at H; exact H
    clear H
    have H := H1
    clear H1
    have H' := Aside0.mk H
    clear H
    go_enter Try.func29, Try.ntmps29
    go_wp2_with (first | ((with_reducible refine gate_dst (N := 4) rfl ?_); refine box_event ?hg (N := 4) ?hd (cs := #[.int .i64 a0_0, .int .i64 a0_1, .int .i64 a0_2, .int .i64 a0_3, .slice A0_4 l0_4.length c0_4, .slice A0_5 l0_5.length c0_5, .string a0_6, .slice A0_7 l0_7.length c0_7]) (t := 30) ?hr ?_; (case hd => rfl); (case hg => rfl); (case hr => first | (go_simp; done) | (go_simp; rfl)); intro gb431 hg w7 hbox hb; have n0_ := Aside0.mk (below_step (by repeat (first | (with_reducible first | exact HB.out | apply below_alloc | apply pw_below_drewN | apply below_drew1) | exact HB.out)) hb); have n1_ := Aside0.mk (hbox); have n2_ := Aside0.mk ((by rw [hg]; exact (below_size (by repeat (first | (with_reducible first | exact HB.out | apply below_alloc | apply pw_below_drewN | apply below_drew1) | exact HB.out))) : w.heap.size ≤ gb431)); have n3_ := Aside0.mk ((by rw [hg]; exact (below_size (by repeat (first | (with_reducible first | exact HB.out | apply below_alloc | apply pw_below_drewN | apply below_drew1) | exact HB.out))) : w.heap.size ≤ gb431)); clear HB; have HB := n0_; have BK431 := n1_; have GW431 := n2_; have GE431 := n3_; clear n0_ n1_ n2_ n3_; clear hb hbox hg; have hcz8_0 : w7.cell? ⟨gb431, 0, none⟩ = some (.int .i64 a0_0) := (blk_cell BK431.out 0).trans rfl; have hcz8_1 : w7.cell? ⟨gb431, 1, none⟩ = some (.int .i64 a0_1) := (blk_cell BK431.out 1).trans rfl; have hcz8_2 : w7.cell? ⟨gb431, 2, none⟩ = some (.int .i64 a0_2) := (blk_cell BK431.out 2).trans rfl; have hcz8_3 : w7.cell? ⟨gb431, 3, none⟩ = some (.int .i64 a0_3) := (blk_cell BK431.out 3).trans rfl; have hcz8_4 : w7.cell? ⟨gb431, 4, none⟩ = some (.slice A0_4 l0_4.length c0_4) := (blk_cell BK431.out 4).trans rfl; have hcz8_5 : w7.cell? ⟨gb431, 5, none⟩ = some (.slice A0_5 l0_5.length c0_5) := (blk_cell BK431.out 5).trans rfl; have hcz8_6 : w7.cell? ⟨gb431, 6, none⟩ = some (.string a0_6) := (blk_cell BK431.out 6).trans rfl; have hcz8_7 : w7.cell? ⟨gb431, 7, none⟩ = some (.slice A0_7 l0_7.length c0_7) := (blk_cell BK431.out 7).trans rfl; have hfz8_0 := blk_frozen BK431.out 0; have hfz8_1 := blk_frozen BK431.out 1; have hfz8_2 := blk_frozen BK431.out 2; have hfz8_3 := blk_frozen BK431.out 3; have hfz8_4 := blk_frozen BK431.out 4; have hfz8_5 := blk_frozen BK431.out 5; have hfz8_6 := blk_frozen BK431.out 6; have hfz8_7 := blk_frozen BK431.out 7) | ((with_reducible refine gate_callee (f := 14) rfl ?_); refine goesL_ (some 22) rfl rfl Try.func14 (by kernel_rfl) rfl #[.agg #[.int .i64 a0_0, .int .i64 a0_1, .int .i64 a0_2, .int .i64 a0_3, .slice A0_4 l0_4.length c0_4, .slice A0_5 l0_5.length c0_5, .string a0_6, .slice A0_7 l0_7.length c0_7]] rfl (by (try simp only [List.map_toArray, List.map_cons, List.map_nil]); first | done | rfl | (simp only [List.length_drop, List.length_take]; rfl)) ?_; (with_reducible refine (folkmootref16_On.calls k a0_0 a0_1 a0_2 a0_3 _ _ l0_4 _ _ l0_5 a0_6 _ _ l0_7 true _ ?side1 ?side2 ?side3 ?side4 ?side5 ?side6 A5.out).mono ?_); (case side1 => repeat (first | exact (Kd.C_below HR0_4.out HB.out) | (with_reducible refine Kd.C_alloc ?_ _) | (with_reducible refine Kd.C_drewN ?_ _) | (with_reducible refine Kd.C_drew ?_))); (case side2 => exact HC0_4.out); (case side3 => repeat (first | exact (Kd.C_below HR0_5.out HB.out) | (with_reducible refine Kd.C_alloc ?_ _) | (with_reducible refine Kd.C_drewN ?_ _) | (with_reducible refine Kd.C_drew ?_))); (case side4 => exact HC0_5.out); (case side5 => repeat (first | exact (Kd.C_below HR0_7.out HB.out) | (with_reducible refine Kd.C_alloc ?_ _) | (with_reducible refine Kd.C_drewN ?_ _) | (with_reducible refine Kd.C_drew ?_))); (case side6 => exact HC0_7.out); rintro e w9 ⟨rfl, hb⟩; refine ⟨_, rfl, ?_⟩; have n0_ := Aside0.mk (blk_below (g := gb431) (o := .cells #[.int .i64 a0_0, .int .i64 a0_1, .int .i64 a0_2, .int .i64 a0_3, .slice A0_4 l0_4.length c0_4, .slice A0_5 l0_5.length c0_5, .string a0_6, .slice A0_7 l0_7.length c0_7] 30 (0, 0)) (by (with_reducible repeat (first | refine blk_drewN ?_ _ | refine blk_drew ?_ | refine blk_alloc ?_ _)); exact BK431.out) hb); have n1_ := Aside0.mk (below_step (by repeat (first | (with_reducible first | exact HB.out | apply below_alloc | apply pw_below_drewN | apply below_drew1 | refine below_set ?_ GE431.out) | exact HB.out)) hb); clear BK431; clear HB; have BK431 := n0_; have HB := n1_; clear n0_ n1_; (try clear hb); (try clear hb2); (try clear hk); (try clear hi)))
    go_loopg [11] k (fun kq v11 w' => ∃ (x11_1 : Int), v11 = .int .i64 x11_1 ∧ Aside0 (folkmootref16_Merge.l0 kq a1 a2 l3 x11_1 a0_0 a0_1 a0_2 a0_3 l0_4 l0_5 a0_6 l0_7 = some (r1, r2, r3)) ∧ Aside0 (kq ≤ k) ∧ Aside0 (w'.heap[gb431]? = some (.cells #[.int .i64 a0_0, .int .i64 a0_1, .int .i64 a0_2, .int .i64 a0_3, (.slice A0_4 l0_4.length c0_4), (.slice A0_5 l0_5.length c0_5), .string a0_6, (.slice A0_7 l0_7.length c0_7)] 30 (0, 0))) ∧ Aside0 (Below w.heap.size w w'))
    case atStart => exact ⟨(0), (by first | rfl | (simp; done) | (simp [*]; done)), H', ⟨Nat.le_refl _⟩, ⟨by (with_reducible repeat (first | refine blk_drewN ?_ _ | refine blk_drew ?_ | refine blk_alloc ?_ _)); exact BK431.out⟩, ⟨by repeat (first | (with_reducible first | exact HB.out | apply below_alloc | apply pw_below_drewN | apply below_drew1 | refine below_set ?_ GE431.out) | exact HB.out)⟩⟩
    case round =>
      clear H'
      try clear c1
      try clear c2
      try clear p2
      try clear c3
      try clear c6
      try clear hcz8_0
      try clear hcz8_1
      try clear hcz8_2
      try clear hcz8_3
      try clear hcz8_4
      try clear hcz8_5
      try clear hcz8_6
      try clear hcz8_7
      try clear hfz8_0
      try clear hfz8_1
      try clear hfz8_2
      try clear hfz8_3
      try clear hfz8_4
      try clear hfz8_5
      try clear hfz8_6
      try clear hfz8_7
      obtain ⟨x11_1, rfl, HA, HK1, BK431, HB⟩ := hrel
      cases gk with
      | zero => exact absurd HA.out (by simp [folkmootref16_Merge.l0])
      | succ k1 =>
        have H := HA.out
        clear HA
        simp only [folkmootref16_Merge.l0] at H
        by_cases c10 : x11_1 < (l3.length : Int)
        · rw [if_pos c10] at H
          have c10b0 : decide (x11_1 < (l3.length : Int)) = true := decide_eq_true c10
          clear c10
          by_cases c11 : 0 ≤ x11_1
          · rw [if_pos c11] at H
            have c11b0 : decide (0 ≤ x11_1) = true := decide_eq_true c11
            clear c11
            by_cases c12 : ((rd_T54 l3 x11_1).f0) ≤ a1
            · rw [if_pos c12] at H
              have c12b0 : decide (((rd_T54 l3 x11_1).f0) ≤ a1) = true := decide_eq_true c12
              clear c12
              simp only [Option.some.injEq, Prod.mk.injEq] at H
              obtain ⟨rfl, rfl, rfl⟩ := H
              have p433 : 0 ≤ (x11_1 : Int) := of_decide_eq_true (by first | (with_reducible assumption) | assumption)
              have q433 : x11_1 < (l3.length : Int) := of_decide_eq_true (by first | (with_reducible assumption) | assumption)
              obtain ⟨ad433, A433_3, c433_3, A433_4, c433_4, e433, hx433_0, hx433_1, hx433_2, hx433_3, hx433_4, hx433_5, hl433_3, hi433_3, hl433_4, hi433_4⟩ := at_T54 HR3.out x11_1 p433 q433
              cases e433
              replace hx433_0 := (HB.out.cell (World.block_lt_of_cell? w _ hx433_0)).trans hx433_0
              replace hx433_1 := (HB.out.cell (World.block_lt_of_cell? w _ hx433_1)).trans hx433_1
              replace hx433_2 := (HB.out.cell (World.block_lt_of_cell? w _ hx433_2)).trans hx433_2
              replace hx433_3 := (HB.out.cell (World.block_lt_of_cell? w _ hx433_3)).trans hx433_3
              replace hx433_4 := (HB.out.cell (World.block_lt_of_cell? w _ hx433_4)).trans hx433_4
              replace hx433_5 := (HB.out.cell (World.block_lt_of_cell? w _ hx433_5)).trans hx433_5
              have HR433_3 := Aside0.mk hi433_3
              have HC433_3 := Aside0.mk hl433_3
              clear hi433_3 hl433_3
              have HR433_4 := Aside0.mk hi433_4
              have HC433_4 := Aside0.mk hl433_4
              clear hi433_4 hl433_4
              replace p433 := eq_true p433
              replace q433 := eq_true q433
              go_wp2
              go_ret3
              exact ⟨_, by first | rfl | (simp [errW_none, errW_some] <;> rfl) | (simp [*, errW_none, errW_some] <;> rfl), by first | exact Kd.S_nil _ _ _ _ _ | exact Kd.N_nil _ _ _ _ _ | exact Kd.V_nil _ _ _ _ _ | exact Kd.Q_nil _ _ _ _ _ | exact Kd.R_nil _ _ _ _ _, by repeat (first | (with_reducible first | exact HB.out | apply below_alloc | apply pw_below_drewN | apply below_drew1 | refine below_set ?_ GE431.out) | exact HB.out)⟩
            · rw [if_neg c12] at H
              have c12b0 : decide (((rd_T54 l3 x11_1).f0) ≤ a1) = false := decide_eq_false c12
              clear c12
              by_cases c13 : (wrap64 ((wrap64 (((rd_T54 l3 x11_1).f0) - 1)) - x11_1)) = a1
              · rw [if_pos c13] at H
                have c13b0 : ((wrap64 ((wrap64 (((rd_T54 l3 x11_1).f0) - 1)) - x11_1)) == a1) = true := beq_iff_eq.mpr c13
                have c13b1 : ((wrap64 ((wrap64 (((rd_T54 l3 x11_1).f0) - 1)) - x11_1)) != a1) = false := bne_eq_false_iff_eq.mpr c13
                clear c13
                have H' := Aside0.mk H
                clear H
                have p433 : 0 ≤ (x11_1 : Int) := of_decide_eq_true (by first | (with_reducible assumption) | assumption)
                have q433 : x11_1 < (l3.length : Int) := of_decide_eq_true (by first | (with_reducible assumption) | assumption)
                obtain ⟨ad433, A433_3, c433_3, A433_4, c433_4, e433, hx433_0, hx433_1, hx433_2, hx433_3, hx433_4, hx433_5, hl433_3, hi433_3, hl433_4, hi433_4⟩ := at_T54 HR3.out x11_1 p433 q433
                cases e433
                replace hx433_0 := (HB.out.cell (World.block_lt_of_cell? w _ hx433_0)).trans hx433_0
                replace hx433_1 := (HB.out.cell (World.block_lt_of_cell? w _ hx433_1)).trans hx433_1
                replace hx433_2 := (HB.out.cell (World.block_lt_of_cell? w _ hx433_2)).trans hx433_2
                replace hx433_3 := (HB.out.cell (World.block_lt_of_cell? w _ hx433_3)).trans hx433_3
                replace hx433_4 := (HB.out.cell (World.block_lt_of_cell? w _ hx433_4)).trans hx433_4
                replace hx433_5 := (HB.out.cell (World.block_lt_of_cell? w _ hx433_5)).trans hx433_5
                have HR433_3 := Aside0.mk hi433_3
                have HC433_3 := Aside0.mk hl433_3
                clear hi433_3 hl433_3
                have HR433_4 := Aside0.mk hi433_4
                have HC433_4 := Aside0.mk hl433_4
                clear hi433_4 hl433_4
                replace p433 := eq_true p433
                replace q433 := eq_true q433
                have p434 : 0 ≤ (x11_1 : Int) := of_decide_eq_true (by first | (with_reducible assumption) | assumption)
                have q434 : x11_1 < (l3.length : Int) := of_decide_eq_true (by first | (with_reducible assumption) | assumption)
                obtain ⟨ad434, A434_3, c434_3, A434_4, c434_4, e434, hx434_0, hx434_1, hx434_2, hx434_3, hx434_4, hx434_5, hl434_3, hi434_3, hl434_4, hi434_4⟩ := at_T54 HR3.out x11_1 p434 q434
                obtain rfl : ad433 = ad434 := (by injection e434)
                replace hx434_0 := (HB.out.cell (World.block_lt_of_cell? w _ hx434_0)).trans hx434_0
                replace hx434_1 := (HB.out.cell (World.block_lt_of_cell? w _ hx434_1)).trans hx434_1
                replace hx434_2 := (HB.out.cell (World.block_lt_of_cell? w _ hx434_2)).trans hx434_2
                replace hx434_3 := (HB.out.cell (World.block_lt_of_cell? w _ hx434_3)).trans hx434_3
                replace hx434_4 := (HB.out.cell (World.block_lt_of_cell? w _ hx434_4)).trans hx434_4
                replace hx434_5 := (HB.out.cell (World.block_lt_of_cell? w _ hx434_5)).trans hx434_5
                have HR434_3 := Aside0.mk hi434_3
                have HC434_3 := Aside0.mk hl434_3
                clear hi434_3 hl434_3
                have HR434_4 := Aside0.mk hi434_4
                have HC434_4 := Aside0.mk hl434_4
                clear hi434_4 hl434_4
                replace p434 := eq_true p434
                replace q434 := eq_true q434
                have ea_ := Option.some.inj (hx433_3.symm.trans hx434_3)
                injection ea_ with ea_ en_ ec_
                subst ea_
                subst ec_
                clear en_
                have ea_ := Option.some.inj (hx433_4.symm.trans hx434_4)
                injection ea_ with ea_ en_ ec_
                subst ea_
                subst ec_
                clear en_
                go_wp2
                go_roundg k1
                case measure => have := HK1.out; omega
                case rel => exact ⟨(wrap64 (x11_1 + 1)), (by first | rfl | (simp; done) | (simp [*]; done)), H', ⟨by have := HK1.out; omega⟩, ⟨by (with_reducible repeat (first | refine blk_drewN ?_ _ | refine blk_drew ?_ | refine blk_alloc ?_ _)); exact BK431.out⟩, ⟨by repeat (first | (with_reducible first | exact HB.out | apply below_alloc | apply pw_below_drewN | apply below_drew1 | refine below_set ?_ GE431.out) | exact HB.out)⟩⟩
              · rw [if_neg c13] at H
                have c13b0 : ((wrap64 ((wrap64 (((rd_T54 l3 x11_1).f0) - 1)) - x11_1)) == a1) = false := beq_eq_false_iff_ne.mpr c13
                have c13b1 : ((wrap64 ((wrap64 (((rd_T54 l3 x11_1).f0) - 1)) - x11_1)) != a1) = true := bne_iff_ne.mpr c13
                simp only [Option.some.injEq, Prod.mk.injEq] at H
                obtain ⟨rfl, rfl, rfl⟩ := H
                have p433 : 0 ≤ (x11_1 : Int) := of_decide_eq_true (by first | (with_reducible assumption) | assumption)
                have q433 : x11_1 < (l3.length : Int) := of_decide_eq_true (by first | (with_reducible assumption) | assumption)
                obtain ⟨ad433, A433_3, c433_3, A433_4, c433_4, e433, hx433_0, hx433_1, hx433_2, hx433_3, hx433_4, hx433_5, hl433_3, hi433_3, hl433_4, hi433_4⟩ := at_T54 HR3.out x11_1 p433 q433
                cases e433
                replace hx433_0 := (HB.out.cell (World.block_lt_of_cell? w _ hx433_0)).trans hx433_0
                replace hx433_1 := (HB.out.cell (World.block_lt_of_cell? w _ hx433_1)).trans hx433_1
                replace hx433_2 := (HB.out.cell (World.block_lt_of_cell? w _ hx433_2)).trans hx433_2
                replace hx433_3 := (HB.out.cell (World.block_lt_of_cell? w _ hx433_3)).trans hx433_3
                replace hx433_4 := (HB.out.cell (World.block_lt_of_cell? w _ hx433_4)).trans hx433_4
                replace hx433_5 := (HB.out.cell (World.block_lt_of_cell? w _ hx433_5)).trans hx433_5
                have HR433_3 := Aside0.mk hi433_3
                have HC433_3 := Aside0.mk hl433_3
                clear hi433_3 hl433_3
                have HR433_4 := Aside0.mk hi433_4
                have HC433_4 := Aside0.mk hl433_4
                clear hi433_4 hl433_4
                replace p433 := eq_true p433
                replace q433 := eq_true q433
                have p434 : 0 ≤ (x11_1 : Int) := of_decide_eq_true (by first | (with_reducible assumption) | assumption)
                have q434 : x11_1 < (l3.length : Int) := of_decide_eq_true (by first | (with_reducible assumption) | assumption)
                obtain ⟨ad434, A434_3, c434_3, A434_4, c434_4, e434, hx434_0, hx434_1, hx434_2, hx434_3, hx434_4, hx434_5, hl434_3, hi434_3, hl434_4, hi434_4⟩ := at_T54 HR3.out x11_1 p434 q434
                obtain rfl : ad433 = ad434 := (by injection e434)
                replace hx434_0 := (HB.out.cell (World.block_lt_of_cell? w _ hx434_0)).trans hx434_0
                replace hx434_1 := (HB.out.cell (World.block_lt_of_cell? w _ hx434_1)).trans hx434_1
                replace hx434_2 := (HB.out.cell (World.block_lt_of_cell? w _ hx434_2)).trans hx434_2
                replace hx434_3 := (HB.out.cell (World.block_lt_of_cell? w _ hx434_3)).trans hx434_3
                replace hx434_4 := (HB.out.cell (World.block_lt_of_cell? w _ hx434_4)).trans hx434_4
                replace hx434_5 := (HB.out.cell (World.block_lt_of_cell? w _ hx434_5)).trans hx434_5
                have HR434_3 := Aside0.mk hi434_3
                have HC434_3 := Aside0.mk hl434_3
                clear hi434_3 hl434_3
                have HR434_4 := Aside0.mk hi434_4
                have HC434_4 := Aside0.mk hl434_4
                clear hi434_4 hl434_4
                replace p434 := eq_true p434
                replace q434 := eq_true q434
                have ea_ := Option.some.inj (hx433_3.symm.trans hx434_3)
                injection ea_ with ea_ en_ ec_
                subst ea_
                subst ec_
                clear en_
                have ea_ := Option.some.inj (hx433_4.symm.trans hx434_4)
                injection ea_ with ea_ en_ ec_
                subst ea_
                subst ec_
                clear en_
                go_wp2
                go_ret3
                exact ⟨_, by first | rfl | (simp [errW_none, errW_some] <;> rfl) | (simp [*, errW_none, errW_some] <;> rfl), by first | exact Kd.S_nil _ _ _ _ _ | exact Kd.N_nil _ _ _ _ _ | exact Kd.V_nil _ _ _ _ _ | exact Kd.Q_nil _ _ _ _ _ | exact Kd.R_nil _ _ _ _ _, by repeat (first | (with_reducible first | exact HB.out | apply below_alloc | apply pw_below_drewN | apply below_drew1 | refine below_set ?_ GE431.out) | exact HB.out)⟩
          · rw [if_neg c11] at H
            exact absurd H (by simp)
        · rw [if_neg c10] at H
          have c10b0 : decide (x11_1 < (l3.length : Int)) = false := decide_eq_false c10
          clear c10
          replace H := Option.bind_eq_some_iff.mp H
          obtain ⟨⟨t435, t436⟩, A140, H⟩ := H
          replace H : (if a1 > t435 then (some (([] : List (S57)), 0, 150)) else (if a1 ≥ a0_2 then ((folkmootref16_Term.f k1 a0_0 a0_1 a0_2 a0_3 l0_4 l0_5 a0_6 l0_7 a1).bind fun bt437 => (if bt437.1 = a2 then (folkmootref16_Merge.j1 k1 a1 l3 a0_0 a0_1 a0_2 a0_3 l0_4 l0_5 a0_6 l0_7) else (some (([] : List (S57)), 0, 150)))) else (folkmootref16_Merge.j1 k1 a1 l3 a0_0 a0_1 a0_2 a0_3 l0_4 l0_5 a0_6 l0_7))) = some (r1, r2, r3) := H
          have A14 := Aside0.mk A140
          clear A140
          by_cases c15 : a1 > t435
          · rw [if_pos c15] at H
            have c15b0 : decide (t435 < a1) = true := decide_eq_true c15
            clear c15
            simp only [Option.some.injEq, Prod.mk.injEq] at H
            obtain ⟨rfl, rfl, rfl⟩ := H
            have hcz16_0 : wr.cell? ⟨gb431, 0, none⟩ = some (.int .i64 a0_0) := (blk_cell BK431.out 0).trans rfl
            have hcz16_1 : wr.cell? ⟨gb431, 1, none⟩ = some (.int .i64 a0_1) := (blk_cell BK431.out 1).trans rfl
            have hcz16_2 : wr.cell? ⟨gb431, 2, none⟩ = some (.int .i64 a0_2) := (blk_cell BK431.out 2).trans rfl
            have hcz16_3 : wr.cell? ⟨gb431, 3, none⟩ = some (.int .i64 a0_3) := (blk_cell BK431.out 3).trans rfl
            have hcz16_4 : wr.cell? ⟨gb431, 4, none⟩ = some (.slice A0_4 l0_4.length c0_4) := (blk_cell BK431.out 4).trans rfl
            have hcz16_5 : wr.cell? ⟨gb431, 5, none⟩ = some (.slice A0_5 l0_5.length c0_5) := (blk_cell BK431.out 5).trans rfl
            have hcz16_6 : wr.cell? ⟨gb431, 6, none⟩ = some (.string a0_6) := (blk_cell BK431.out 6).trans rfl
            have hcz16_7 : wr.cell? ⟨gb431, 7, none⟩ = some (.slice A0_7 l0_7.length c0_7) := (blk_cell BK431.out 7).trans rfl
            have hfz16_0 := blk_frozen BK431.out 0
            have hfz16_1 := blk_frozen BK431.out 1
            have hfz16_2 := blk_frozen BK431.out 2
            have hfz16_3 := blk_frozen BK431.out 3
            have hfz16_4 := blk_frozen BK431.out 4
            have hfz16_5 := blk_frozen BK431.out 5
            have hfz16_6 := blk_frozen BK431.out 6
            have hfz16_7 := blk_frozen BK431.out 7
            go_wp2_with (first | ((with_reducible refine gate_callee (f := 11) rfl ?_); refine goesL_ (some 51) rfl rfl Try.func11 (by kernel_rfl) rfl #[.agg #[.int .i64 a0_0, .int .i64 a0_1, .int .i64 a0_2, .int .i64 a0_3, .slice A0_4 l0_4.length c0_4, .slice A0_5 l0_5.length c0_5, .string a0_6, .slice A0_7 l0_7.length c0_7]] rfl (by (try simp only [List.map_toArray, List.map_cons, List.map_nil]); first | done | rfl | (simp only [List.length_drop, List.length_take]; rfl)) ?_; (with_reducible refine (folkmootref16_Last.calls k1 a0_0 a0_1 a0_2 a0_3 _ _ l0_4 _ _ l0_5 a0_6 _ _ l0_7 t435 t436 _ ?side1 ?side2 ?side3 ?side4 ?side5 ?side6 A14.out).mono ?_); (case side1 => repeat (first | exact (Kd.C_below HR0_4.out HB.out) | (with_reducible refine Kd.C_alloc ?_ _) | (with_reducible refine Kd.C_drewN ?_ _) | (with_reducible refine Kd.C_drew ?_))); (case side2 => exact HC0_4.out); (case side3 => repeat (first | exact (Kd.C_below HR0_5.out HB.out) | (with_reducible refine Kd.C_alloc ?_ _) | (with_reducible refine Kd.C_drewN ?_ _) | (with_reducible refine Kd.C_drew ?_))); (case side4 => exact HC0_5.out); (case side5 => repeat (first | exact (Kd.C_below HR0_7.out HB.out) | (with_reducible refine Kd.C_alloc ?_ _) | (with_reducible refine Kd.C_drewN ?_ _) | (with_reducible refine Kd.C_drew ?_))); (case side6 => exact HC0_7.out); rintro e w17 ⟨rfl, hb⟩; refine ⟨_, rfl, ?_⟩; have n0_ := Aside0.mk (blk_below (g := gb431) (o := .cells #[.int .i64 a0_0, .int .i64 a0_1, .int .i64 a0_2, .int .i64 a0_3, .slice A0_4 l0_4.length c0_4, .slice A0_5 l0_5.length c0_5, .string a0_6, .slice A0_7 l0_7.length c0_7] 30 (0, 0)) (by (with_reducible repeat (first | refine blk_drewN ?_ _ | refine blk_drew ?_ | refine blk_alloc ?_ _)); exact BK431.out) hb); have n1_ := Aside0.mk (below_step (by repeat (first | (with_reducible first | exact HB.out | apply below_alloc | apply pw_below_drewN | apply below_drew1 | refine below_set ?_ GE431.out) | exact HB.out)) hb); clear BK431; clear HB; have BK431 := n0_; have HB := n1_; clear n0_ n1_; (try clear hb); (try clear hb2); (try clear hk); (try clear hi)))
            go_ret3
            exact ⟨_, by first | rfl | (simp [errW_none, errW_some] <;> rfl) | (simp [*, errW_none, errW_some] <;> rfl), by first | exact Kd.S_nil _ _ _ _ _ | exact Kd.N_nil _ _ _ _ _ | exact Kd.V_nil _ _ _ _ _ | exact Kd.Q_nil _ _ _ _ _ | exact Kd.R_nil _ _ _ _ _, by repeat (first | (with_reducible first | exact HB.out | apply below_alloc | apply pw_below_drewN | apply below_drew1 | refine below_set ?_ GE431.out) | exact HB.out)⟩
          · rw [if_neg c15] at H
            have c15b0 : decide (t435 < a1) = false := decide_eq_false c15
            clear c15
            have HC18 := Aside0.mk H
            clear H
            have hcz19_0 : wr.cell? ⟨gb431, 0, none⟩ = some (.int .i64 a0_0) := (blk_cell BK431.out 0).trans rfl
            have hcz19_1 : wr.cell? ⟨gb431, 1, none⟩ = some (.int .i64 a0_1) := (blk_cell BK431.out 1).trans rfl
            have hcz19_2 : wr.cell? ⟨gb431, 2, none⟩ = some (.int .i64 a0_2) := (blk_cell BK431.out 2).trans rfl
            have hcz19_3 : wr.cell? ⟨gb431, 3, none⟩ = some (.int .i64 a0_3) := (blk_cell BK431.out 3).trans rfl
            have hcz19_4 : wr.cell? ⟨gb431, 4, none⟩ = some (.slice A0_4 l0_4.length c0_4) := (blk_cell BK431.out 4).trans rfl
            have hcz19_5 : wr.cell? ⟨gb431, 5, none⟩ = some (.slice A0_5 l0_5.length c0_5) := (blk_cell BK431.out 5).trans rfl
            have hcz19_6 : wr.cell? ⟨gb431, 6, none⟩ = some (.string a0_6) := (blk_cell BK431.out 6).trans rfl
            have hcz19_7 : wr.cell? ⟨gb431, 7, none⟩ = some (.slice A0_7 l0_7.length c0_7) := (blk_cell BK431.out 7).trans rfl
            have hfz19_0 := blk_frozen BK431.out 0
            have hfz19_1 := blk_frozen BK431.out 1
            have hfz19_2 := blk_frozen BK431.out 2
            have hfz19_3 := blk_frozen BK431.out 3
            have hfz19_4 := blk_frozen BK431.out 4
            have hfz19_5 := blk_frozen BK431.out 5
            have hfz19_6 := blk_frozen BK431.out 6
            have hfz19_7 := blk_frozen BK431.out 7
            go_upto_if 61 with (first | ((with_reducible refine gate_callee (f := 11) rfl ?_); refine goesL_ (some 51) rfl rfl Try.func11 (by kernel_rfl) rfl #[.agg #[.int .i64 a0_0, .int .i64 a0_1, .int .i64 a0_2, .int .i64 a0_3, .slice A0_4 l0_4.length c0_4, .slice A0_5 l0_5.length c0_5, .string a0_6, .slice A0_7 l0_7.length c0_7]] rfl (by (try simp only [List.map_toArray, List.map_cons, List.map_nil]); first | done | rfl | (simp only [List.length_drop, List.length_take]; rfl)) ?_; (with_reducible refine (folkmootref16_Last.calls k1 a0_0 a0_1 a0_2 a0_3 _ _ l0_4 _ _ l0_5 a0_6 _ _ l0_7 t435 t436 _ ?side1 ?side2 ?side3 ?side4 ?side5 ?side6 A14.out).mono ?_); (case side1 => repeat (first | exact (Kd.C_below HR0_4.out HB.out) | (with_reducible refine Kd.C_alloc ?_ _) | (with_reducible refine Kd.C_drewN ?_ _) | (with_reducible refine Kd.C_drew ?_))); (case side2 => exact HC0_4.out); (case side3 => repeat (first | exact (Kd.C_below HR0_5.out HB.out) | (with_reducible refine Kd.C_alloc ?_ _) | (with_reducible refine Kd.C_drewN ?_ _) | (with_reducible refine Kd.C_drew ?_))); (case side4 => exact HC0_5.out); (case side5 => repeat (first | exact (Kd.C_below HR0_7.out HB.out) | (with_reducible refine Kd.C_alloc ?_ _) | (with_reducible refine Kd.C_drewN ?_ _) | (with_reducible refine Kd.C_drew ?_))); (case side6 => exact HC0_7.out); rintro e w20 ⟨rfl, hb⟩; refine ⟨_, rfl, ?_⟩; have n0_ := Aside0.mk (blk_below (g := gb431) (o := .cells #[.int .i64 a0_0, .int .i64 a0_1, .int .i64 a0_2, .int .i64 a0_3, .slice A0_4 l0_4.length c0_4, .slice A0_5 l0_5.length c0_5, .string a0_6, .slice A0_7 l0_7.length c0_7] 30 (0, 0)) (by (with_reducible repeat (first | refine blk_drewN ?_ _ | refine blk_drew ?_ | refine blk_alloc ?_ _)); exact BK431.out) hb); have n1_ := Aside0.mk (below_step (by repeat (first | (with_reducible first | exact HB.out | apply below_alloc | apply pw_below_drewN | apply below_drew1 | refine below_set ?_ GE431.out) | exact HB.out)) hb); clear BK431; clear HB; have BK431 := n0_; have HB := n1_; clear n0_ n1_; (try clear hb); (try clear hb2); (try clear hk); (try clear hi); have hcz21_0 : w20.cell? ⟨gb431, 0, none⟩ = some (.int .i64 a0_0) := (blk_cell BK431.out 0).trans rfl; have hcz21_1 : w20.cell? ⟨gb431, 1, none⟩ = some (.int .i64 a0_1) := (blk_cell BK431.out 1).trans rfl; have hcz21_2 : w20.cell? ⟨gb431, 2, none⟩ = some (.int .i64 a0_2) := (blk_cell BK431.out 2).trans rfl; have hcz21_3 : w20.cell? ⟨gb431, 3, none⟩ = some (.int .i64 a0_3) := (blk_cell BK431.out 3).trans rfl; have hcz21_4 : w20.cell? ⟨gb431, 4, none⟩ = some (.slice A0_4 l0_4.length c0_4) := (blk_cell BK431.out 4).trans rfl; have hcz21_5 : w20.cell? ⟨gb431, 5, none⟩ = some (.slice A0_5 l0_5.length c0_5) := (blk_cell BK431.out 5).trans rfl; have hcz21_6 : w20.cell? ⟨gb431, 6, none⟩ = some (.string a0_6) := (blk_cell BK431.out 6).trans rfl; have hcz21_7 : w20.cell? ⟨gb431, 7, none⟩ = some (.slice A0_7 l0_7.length c0_7) := (blk_cell BK431.out 7).trans rfl; have hfz21_0 := blk_frozen BK431.out 0; have hfz21_1 := blk_frozen BK431.out 1; have hfz21_2 := blk_frozen BK431.out 2; have hfz21_3 := blk_frozen BK431.out 3; have hfz21_4 := blk_frozen BK431.out 4; have hfz21_5 := blk_frozen BK431.out 5; have hfz21_6 := blk_frozen BK431.out 6; have hfz21_7 := blk_frozen BK431.out 7))
            (try simp only [Act.put, List.setIfInBounds_toArray, List.set_cons_zero, List.set_cons_succ])
            go_cut [] (fun wc => ∃ (kq : Nat), Aside0 (folkmootref16_Merge.j1 kq a1 l3 a0_0 a0_1 a0_2 a0_3 l0_4 l0_5 a0_6 l0_7 = some (r1, r2, r3)) ∧ Aside0 (kq ≤ k1) ∧ Aside0 (wc.heap[gb431]? = some (.cells #[.int .i64 a0_0, .int .i64 a0_1, .int .i64 a0_2, .int .i64 a0_3, (.slice A0_4 l0_4.length c0_4), (.slice A0_5 l0_5.length c0_5), .string a0_6, (.slice A0_7 l0_7.length c0_7)] 30 (0, 0))) ∧ Aside0 (Below w.heap.size w wc))
            case first =>
              have H := HC18.out
              clear HC18
              by_cases c22 : a1 ≥ a0_2
              · rw [if_pos c22] at H
                have c22b0 : decide (a0_2 ≤ a1) = true := decide_eq_true c22
                clear c22
                (first | rw [c22b0] | (simp only [i64_w, i32_w]; rw [c22b0]) | skip)
                replace H := Option.bind_eq_some_iff.mp H
                obtain ⟨⟨t437, t438⟩, A230, H⟩ := H
                replace H : (if t437 = a2 then (folkmootref16_Merge.j1 k1 a1 l3 a0_0 a0_1 a0_2 a0_3 l0_4 l0_5 a0_6 l0_7) else (some (([] : List (S57)), 0, 150))) = some (r1, r2, r3) := H
                have A23 := Aside0.mk A230
                clear A230
                by_cases c24 : t437 = a2
                · rw [if_pos c24] at H
                  have c24b0 : (t437 == a2) = true := beq_iff_eq.mpr c24
                  have c24b1 : (t437 != a2) = false := bne_eq_false_iff_eq.mpr c24
                  clear c24
                  have H' := Aside0.mk H
                  clear H
                  have hcz25_0 : w20.cell? ⟨gb431, 0, none⟩ = some (.int .i64 a0_0) := (blk_cell BK431.out 0).trans rfl
                  have hcz25_1 : w20.cell? ⟨gb431, 1, none⟩ = some (.int .i64 a0_1) := (blk_cell BK431.out 1).trans rfl
                  have hcz25_2 : w20.cell? ⟨gb431, 2, none⟩ = some (.int .i64 a0_2) := (blk_cell BK431.out 2).trans rfl
                  have hcz25_3 : w20.cell? ⟨gb431, 3, none⟩ = some (.int .i64 a0_3) := (blk_cell BK431.out 3).trans rfl
                  have hcz25_4 : w20.cell? ⟨gb431, 4, none⟩ = some (.slice A0_4 l0_4.length c0_4) := (blk_cell BK431.out 4).trans rfl
                  have hcz25_5 : w20.cell? ⟨gb431, 5, none⟩ = some (.slice A0_5 l0_5.length c0_5) := (blk_cell BK431.out 5).trans rfl
                  have hcz25_6 : w20.cell? ⟨gb431, 6, none⟩ = some (.string a0_6) := (blk_cell BK431.out 6).trans rfl
                  have hcz25_7 : w20.cell? ⟨gb431, 7, none⟩ = some (.slice A0_7 l0_7.length c0_7) := (blk_cell BK431.out 7).trans rfl
                  have hfz25_0 := blk_frozen BK431.out 0
                  have hfz25_1 := blk_frozen BK431.out 1
                  have hfz25_2 := blk_frozen BK431.out 2
                  have hfz25_3 := blk_frozen BK431.out 3
                  have hfz25_4 := blk_frozen BK431.out 4
                  have hfz25_5 := blk_frozen BK431.out 5
                  have hfz25_6 := blk_frozen BK431.out 6
                  have hfz25_7 := blk_frozen BK431.out 7
                  go_wp2_with (first | ((with_reducible refine gate_callee (f := 16) rfl ?_); refine goesL_ (some 65) rfl rfl Try.func16 (by kernel_rfl) rfl #[.agg #[.int .i64 a0_0, .int .i64 a0_1, .int .i64 a0_2, .int .i64 a0_3, .slice A0_4 l0_4.length c0_4, .slice A0_5 l0_5.length c0_5, .string a0_6, .slice A0_7 l0_7.length c0_7], .int .i64 a1] rfl (by (try simp only [List.map_toArray, List.map_cons, List.map_nil]); first | done | rfl | (simp only [List.length_drop, List.length_take]; rfl)) ?_; (with_reducible refine (folkmootref16_Term.calls k1 a0_0 a0_1 a0_2 a0_3 _ _ l0_4 _ _ l0_5 a0_6 _ _ l0_7 a1 t437 t438 _ ?side1 ?side2 ?side3 ?side4 ?side5 ?side6 A23.out).mono ?_); (case side1 => repeat (first | exact (Kd.C_below HR0_4.out HB.out) | (with_reducible refine Kd.C_alloc ?_ _) | (with_reducible refine Kd.C_drewN ?_ _) | (with_reducible refine Kd.C_drew ?_))); (case side2 => exact HC0_4.out); (case side3 => repeat (first | exact (Kd.C_below HR0_5.out HB.out) | (with_reducible refine Kd.C_alloc ?_ _) | (with_reducible refine Kd.C_drewN ?_ _) | (with_reducible refine Kd.C_drew ?_))); (case side4 => exact HC0_5.out); (case side5 => repeat (first | exact (Kd.C_below HR0_7.out HB.out) | (with_reducible refine Kd.C_alloc ?_ _) | (with_reducible refine Kd.C_drewN ?_ _) | (with_reducible refine Kd.C_drew ?_))); (case side6 => exact HC0_7.out); rintro e w26 ⟨rfl, hb⟩; refine ⟨_, rfl, ?_⟩; have n0_ := Aside0.mk (blk_below (g := gb431) (o := .cells #[.int .i64 a0_0, .int .i64 a0_1, .int .i64 a0_2, .int .i64 a0_3, .slice A0_4 l0_4.length c0_4, .slice A0_5 l0_5.length c0_5, .string a0_6, .slice A0_7 l0_7.length c0_7] 30 (0, 0)) (by (with_reducible repeat (first | refine blk_drewN ?_ _ | refine blk_drew ?_ | refine blk_alloc ?_ _)); exact BK431.out) hb); have n1_ := Aside0.mk (below_step (by repeat (first | (with_reducible first | exact HB.out | apply below_alloc | apply pw_below_drewN | apply below_drew1 | refine below_set ?_ GE431.out) | exact HB.out)) hb); clear BK431; clear HB; have BK431 := n0_; have HB := n1_; clear n0_ n1_; (try clear hb); (try clear hb2); (try clear hk); (try clear hi)))
                  go_meet
                  case rel => exact ⟨_, H', ⟨by have := HK1.out; first | omega | exact Nat.le_refl _⟩, ⟨by (with_reducible repeat (first | refine blk_drewN ?_ _ | refine blk_drew ?_ | refine blk_alloc ?_ _)); exact BK431.out⟩, ⟨by repeat (first | (with_reducible first | exact HB.out | apply below_alloc | apply pw_below_drewN | apply below_drew1 | refine below_set ?_ GE431.out) | exact HB.out)⟩⟩
                · rw [if_neg c24] at H
                  have c24b0 : (t437 == a2) = false := beq_eq_false_iff_ne.mpr c24
                  have c24b1 : (t437 != a2) = true := bne_iff_ne.mpr c24
                  simp only [Option.some.injEq, Prod.mk.injEq] at H
                  obtain ⟨rfl, rfl, rfl⟩ := H
                  have hcz27_0 : w20.cell? ⟨gb431, 0, none⟩ = some (.int .i64 a0_0) := (blk_cell BK431.out 0).trans rfl
                  have hcz27_1 : w20.cell? ⟨gb431, 1, none⟩ = some (.int .i64 a0_1) := (blk_cell BK431.out 1).trans rfl
                  have hcz27_2 : w20.cell? ⟨gb431, 2, none⟩ = some (.int .i64 a0_2) := (blk_cell BK431.out 2).trans rfl
                  have hcz27_3 : w20.cell? ⟨gb431, 3, none⟩ = some (.int .i64 a0_3) := (blk_cell BK431.out 3).trans rfl
                  have hcz27_4 : w20.cell? ⟨gb431, 4, none⟩ = some (.slice A0_4 l0_4.length c0_4) := (blk_cell BK431.out 4).trans rfl
                  have hcz27_5 : w20.cell? ⟨gb431, 5, none⟩ = some (.slice A0_5 l0_5.length c0_5) := (blk_cell BK431.out 5).trans rfl
                  have hcz27_6 : w20.cell? ⟨gb431, 6, none⟩ = some (.string a0_6) := (blk_cell BK431.out 6).trans rfl
                  have hcz27_7 : w20.cell? ⟨gb431, 7, none⟩ = some (.slice A0_7 l0_7.length c0_7) := (blk_cell BK431.out 7).trans rfl
                  have hfz27_0 := blk_frozen BK431.out 0
                  have hfz27_1 := blk_frozen BK431.out 1
                  have hfz27_2 := blk_frozen BK431.out 2
                  have hfz27_3 := blk_frozen BK431.out 3
                  have hfz27_4 := blk_frozen BK431.out 4
                  have hfz27_5 := blk_frozen BK431.out 5
                  have hfz27_6 := blk_frozen BK431.out 6
                  have hfz27_7 := blk_frozen BK431.out 7
                  go_wp2_with (first | ((with_reducible refine gate_callee (f := 16) rfl ?_); refine goesL_ (some 65) rfl rfl Try.func16 (by kernel_rfl) rfl #[.agg #[.int .i64 a0_0, .int .i64 a0_1, .int .i64 a0_2, .int .i64 a0_3, .slice A0_4 l0_4.length c0_4, .slice A0_5 l0_5.length c0_5, .string a0_6, .slice A0_7 l0_7.length c0_7], .int .i64 a1] rfl (by (try simp only [List.map_toArray, List.map_cons, List.map_nil]); first | done | rfl | (simp only [List.length_drop, List.length_take]; rfl)) ?_; (with_reducible refine (folkmootref16_Term.calls k1 a0_0 a0_1 a0_2 a0_3 _ _ l0_4 _ _ l0_5 a0_6 _ _ l0_7 a1 t437 t438 _ ?side1 ?side2 ?side3 ?side4 ?side5 ?side6 A23.out).mono ?_); (case side1 => repeat (first | exact (Kd.C_below HR0_4.out HB.out) | (with_reducible refine Kd.C_alloc ?_ _) | (with_reducible refine Kd.C_drewN ?_ _) | (with_reducible refine Kd.C_drew ?_))); (case side2 => exact HC0_4.out); (case side3 => repeat (first | exact (Kd.C_below HR0_5.out HB.out) | (with_reducible refine Kd.C_alloc ?_ _) | (with_reducible refine Kd.C_drewN ?_ _) | (with_reducible refine Kd.C_drew ?_))); (case side4 => exact HC0_5.out); (case side5 => repeat (first | exact (Kd.C_below HR0_7.out HB.out) | (with_reducible refine Kd.C_alloc ?_ _) | (with_reducible refine Kd.C_drewN ?_ _) | (with_reducible refine Kd.C_drew ?_))); (case side6 => exact HC0_7.out); rintro e w28 ⟨rfl, hb⟩; refine ⟨_, rfl, ?_⟩; have n0_ := Aside0.mk (blk_below (g := gb431) (o := .cells #[.int .i64 a0_0, .int .i64 a0_1, .int .i64 a0_2, .int .i64 a0_3, .slice A0_4 l0_4.length c0_4, .slice A0_5 l0_5.length c0_5, .string a0_6, .slice A0_7 l0_7.length c0_7] 30 (0, 0)) (by (with_reducible repeat (first | refine blk_drewN ?_ _ | refine blk_drew ?_ | refine blk_alloc ?_ _)); exact BK431.out) hb); have n1_ := Aside0.mk (below_step (by repeat (first | (with_reducible first | exact HB.out | apply below_alloc | apply pw_below_drewN | apply below_drew1 | refine below_set ?_ GE431.out) | exact HB.out)) hb); clear BK431; clear HB; have BK431 := n0_; have HB := n1_; clear n0_ n1_; (try clear hb); (try clear hb2); (try clear hk); (try clear hi)))
                  go_ret3
                  exact ⟨_, by first | rfl | (simp [errW_none, errW_some] <;> rfl) | (simp [*, errW_none, errW_some] <;> rfl), by first | exact Kd.S_nil _ _ _ _ _ | exact Kd.N_nil _ _ _ _ _ | exact Kd.V_nil _ _ _ _ _ | exact Kd.Q_nil _ _ _ _ _ | exact Kd.R_nil _ _ _ _ _, by repeat (first | (with_reducible first | exact HB.out | apply below_alloc | apply pw_below_drewN | apply below_drew1 | refine below_set ?_ GE431.out) | exact HB.out)⟩
              · rw [if_neg c22] at H
                have c22b0 : decide (a0_2 ≤ a1) = false := decide_eq_false c22
                clear c22
                (first | rw [c22b0] | (simp only [i64_w, i32_w]; rw [c22b0]) | skip)
                have H' := Aside0.mk H
                clear H
                go_wp2
                go_meet
                case rel => exact ⟨_, H', ⟨by have := HK1.out; first | omega | exact Nat.le_refl _⟩, ⟨by (with_reducible repeat (first | refine blk_drewN ?_ _ | refine blk_drew ?_ | refine blk_alloc ?_ _)); exact BK431.out⟩, ⟨by repeat (first | (with_reducible first | exact HB.out | apply below_alloc | apply pw_below_drewN | apply below_drew1 | refine below_set ?_ GE431.out) | exact HB.out)⟩⟩
            case rest =>
              clear HC18
              try clear c1
              try clear c2
              try clear p2
              try clear c3
              try clear c4
              try clear p4
              try clear q4
              try clear hx4
              try clear c6
              try clear p6
              try clear c10
              try clear c10b0
              try clear c11
              try clear c11b0
              try clear c12
              try clear c12b0
              try clear c13
              try clear c13b0
              try clear c13b1
              try clear c14
              try clear c15
              try clear c15b0
              try clear c16
              try clear c22
              try clear c22b0
              try clear c24
              try clear c24b0
              try clear c24b1
              try clear hcz16_0
              try clear hcz16_1
              try clear hcz16_2
              try clear hcz16_3
              try clear hcz16_4
              try clear hcz16_5
              try clear hcz16_6
              try clear hcz16_7
              try clear hcz19_0
              try clear hcz19_1
              try clear hcz19_2
              try clear hcz19_3
              try clear hcz19_4
              try clear hcz19_5
              try clear hcz19_6
              try clear hcz19_7
              try clear hcz21_0
              try clear hcz21_1
              try clear hcz21_2
              try clear hcz21_3
              try clear hcz21_4
              try clear hcz21_5
              try clear hcz21_6
              try clear hcz21_7
              try clear hcz25_0
              try clear hcz25_1
              try clear hcz25_2
              try clear hcz25_3
              try clear hcz25_4
              try clear hcz25_5
              try clear hcz25_6
              try clear hcz25_7
              try clear hcz27_0
              try clear hcz27_1
              try clear hcz27_2
              try clear hcz27_3
              try clear hcz27_4
              try clear hcz27_5
              try clear hcz27_6
              try clear hcz27_7
              try clear hcz8_0
              try clear hcz8_1
              try clear hcz8_2
              try clear hcz8_3
              try clear hcz8_4
              try clear hcz8_5
              try clear hcz8_6
              try clear hcz8_7
              try clear hfz16_0
              try clear hfz16_1
              try clear hfz16_2
              try clear hfz16_3
              try clear hfz16_4
              try clear hfz16_5
              try clear hfz16_6
              try clear hfz16_7
              try clear hfz19_0
              try clear hfz19_1
              try clear hfz19_2
              try clear hfz19_3
              try clear hfz19_4
              try clear hfz19_5
              try clear hfz19_6
              try clear hfz19_7
              try clear hfz21_0
              try clear hfz21_1
              try clear hfz21_2
              try clear hfz21_3
              try clear hfz21_4
              try clear hfz21_5
              try clear hfz21_6
              try clear hfz21_7
              try clear hfz25_0
              try clear hfz25_1
              try clear hfz25_2
              try clear hfz25_3
              try clear hfz25_4
              try clear hfz25_5
              try clear hfz25_6
              try clear hfz25_7
              try clear hfz27_0
              try clear hfz27_1
              try clear hfz27_2
              try clear hfz27_3
              try clear hfz27_4
              try clear hfz27_5
              try clear hfz27_6
              try clear hfz27_7
              try clear hfz8_0
              try clear hfz8_1
              try clear hfz8_2
              try clear hfz8_3
              try clear hfz8_4
              try clear hfz8_5
              try clear hfz8_6
              try clear hfz8_7
              try clear hx433_0
              try clear hx433_1
              try clear hx433_2
              try clear hx433_3
              try clear hx433_4
              try clear hx433_5
              try clear hx434_0
              try clear hx434_1
              try clear hx434_2
              try clear hx434_3
              try clear hx434_4
              try clear hx434_5
              try clear p2
              try clear p433
              try clear p434
              try clear q433
              try clear q434
              obtain ⟨kq, HA, HJ17, BK431, HB⟩ := hcut
              cases kq with
              | zero => exact absurd HA.out (by simp [folkmootref16_Merge.j1])
              | succ kj17 =>
                have H := HA.out
                clear HA
                simp only [folkmootref16_Merge.j1] at H
                have H' := Aside0.mk H
                clear H
                go_wp2
                go_loopg [16, 17] kj17 (fun kq v16 v17 w' => ∃ (x16_3 : List (S57)) (x17_3 : Int), v17 = .int .i64 x17_3 ∧ Aside0 (folkmootref16_Merge.l1 kq a1 l3 x16_3 x17_3 a0_0 a0_1 a0_2 a0_3 l0_4 l0_5 a0_6 l0_7 = some (r1, r2, r3)) ∧ Aside0 (kq ≤ kj17) ∧ Aside0 (Kd.S k57 57 w' w.heap.size (fun _ => True) v16 x16_3) ∧ Aside0 (w'.heap[gb431]? = some (.cells #[.int .i64 a0_0, .int .i64 a0_1, .int .i64 a0_2, .int .i64 a0_3, (.slice A0_4 l0_4.length c0_4), (.slice A0_5 l0_5.length c0_5), .string a0_6, (.slice A0_7 l0_7.length c0_7)] 30 (0, 0))) ∧ Aside0 (Below w.heap.size w w'))
                case atStart => exact ⟨(([] : List (S57))), (0), (by first | rfl | (simp; done) | (simp [*]; done)), H', ⟨Nat.le_refl _⟩, ⟨by first | exact Kd.S_nil _ _ _ _ _ | exact Kd.N_nil _ _ _ _ _ | exact Kd.V_nil _ _ _ _ _ | exact Kd.Q_nil _ _ _ _ _ | exact Kd.R_nil _ _ _ _ _⟩, ⟨by (with_reducible repeat (first | refine blk_drewN ?_ _ | refine blk_drew ?_ | refine blk_alloc ?_ _)); exact BK431.out⟩, ⟨by repeat (first | (with_reducible first | exact HB.out | apply below_alloc | apply pw_below_drewN | apply below_drew1 | refine below_set ?_ GE431.out) | exact HB.out)⟩⟩
                case round =>
                  clear H'
                  try clear c1
                  try clear c2
                  try clear p2
                  try clear c3
                  try clear c4
                  try clear p4
                  try clear q4
                  try clear hx4
                  try clear c6
                  try clear p6
                  try clear c10
                  try clear c10b0
                  try clear c11
                  try clear c11b0
                  try clear c12
                  try clear c12b0
                  try clear c13
                  try clear c13b0
                  try clear c13b1
                  try clear c14
                  try clear c15
                  try clear c15b0
                  try clear c16
                  try clear c22
                  try clear c22b0
                  try clear c24
                  try clear c24b0
                  try clear c24b1
                  try clear hcz16_0
                  try clear hcz16_1
                  try clear hcz16_2
                  try clear hcz16_3
                  try clear hcz16_4
                  try clear hcz16_5
                  try clear hcz16_6
                  try clear hcz16_7
                  try clear hcz19_0
                  try clear hcz19_1
                  try clear hcz19_2
                  try clear hcz19_3
                  try clear hcz19_4
                  try clear hcz19_5
                  try clear hcz19_6
                  try clear hcz19_7
                  try clear hcz21_0
                  try clear hcz21_1
                  try clear hcz21_2
                  try clear hcz21_3
                  try clear hcz21_4
                  try clear hcz21_5
                  try clear hcz21_6
                  try clear hcz21_7
                  try clear hcz25_0
                  try clear hcz25_1
                  try clear hcz25_2
                  try clear hcz25_3
                  try clear hcz25_4
                  try clear hcz25_5
                  try clear hcz25_6
                  try clear hcz25_7
                  try clear hcz27_0
                  try clear hcz27_1
                  try clear hcz27_2
                  try clear hcz27_3
                  try clear hcz27_4
                  try clear hcz27_5
                  try clear hcz27_6
                  try clear hcz27_7
                  try clear hcz8_0
                  try clear hcz8_1
                  try clear hcz8_2
                  try clear hcz8_3
                  try clear hcz8_4
                  try clear hcz8_5
                  try clear hcz8_6
                  try clear hcz8_7
                  try clear hfz16_0
                  try clear hfz16_1
                  try clear hfz16_2
                  try clear hfz16_3
                  try clear hfz16_4
                  try clear hfz16_5
                  try clear hfz16_6
                  try clear hfz16_7
                  try clear hfz19_0
                  try clear hfz19_1
                  try clear hfz19_2
                  try clear hfz19_3
                  try clear hfz19_4
                  try clear hfz19_5
                  try clear hfz19_6
                  try clear hfz19_7
                  try clear hfz21_0
                  try clear hfz21_1
                  try clear hfz21_2
                  try clear hfz21_3
                  try clear hfz21_4
                  try clear hfz21_5
                  try clear hfz21_6
                  try clear hfz21_7
                  try clear hfz25_0
                  try clear hfz25_1
                  try clear hfz25_2
                  try clear hfz25_3
                  try clear hfz25_4
                  try clear hfz25_5
                  try clear hfz25_6
                  try clear hfz25_7
                  try clear hfz27_0
                  try clear hfz27_1
                  try clear hfz27_2
                  try clear hfz27_3
                  try clear hfz27_4
                  try clear hfz27_5
                  try clear hfz27_6
                  try clear hfz27_7
                  try clear hfz8_0
                  try clear hfz8_1
                  try clear hfz8_2
                  try clear hfz8_3
                  try clear hfz8_4
                  try clear hfz8_5
                  try clear hfz8_6
                  try clear hfz8_7
                  try clear hx433_0
                  try clear hx433_1
                  try clear hx433_2
                  try clear hx433_3
                  try clear hx433_4
                  try clear hx433_5
                  try clear hx434_0
                  try clear hx434_1
                  try clear hx434_2
                  try clear hx434_3
                  try clear hx434_4
                  try clear hx434_5
                  try clear p2
                  try clear p4
                  try clear p433
                  try clear p434
                  try clear p6
                  try clear q4
                  try clear q433
                  try clear q434
                  obtain ⟨x16_3, x17_3, rfl, HA, HK3, HO_16, BK431, HB⟩ := hrel
                  cases gk with
                  | zero => exact absurd HA.out (by simp [folkmootref16_Merge.l1])
                  | succ k3 =>
                    have H := HA.out
                    clear HA
                    simp only [folkmootref16_Merge.l1] at H
                    by_cases c29 : x17_3 < (l3.length : Int)
                    · rw [if_pos c29] at H
                      have c29b0 : decide (x17_3 < (l3.length : Int)) = true := decide_eq_true c29
                      clear c29
                      by_cases c30 : 0 ≤ x17_3
                      · rw [if_pos c30] at H
                        have c30b0 : decide (0 ≤ x17_3) = true := decide_eq_true c30
                        clear c30
                        by_cases c31 : ((rd_T54 l3 x17_3).f0) ≤ a0_2
                        · rw [if_pos c31] at H
                          have c31b0 : decide (((rd_T54 l3 x17_3).f0) ≤ a0_2) = true := decide_eq_true c31
                          clear c31
                          have H' := Aside0.mk H
                          clear H
                          try go_wp2
                          have n0_ := Aside0.mk (Kd.S_drew HO_16.out)
                          have n1_ := Aside0.mk (blk_drew BK431.out)
                          have n2_ := Aside0.mk (below_drew1 HB.out)
                          clear HO_16
                          clear BK431
                          clear HB
                          have HO_16 := n0_
                          have BK431 := n1_
                          have HB := n2_
                          clear n0_ n1_ n2_
                          have p440 : 0 ≤ (x17_3 : Int) := of_decide_eq_true (by first | (with_reducible assumption) | assumption)
                          have q440 : x17_3 < (l3.length : Int) := of_decide_eq_true (by first | (with_reducible assumption) | assumption)
                          obtain ⟨ad440, A440_3, c440_3, A440_4, c440_4, e440, hx440_0, hx440_1, hx440_2, hx440_3, hx440_4, hx440_5, hl440_3, hi440_3, hl440_4, hi440_4⟩ := at_T54 HR3.out x17_3 p440 q440
                          have hw440_5 := hx440_5
                          have hw440_4 := hx440_4
                          have hw440_3 := hx440_3
                          have hw440_2 := hx440_2
                          have hw440_1 := hx440_1
                          have hw440_0 := hx440_0
                          cases e440
                          replace hx440_0 := (HB.out.cell (World.block_lt_of_cell? w _ hx440_0)).trans hx440_0
                          replace hx440_1 := (HB.out.cell (World.block_lt_of_cell? w _ hx440_1)).trans hx440_1
                          replace hx440_2 := (HB.out.cell (World.block_lt_of_cell? w _ hx440_2)).trans hx440_2
                          replace hx440_3 := (HB.out.cell (World.block_lt_of_cell? w _ hx440_3)).trans hx440_3
                          replace hx440_4 := (HB.out.cell (World.block_lt_of_cell? w _ hx440_4)).trans hx440_4
                          replace hx440_5 := (HB.out.cell (World.block_lt_of_cell? w _ hx440_5)).trans hx440_5
                          have HR440_3 := Aside0.mk hi440_3
                          have HC440_3 := Aside0.mk hl440_3
                          clear hi440_3 hl440_3
                          have HR440_4 := Aside0.mk hi440_4
                          have HC440_4 := Aside0.mk hl440_4
                          clear hi440_4 hl440_4
                          replace p440 := eq_true p440
                          replace q440 := eq_true q440
                          refine start_ (n := 9) (S := fun w' => w'.cell? ⟨gb431, 0, none⟩ = some (.int .i64 a0_0) ∧ w'.cell? ⟨gb431, 1, none⟩ = some (.int .i64 a0_1) ∧ w'.cell? ⟨gb431, 2, none⟩ = some (.int .i64 a0_2) ∧ w'.cell? ⟨gb431, 3, none⟩ = some (.int .i64 a0_3) ∧ w'.cell? ⟨gb431, 4, none⟩ = some (.slice A0_4 l0_4.length c0_4) ∧ w'.cell? ⟨gb431, 5, none⟩ = some (.slice A0_5 l0_5.length c0_5) ∧ w'.cell? ⟨gb431, 6, none⟩ = some (.string a0_6) ∧ w'.cell? ⟨gb431, 7, none⟩ = some (.slice A0_7 l0_7.length c0_7) ∧ w'.cell? (ad440.add ((x17_3).toNat * 6)) = some (.int .i64 ((rd_T54 l3 x17_3).f0)) ∧ w'.cell? ⟨(ad440.add ((x17_3).toNat * 6)).block, (ad440.add ((x17_3).toNat * 6)).off + 1, none⟩ = some (.int .i64 ((rd_T54 l3 x17_3).f1)) ∧ w'.cell? ⟨(ad440.add ((x17_3).toNat * 6)).block, (ad440.add ((x17_3).toNat * 6)).off + 2, none⟩ = some (.int .i64 ((rd_T54 l3 x17_3).f2)) ∧ w'.cell? ⟨(ad440.add ((x17_3).toNat * 6)).block, (ad440.add ((x17_3).toNat * 6)).off + 3, none⟩ = some (.slice A440_3 ((rd_T54 l3 x17_3).f3.f0).length c440_3) ∧ w'.cell? ⟨(ad440.add ((x17_3).toNat * 6)).block, (ad440.add ((x17_3).toNat * 6)).off + 4, none⟩ = some (.slice A440_4 ((rd_T54 l3 x17_3).f3.f1).length c440_4) ∧ w'.cell? ⟨(ad440.add ((x17_3).toNat * 6)).block, (ad440.add ((x17_3).toNat * 6)).off + 5, none⟩ = some (.string ((rd_T54 l3 x17_3).f4))) (ds := []) #[false, false, false, false, false, false, false, false, false] (by kernel_rfl) rfl rfl ⟨(blk_cell BK431.out 0).trans rfl, (blk_cell BK431.out 1).trans rfl, (blk_cell BK431.out 2).trans rfl, (blk_cell BK431.out 3).trans rfl, (blk_cell BK431.out 4).trans rfl, (blk_cell BK431.out 5).trans rfl, (blk_cell BK431.out 6).trans rfl, (blk_cell BK431.out 7).trans rfl, ((HB.out.cell (World.block_lt_of_cell? w _ hw440_0)).trans hw440_0), ((HB.out.cell (World.block_lt_of_cell? w _ hw440_1)).trans hw440_1), ((HB.out.cell (World.block_lt_of_cell? w _ hw440_2)).trans hw440_2), ((HB.out.cell (World.block_lt_of_cell? w _ hw440_3)).trans hw440_3), ((HB.out.cell (World.block_lt_of_cell? w _ hw440_4)).trans hw440_4), ((HB.out.cell (World.block_lt_of_cell? w _ hw440_5)).trans hw440_5)⟩ (fun hHeld => ?_); refine with_tabW folkmootref16_Merge.tab19 folkmootref16_Merge.bits19 (fun HT_ HW_ => ?_)
                          generalize wr.drew = w32 at HO_16 BK431 HB HR440_3 HR440_4 hx440_0 hx440_1 hx440_2 hx440_3 hx440_4 hx440_5 hHeld ⊢
                          refine pure_ (i := 0) (N := some 77) (v := ?_) (a' := ?_) #[true, false, false, false, false, false, false, false, false] rfl rfl (any_of HT_.out (by kernel_rfl)) (fun _ _ _ h => h) (Or.inl ⟨by rfl, ?_⟩) ?_ ?_
                          rotate_left
                          · intro w'
                            go_simp
                            with_reducible rfl
                          rotate_left
                          · simp only [Act.put, List.setIfInBounds_toArray, List.set_cons_zero, List.set_cons_succ, i64_w, i32_w]
                            rfl
                          refine pure_ (i := 1) (N := some 78) (v := ?_) (a' := ?_) #[true, true, false, false, false, false, false, false, false] rfl rfl (any_of HT_.out (by kernel_rfl)) (fun _ _ _ h => h) (Or.inl ⟨by rfl, ?_⟩) ?_ ?_
                          rotate_left
                          · intro w'
                            go_simp
                            with_reducible rfl
                          rotate_left
                          · simp only [Act.put, List.setIfInBounds_toArray, List.set_cons_zero, List.set_cons_succ, i64_w, i32_w]
                            rfl
                          refine pure_ (i := 2) (N := some 79) (v := ?_) (a' := ?_) #[true, true, true, false, false, false, false, false, false] rfl rfl (any_of HT_.out (by kernel_rfl)) (fun _ _ _ h => h) (Or.inl ⟨by rfl, ?_⟩) ?_ ?_
                          rotate_left
                          · intro w'
                            go_simp
                            with_reducible rfl
                          rotate_left
                          · simp only [Act.put, List.setIfInBounds_toArray, List.set_cons_zero, List.set_cons_succ, i64_w, i32_w]
                            rfl
                          refine pure_ (i := 3) (N := some 80) (v := ?_) (a' := ?_) #[true, true, true, true, false, false, false, false, false] rfl rfl (any_of HT_.out (by kernel_rfl)) (fun _ _ _ h => h) (Or.inl ⟨by rfl, ?_⟩) ?_ ?_
                          rotate_left
                          · intro w'
                            go_simp
                            with_reducible rfl
                          rotate_left
                          · simp only [Act.put, List.setIfInBounds_toArray, List.set_cons_zero, List.set_cons_succ, i64_w, i32_w]
                            rfl
                          refine pure_ (i := 5) (N := some 82) (v := ?_) (a' := ?_) #[true, true, true, true, false, true, false, false, false] rfl rfl (any_of HT_.out (by kernel_rfl)) (fun _ _ _ h => h) (Or.inl ⟨by rfl, ?_⟩) ?_ ?_
                          rotate_left
                          · intro w'
                            go_simp
                            with_reducible rfl
                          rotate_left
                          · simp only [Act.put, List.setIfInBounds_toArray, List.set_cons_zero, List.set_cons_succ, i64_w, i32_w]
                            rfl
                          refine pure_ (i := 6) (N := some 83) (v := ?_) (a' := ?_) #[true, true, true, true, false, true, true, false, false] rfl rfl (any_of HT_.out (by kernel_rfl)) (fun _ _ _ h => h) (Or.inl ⟨by rfl, ?_⟩) ?_ ?_
                          rotate_left
                          · intro w'
                            go_simp
                            with_reducible rfl
                          rotate_left
                          · simp only [Act.put, List.setIfInBounds_toArray, List.set_cons_zero, List.set_cons_succ, i64_w, i32_w]
                            rfl
                          refine take_ (i := 4) (N := some 81) (v := ?_) (a' := ?_) #[true, true, true, true, true, true, true, false, false] rfl rfl (take_ofW HT_.out HW_.out (by kernel_rfl)) (fun _ _ _ h => h) (Or.inl ⟨by rfl, ?_⟩) hHeld ?_ ?_
                          rotate_left
                          · rintro w' ⟨s0, s1, s2, s3, s4, s5, s6, s7, s8, s9, s10, s11, s12, s13⟩
                            go_simp
                            with_reducible rfl
                          rotate_left
                          · simp only [Act.put, List.setIfInBounds_toArray, List.set_cons_zero, List.set_cons_succ, i64_w, i32_w]
                            rfl
                          refine take_ (i := 7) (N := some 84) (v := ?_) (a' := ?_) #[true, true, true, true, true, true, true, true, false] rfl rfl (take_ofW HT_.out HW_.out (by kernel_rfl)) (fun _ _ _ h => h) (Or.inl ⟨by rfl, ?_⟩) hHeld ?_ ?_
                          rotate_left
                          · rintro w' ⟨s0, s1, s2, s3, s4, s5, s6, s7, s8, s9, s10, s11, s12, s13⟩
                            go_simp
                            with_reducible rfl
                          rotate_left
                          · simp only [Act.put, List.setIfInBounds_toArray, List.set_cons_zero, List.set_cons_succ, i64_w, i32_w]
                            rfl
                          refine pure_ (i := 8) (N := some 85) (v := ?_) (a' := ?_) #[true, true, true, true, true, true, true, true, true] rfl rfl (any_of HT_.out (by kernel_rfl)) (fun _ _ _ h => h) (Or.inl ⟨by rfl, ?_⟩) ?_ ?_
                          rotate_left
                          · intro w'
                            go_simp
                            with_reducible rfl
                          rotate_left
                          · simp only [Act.put, List.setIfInBounds_toArray, List.set_cons_zero, List.set_cons_succ, i64_w, i32_w]
                            rfl
                          refine done_ (done_of HT_.out (by kernel_rfl)) ?_
                          try go_wp2
                          go_roundg k3
                          case measure => have := HK1.out; have := HJ17.out; have := HK3.out; omega
                          case rel => exact ⟨(x16_3), (wrap64 (x17_3 + 1)), (by first | rfl | (simp; done) | (simp [*]; done)), H', ⟨by have := HK1.out; have := HJ17.out; have := HK3.out; omega⟩, ⟨by (with_reducible repeat (first | apply Kd.S_alloc | apply Kd.S_drewN | apply Kd.S_drew)); exact HO_16.out⟩, ⟨by (with_reducible repeat (first | refine blk_drewN ?_ _ | refine blk_drew ?_ | refine blk_alloc ?_ _)); exact BK431.out⟩, ⟨by repeat (first | (with_reducible first | exact HB.out | apply below_alloc | apply pw_below_drewN | apply below_drew1 | refine below_set ?_ GE431.out) | exact HB.out)⟩⟩
                        · rw [if_neg c31] at H
                          have c31b0 : decide (((rd_T54 l3 x17_3).f0) ≤ a0_2) = false := decide_eq_false c31
                          clear c31
                          replace H := Option.bind_eq_some_iff.mp H
                          obtain ⟨⟨t442, t443⟩, A330, H⟩ := H
                          replace H : (if (x16_3.length : Int) = 0 then (if t443 = 0 then (folkmootref16_Merge.j3 k3 a1 l3 x16_3 x17_3 t443 (t442 == ((rd_T54 l3 x17_3).f1)) a0_0 a0_1 a0_2 a0_3 l0_4 l0_5 a0_6 l0_7) else (folkmootref16_Merge.j3 k3 a1 l3 x16_3 x17_3 t443 false a0_0 a0_1 a0_2 a0_3 l0_4 l0_5 a0_6 l0_7)) else (folkmootref16_Merge.j3 k3 a1 l3 x16_3 x17_3 t443 false a0_0 a0_1 a0_2 a0_3 l0_4 l0_5 a0_6 l0_7)) = some (r1, r2, r3) := H
                          have A33 := Aside0.mk A330
                          clear A330
                          have HC34 := Aside0.mk H
                          clear H
                          try go_wp2
                          have n0_ := Aside0.mk (Kd.S_drew HO_16.out)
                          have n1_ := Aside0.mk (blk_drew BK431.out)
                          have n2_ := Aside0.mk (below_drew1 HB.out)
                          clear HO_16
                          clear BK431
                          clear HB
                          have HO_16 := n0_
                          have BK431 := n1_
                          have HB := n2_
                          clear n0_ n1_ n2_
                          have p440 : 0 ≤ (x17_3 : Int) := of_decide_eq_true (by first | (with_reducible assumption) | assumption)
                          have q440 : x17_3 < (l3.length : Int) := of_decide_eq_true (by first | (with_reducible assumption) | assumption)
                          obtain ⟨ad440, A440_3, c440_3, A440_4, c440_4, e440, hx440_0, hx440_1, hx440_2, hx440_3, hx440_4, hx440_5, hl440_3, hi440_3, hl440_4, hi440_4⟩ := at_T54 HR3.out x17_3 p440 q440
                          have hw440_5 := hx440_5
                          have hw440_4 := hx440_4
                          have hw440_3 := hx440_3
                          have hw440_2 := hx440_2
                          have hw440_1 := hx440_1
                          have hw440_0 := hx440_0
                          cases e440
                          replace hx440_0 := (HB.out.cell (World.block_lt_of_cell? w _ hx440_0)).trans hx440_0
                          replace hx440_1 := (HB.out.cell (World.block_lt_of_cell? w _ hx440_1)).trans hx440_1
                          replace hx440_2 := (HB.out.cell (World.block_lt_of_cell? w _ hx440_2)).trans hx440_2
                          replace hx440_3 := (HB.out.cell (World.block_lt_of_cell? w _ hx440_3)).trans hx440_3
                          replace hx440_4 := (HB.out.cell (World.block_lt_of_cell? w _ hx440_4)).trans hx440_4
                          replace hx440_5 := (HB.out.cell (World.block_lt_of_cell? w _ hx440_5)).trans hx440_5
                          have HR440_3 := Aside0.mk hi440_3
                          have HC440_3 := Aside0.mk hl440_3
                          clear hi440_3 hl440_3
                          have HR440_4 := Aside0.mk hi440_4
                          have HC440_4 := Aside0.mk hl440_4
                          clear hi440_4 hl440_4
                          replace p440 := eq_true p440
                          replace q440 := eq_true q440
                          refine start_ (n := 9) (S := fun w' => w'.cell? ⟨gb431, 0, none⟩ = some (.int .i64 a0_0) ∧ w'.cell? ⟨gb431, 1, none⟩ = some (.int .i64 a0_1) ∧ w'.cell? ⟨gb431, 2, none⟩ = some (.int .i64 a0_2) ∧ w'.cell? ⟨gb431, 3, none⟩ = some (.int .i64 a0_3) ∧ w'.cell? ⟨gb431, 4, none⟩ = some (.slice A0_4 l0_4.length c0_4) ∧ w'.cell? ⟨gb431, 5, none⟩ = some (.slice A0_5 l0_5.length c0_5) ∧ w'.cell? ⟨gb431, 6, none⟩ = some (.string a0_6) ∧ w'.cell? ⟨gb431, 7, none⟩ = some (.slice A0_7 l0_7.length c0_7) ∧ w'.cell? (ad440.add ((x17_3).toNat * 6)) = some (.int .i64 ((rd_T54 l3 x17_3).f0)) ∧ w'.cell? ⟨(ad440.add ((x17_3).toNat * 6)).block, (ad440.add ((x17_3).toNat * 6)).off + 1, none⟩ = some (.int .i64 ((rd_T54 l3 x17_3).f1)) ∧ w'.cell? ⟨(ad440.add ((x17_3).toNat * 6)).block, (ad440.add ((x17_3).toNat * 6)).off + 2, none⟩ = some (.int .i64 ((rd_T54 l3 x17_3).f2)) ∧ w'.cell? ⟨(ad440.add ((x17_3).toNat * 6)).block, (ad440.add ((x17_3).toNat * 6)).off + 3, none⟩ = some (.slice A440_3 ((rd_T54 l3 x17_3).f3.f0).length c440_3) ∧ w'.cell? ⟨(ad440.add ((x17_3).toNat * 6)).block, (ad440.add ((x17_3).toNat * 6)).off + 4, none⟩ = some (.slice A440_4 ((rd_T54 l3 x17_3).f3.f1).length c440_4) ∧ w'.cell? ⟨(ad440.add ((x17_3).toNat * 6)).block, (ad440.add ((x17_3).toNat * 6)).off + 5, none⟩ = some (.string ((rd_T54 l3 x17_3).f4))) (ds := []) #[false, false, false, false, false, false, false, false, false] (by kernel_rfl) rfl rfl ⟨(blk_cell BK431.out 0).trans rfl, (blk_cell BK431.out 1).trans rfl, (blk_cell BK431.out 2).trans rfl, (blk_cell BK431.out 3).trans rfl, (blk_cell BK431.out 4).trans rfl, (blk_cell BK431.out 5).trans rfl, (blk_cell BK431.out 6).trans rfl, (blk_cell BK431.out 7).trans rfl, ((HB.out.cell (World.block_lt_of_cell? w _ hw440_0)).trans hw440_0), ((HB.out.cell (World.block_lt_of_cell? w _ hw440_1)).trans hw440_1), ((HB.out.cell (World.block_lt_of_cell? w _ hw440_2)).trans hw440_2), ((HB.out.cell (World.block_lt_of_cell? w _ hw440_3)).trans hw440_3), ((HB.out.cell (World.block_lt_of_cell? w _ hw440_4)).trans hw440_4), ((HB.out.cell (World.block_lt_of_cell? w _ hw440_5)).trans hw440_5)⟩ (fun hHeld => ?_); refine with_tabW folkmootref16_Merge.tab19 folkmootref16_Merge.bits19 (fun HT_ HW_ => ?_)
                          generalize wr.drew = w35 at HO_16 BK431 HB HR440_3 HR440_4 hx440_0 hx440_1 hx440_2 hx440_3 hx440_4 hx440_5 hHeld ⊢
                          refine pure_ (i := 0) (N := some 77) (v := ?_) (a' := ?_) #[true, false, false, false, false, false, false, false, false] rfl rfl (any_of HT_.out (by kernel_rfl)) (fun _ _ _ h => h) (Or.inl ⟨by rfl, ?_⟩) ?_ ?_
                          rotate_left
                          · intro w'
                            go_simp
                            with_reducible rfl
                          rotate_left
                          · simp only [Act.put, List.setIfInBounds_toArray, List.set_cons_zero, List.set_cons_succ, i64_w, i32_w]
                            rfl
                          refine pure_ (i := 1) (N := some 78) (v := ?_) (a' := ?_) #[true, true, false, false, false, false, false, false, false] rfl rfl (any_of HT_.out (by kernel_rfl)) (fun _ _ _ h => h) (Or.inl ⟨by rfl, ?_⟩) ?_ ?_
                          rotate_left
                          · intro w'
                            go_simp
                            with_reducible rfl
                          rotate_left
                          · simp only [Act.put, List.setIfInBounds_toArray, List.set_cons_zero, List.set_cons_succ, i64_w, i32_w]
                            rfl
                          refine pure_ (i := 2) (N := some 79) (v := ?_) (a' := ?_) #[true, true, true, false, false, false, false, false, false] rfl rfl (any_of HT_.out (by kernel_rfl)) (fun _ _ _ h => h) (Or.inl ⟨by rfl, ?_⟩) ?_ ?_
                          rotate_left
                          · intro w'
                            go_simp
                            with_reducible rfl
                          rotate_left
                          · simp only [Act.put, List.setIfInBounds_toArray, List.set_cons_zero, List.set_cons_succ, i64_w, i32_w]
                            rfl
                          refine pure_ (i := 3) (N := some 80) (v := ?_) (a' := ?_) #[true, true, true, true, false, false, false, false, false] rfl rfl (any_of HT_.out (by kernel_rfl)) (fun _ _ _ h => h) (Or.inl ⟨by rfl, ?_⟩) ?_ ?_
                          rotate_left
                          · intro w'
                            go_simp
                            with_reducible rfl
                          rotate_left
                          · simp only [Act.put, List.setIfInBounds_toArray, List.set_cons_zero, List.set_cons_succ, i64_w, i32_w]
                            rfl
                          refine pure_ (i := 5) (N := some 82) (v := ?_) (a' := ?_) #[true, true, true, true, false, true, false, false, false] rfl rfl (any_of HT_.out (by kernel_rfl)) (fun _ _ _ h => h) (Or.inl ⟨by rfl, ?_⟩) ?_ ?_
                          rotate_left
                          · intro w'
                            go_simp
                            with_reducible rfl
                          rotate_left
                          · simp only [Act.put, List.setIfInBounds_toArray, List.set_cons_zero, List.set_cons_succ, i64_w, i32_w]
                            rfl
                          refine pure_ (i := 6) (N := some 83) (v := ?_) (a' := ?_) #[true, true, true, true, false, true, true, false, false] rfl rfl (any_of HT_.out (by kernel_rfl)) (fun _ _ _ h => h) (Or.inl ⟨by rfl, ?_⟩) ?_ ?_
                          rotate_left
                          · intro w'
                            go_simp
                            with_reducible rfl
                          rotate_left
                          · simp only [Act.put, List.setIfInBounds_toArray, List.set_cons_zero, List.set_cons_succ, i64_w, i32_w]
                            rfl
                          refine take_ (i := 4) (N := some 81) (v := ?_) (a' := ?_) #[true, true, true, true, true, true, true, false, false] rfl rfl (take_ofW HT_.out HW_.out (by kernel_rfl)) (fun _ _ _ h => h) (Or.inl ⟨by rfl, ?_⟩) hHeld ?_ ?_
                          rotate_left
                          · rintro w' ⟨s0, s1, s2, s3, s4, s5, s6, s7, s8, s9, s10, s11, s12, s13⟩
                            go_simp
                            with_reducible rfl
                          rotate_left
                          · simp only [Act.put, List.setIfInBounds_toArray, List.set_cons_zero, List.set_cons_succ, i64_w, i32_w]
                            rfl
                          refine take_ (i := 7) (N := some 84) (v := ?_) (a' := ?_) #[true, true, true, true, true, true, true, true, false] rfl rfl (take_ofW HT_.out HW_.out (by kernel_rfl)) (fun _ _ _ h => h) (Or.inl ⟨by rfl, ?_⟩) hHeld ?_ ?_
                          rotate_left
                          · rintro w' ⟨s0, s1, s2, s3, s4, s5, s6, s7, s8, s9, s10, s11, s12, s13⟩
                            go_simp
                            with_reducible rfl
                          rotate_left
                          · simp only [Act.put, List.setIfInBounds_toArray, List.set_cons_zero, List.set_cons_succ, i64_w, i32_w]
                            rfl
                          refine pure_ (i := 8) (N := some 85) (v := ?_) (a' := ?_) #[true, true, true, true, true, true, true, true, true] rfl rfl (any_of HT_.out (by kernel_rfl)) (fun _ _ _ h => h) (Or.inl ⟨by rfl, ?_⟩) ?_ ?_
                          rotate_left
                          · intro w'
                            go_simp
                            with_reducible rfl
                          rotate_left
                          · simp only [Act.put, List.setIfInBounds_toArray, List.set_cons_zero, List.set_cons_succ, i64_w, i32_w]
                            rfl
                          refine done_ (done_of HT_.out (by kernel_rfl)) ?_
                          try go_wp2
                          have n0_ := Aside0.mk (Kd.S_drew HO_16.out)
                          have n1_ := Aside0.mk (blk_drew BK431.out)
                          have n2_ := Aside0.mk (below_drew1 HB.out)
                          clear HO_16
                          clear BK431
                          clear HB
                          have HO_16 := n0_
                          have BK431 := n1_
                          have HB := n2_
                          clear n0_ n1_ n2_
                          have p441 : 0 ≤ (x17_3 : Int) := of_decide_eq_true (by first | (with_reducible assumption) | assumption)
                          have q441 : x17_3 < (l3.length : Int) := of_decide_eq_true (by first | (with_reducible assumption) | assumption)
                          obtain ⟨ad441, A441_3, c441_3, A441_4, c441_4, e441, hx441_0, hx441_1, hx441_2, hx441_3, hx441_4, hx441_5, hl441_3, hi441_3, hl441_4, hi441_4⟩ := at_T54 HR3.out x17_3 p441 q441
                          have hw441_5 := hx441_5
                          have hw441_4 := hx441_4
                          have hw441_3 := hx441_3
                          have hw441_2 := hx441_2
                          have hw441_1 := hx441_1
                          have hw441_0 := hx441_0
                          obtain rfl : ad440 = ad441 := (by injection e441)
                          replace hx441_0 := (HB.out.cell (World.block_lt_of_cell? w _ hx441_0)).trans hx441_0
                          replace hx441_1 := (HB.out.cell (World.block_lt_of_cell? w _ hx441_1)).trans hx441_1
                          replace hx441_2 := (HB.out.cell (World.block_lt_of_cell? w _ hx441_2)).trans hx441_2
                          replace hx441_3 := (HB.out.cell (World.block_lt_of_cell? w _ hx441_3)).trans hx441_3
                          replace hx441_4 := (HB.out.cell (World.block_lt_of_cell? w _ hx441_4)).trans hx441_4
                          replace hx441_5 := (HB.out.cell (World.block_lt_of_cell? w _ hx441_5)).trans hx441_5
                          have HR441_3 := Aside0.mk hi441_3
                          have HC441_3 := Aside0.mk hl441_3
                          clear hi441_3 hl441_3
                          have HR441_4 := Aside0.mk hi441_4
                          have HC441_4 := Aside0.mk hl441_4
                          clear hi441_4 hl441_4
                          replace p441 := eq_true p441
                          replace q441 := eq_true q441
                          refine start_ (n := 12) (S := fun w' => w'.cell? ⟨gb431, 0, none⟩ = some (.int .i64 a0_0) ∧ w'.cell? ⟨gb431, 1, none⟩ = some (.int .i64 a0_1) ∧ w'.cell? ⟨gb431, 2, none⟩ = some (.int .i64 a0_2) ∧ w'.cell? ⟨gb431, 3, none⟩ = some (.int .i64 a0_3) ∧ w'.cell? ⟨gb431, 4, none⟩ = some (.slice A0_4 l0_4.length c0_4) ∧ w'.cell? ⟨gb431, 5, none⟩ = some (.slice A0_5 l0_5.length c0_5) ∧ w'.cell? ⟨gb431, 6, none⟩ = some (.string a0_6) ∧ w'.cell? ⟨gb431, 7, none⟩ = some (.slice A0_7 l0_7.length c0_7) ∧ w'.cell? (ad440.add ((x17_3).toNat * 6)) = some (.int .i64 ((rd_T54 l3 x17_3).f0)) ∧ w'.cell? ⟨(ad440.add ((x17_3).toNat * 6)).block, (ad440.add ((x17_3).toNat * 6)).off + 1, none⟩ = some (.int .i64 ((rd_T54 l3 x17_3).f1)) ∧ w'.cell? ⟨(ad440.add ((x17_3).toNat * 6)).block, (ad440.add ((x17_3).toNat * 6)).off + 2, none⟩ = some (.int .i64 ((rd_T54 l3 x17_3).f2)) ∧ w'.cell? ⟨(ad440.add ((x17_3).toNat * 6)).block, (ad440.add ((x17_3).toNat * 6)).off + 3, none⟩ = some (.slice A441_3 ((rd_T54 l3 x17_3).f3.f0).length c441_3) ∧ w'.cell? ⟨(ad440.add ((x17_3).toNat * 6)).block, (ad440.add ((x17_3).toNat * 6)).off + 4, none⟩ = some (.slice A441_4 ((rd_T54 l3 x17_3).f3.f1).length c441_4) ∧ w'.cell? ⟨(ad440.add ((x17_3).toNat * 6)).block, (ad440.add ((x17_3).toNat * 6)).off + 5, none⟩ = some (.string ((rd_T54 l3 x17_3).f4))) (ds := []) #[false, false, false, false, false, false, false, false, false, false, false, false] (by kernel_rfl) rfl rfl ⟨(blk_cell BK431.out 0).trans rfl, (blk_cell BK431.out 1).trans rfl, (blk_cell BK431.out 2).trans rfl, (blk_cell BK431.out 3).trans rfl, (blk_cell BK431.out 4).trans rfl, (blk_cell BK431.out 5).trans rfl, (blk_cell BK431.out 6).trans rfl, (blk_cell BK431.out 7).trans rfl, ((HB.out.cell (World.block_lt_of_cell? w _ hw441_0)).trans hw441_0), ((HB.out.cell (World.block_lt_of_cell? w _ hw441_1)).trans hw441_1), ((HB.out.cell (World.block_lt_of_cell? w _ hw441_2)).trans hw441_2), ((HB.out.cell (World.block_lt_of_cell? w _ hw441_3)).trans hw441_3), ((HB.out.cell (World.block_lt_of_cell? w _ hw441_4)).trans hw441_4), ((HB.out.cell (World.block_lt_of_cell? w _ hw441_5)).trans hw441_5)⟩ (fun hHeld => ?_); refine with_tabW folkmootref16_Merge.tab20 folkmootref16_Merge.bits20 (fun HT_ HW_ => ?_)
                          generalize w35.drew = w36 at HO_16 BK431 HB HR441_3 HR441_4 hx441_0 hx441_1 hx441_2 hx441_3 hx441_4 hx441_5 hHeld ⊢
                          refine pure_ (i := 1) (N := some 88) (v := ?_) (a' := ?_) #[false, true, false, false, false, false, false, false, false, false, false, false] rfl rfl (any_of HT_.out (by kernel_rfl)) (fun _ _ _ h => h) (Or.inl ⟨by rfl, ?_⟩) ?_ ?_
                          rotate_left
                          · intro w'
                            go_simp
                            with_reducible rfl
                          rotate_left
                          · simp only [Act.put, List.setIfInBounds_toArray, List.set_cons_zero, List.set_cons_succ, i64_w, i32_w]
                            rfl
                          refine pure_ (i := 2) (N := some 89) (v := ?_) (a' := ?_) #[false, true, true, false, false, false, false, false, false, false, false, false] rfl rfl (any_of HT_.out (by kernel_rfl)) (fun _ _ _ h => h) (Or.inl ⟨by rfl, ?_⟩) ?_ ?_
                          rotate_left
                          · intro w'
                            go_simp
                            with_reducible rfl
                          rotate_left
                          · simp only [Act.put, List.setIfInBounds_toArray, List.set_cons_zero, List.set_cons_succ, i64_w, i32_w]
                            rfl
                          refine pure_ (i := 3) (N := some 90) (v := ?_) (a' := ?_) #[false, true, true, true, false, false, false, false, false, false, false, false] rfl rfl (any_of HT_.out (by kernel_rfl)) (fun _ _ _ h => h) (Or.inl ⟨by rfl, ?_⟩) ?_ ?_
                          rotate_left
                          · intro w'
                            go_simp
                            with_reducible rfl
                          rotate_left
                          · simp only [Act.put, List.setIfInBounds_toArray, List.set_cons_zero, List.set_cons_succ, i64_w, i32_w]
                            rfl
                          refine pure_ (i := 4) (N := some 91) (v := ?_) (a' := ?_) #[false, true, true, true, true, false, false, false, false, false, false, false] rfl rfl (any_of HT_.out (by kernel_rfl)) (fun _ _ _ h => h) (Or.inl ⟨by rfl, ?_⟩) ?_ ?_
                          rotate_left
                          · intro w'
                            go_simp
                            with_reducible rfl
                          rotate_left
                          · simp only [Act.put, List.setIfInBounds_toArray, List.set_cons_zero, List.set_cons_succ, i64_w, i32_w]
                            rfl
                          refine take_ (i := 0) (N := some 87) (v := ?_) (a' := ?_) #[true, true, true, true, true, false, false, false, false, false, false, false] rfl rfl (take_ofW HT_.out HW_.out (by kernel_rfl)) (fun _ _ _ h => h) (Or.inl ⟨by rfl, ?_⟩) hHeld ?_ ?_
                          rotate_left
                          · rintro w' ⟨s0, s1, s2, s3, s4, s5, s6, s7, s8, s9, s10, s11, s12, s13⟩
                            go_simp
                            with_reducible rfl
                          rotate_left
                          · simp only [Act.put, List.setIfInBounds_toArray, List.set_cons_zero, List.set_cons_succ, i64_w, i32_w]
                            rfl
                          refine take_ (i := 5) (N := some 92) (v := ?_) (a' := ?_) #[true, true, true, true, true, true, false, false, false, false, false, false] rfl rfl (take_ofW HT_.out HW_.out (by kernel_rfl)) (fun _ _ _ h => h) (Or.inl ⟨by rfl, ?_⟩) hHeld ?_ ?_
                          rotate_left
                          · rintro w' ⟨s0, s1, s2, s3, s4, s5, s6, s7, s8, s9, s10, s11, s12, s13⟩
                            go_simp
                            with_reducible rfl
                          rotate_left
                          · simp only [Act.put, List.setIfInBounds_toArray, List.set_cons_zero, List.set_cons_succ, i64_w, i32_w]
                            rfl
                          refine one_ (i := 6) (N := some 93) #[true, true, true, true, true, true, true, false, false, false, false, false] rfl rfl (one_of HT_.out (by kernel_rfl)) (by decide) (fun K hK => ?_)
                          refine goes_ Try.func16 (by kernel_rfl) rfl #[.agg #[.int .i64 a0_0, .int .i64 a0_1, .int .i64 a0_2, .int .i64 a0_3, .slice A0_4 l0_4.length c0_4, .slice A0_5 l0_5.length c0_5, .string a0_6, .slice A0_7 l0_7.length c0_7], .int .i64 ((rd_T54 l3 x17_3).f0)] (by rfl) rfl rfl (by (try simp only [List.map_toArray, List.map_cons, List.map_nil]); first | done | rfl | (simp only [List.length_drop, List.length_take]; rfl)) ?_
                          with_reducible refine (folkmootref16_Term.calls k3 a0_0 a0_1 a0_2 a0_3 _ _ l0_4 _ _ l0_5 a0_6 _ _ l0_7 ((rd_T54 l3 x17_3).f0) t442 t443 _ ?side1 ?side2 ?side3 ?side4 ?side5 ?side6 A33.out).mono ?_
                          (case side1 => repeat (first | exact (Kd.C_below HR0_4.out HB.out) | (with_reducible refine Kd.C_alloc ?_ _) | (with_reducible refine Kd.C_drewN ?_ _) | (with_reducible refine Kd.C_drew ?_)))
                          (case side2 => exact HC0_4.out)
                          (case side3 => repeat (first | exact (Kd.C_below HR0_5.out HB.out) | (with_reducible refine Kd.C_alloc ?_ _) | (with_reducible refine Kd.C_drewN ?_ _) | (with_reducible refine Kd.C_drew ?_)))
                          (case side4 => exact HC0_5.out)
                          (case side5 => repeat (first | exact (Kd.C_below HR0_7.out HB.out) | (with_reducible refine Kd.C_alloc ?_ _) | (with_reducible refine Kd.C_drewN ?_ _) | (with_reducible refine Kd.C_drew ?_)))
                          (case side6 => exact HC0_7.out)
                          rintro e w37 ⟨rfl, hb⟩
                          refine ⟨_, rfl, ?_⟩
                          have n0_ := Aside0.mk (Kd.S_below (by (with_reducible repeat (first | apply Kd.S_alloc | apply Kd.S_drewN | apply Kd.S_drew)); exact HO_16.out) hb)
                          have n1_ := Aside0.mk (blk_below (g := gb431) (o := .cells #[.int .i64 a0_0, .int .i64 a0_1, .int .i64 a0_2, .int .i64 a0_3, .slice A0_4 l0_4.length c0_4, .slice A0_5 l0_5.length c0_5, .string a0_6, .slice A0_7 l0_7.length c0_7] 30 (0, 0)) (by (with_reducible repeat (first | refine blk_drewN ?_ _ | refine blk_drew ?_ | refine blk_alloc ?_ _)); exact BK431.out) hb)
                          have n2_ := Aside0.mk (below_step (by repeat (first | (with_reducible first | exact HB.out | apply below_alloc | apply pw_below_drewN | apply below_drew1 | refine below_set ?_ GE431.out) | exact HB.out)) hb)
                          clear HO_16
                          clear BK431
                          clear HB
                          have HO_16 := n0_
                          have BK431 := n1_
                          have HB := n2_
                          clear n0_ n1_ n2_
                          (try clear hb)
                          (try clear hb2)
                          (try clear hk)
                          (try clear hi)
                          refine hK.out _ _ ⟨(blk_cell BK431.out 0).trans rfl, (blk_cell BK431.out 1).trans rfl, (blk_cell BK431.out 2).trans rfl, (blk_cell BK431.out 3).trans rfl, (blk_cell BK431.out 4).trans rfl, (blk_cell BK431.out 5).trans rfl, (blk_cell BK431.out 6).trans rfl, (blk_cell BK431.out 7).trans rfl, ((HB.out.cell (World.block_lt_of_cell? w _ hw441_0)).trans hw441_0), ((HB.out.cell (World.block_lt_of_cell? w _ hw441_1)).trans hw441_1), ((HB.out.cell (World.block_lt_of_cell? w _ hw441_2)).trans hw441_2), ((HB.out.cell (World.block_lt_of_cell? w _ hw441_3)).trans hw441_3), ((HB.out.cell (World.block_lt_of_cell? w _ hw441_4)).trans hw441_4), ((HB.out.cell (World.block_lt_of_cell? w _ hw441_5)).trans hw441_5)⟩ (fun hHeld => ?_)
                          clear hK K
                          refine norm_ (a' := ?_) ?_ ?_
                          rotate_left
                          · show Act.put _ (some 93) _ = _
                            simp only [Act.put, List.setIfInBounds_toArray, List.set_cons_zero, List.set_cons_succ, i64_w, i32_w]
                            rfl
                          refine pure_ (i := 7) (N := some 86) (v := ?_) (a' := ?_) #[true, true, true, true, true, true, true, true, false, false, false, false] rfl rfl (any_of HT_.out (by kernel_rfl)) (fun _ _ _ h => h) (Or.inl ⟨by rfl, ?_⟩) ?_ ?_
                          rotate_left
                          · intro w'
                            go_simp
                            with_reducible rfl
                          rotate_left
                          · simp only [Act.put, List.setIfInBounds_toArray, List.set_cons_zero, List.set_cons_succ, i64_w, i32_w]
                            rfl
                          refine pure_ (i := 8) (N := some 94) (v := ?_) (a' := ?_) #[true, true, true, true, true, true, true, true, true, false, false, false] rfl rfl (any_of HT_.out (by kernel_rfl)) (fun _ _ _ h => h) (Or.inl ⟨by rfl, ?_⟩) ?_ ?_
                          rotate_left
                          · intro w'
                            go_simp
                            with_reducible rfl
                          rotate_left
                          · simp only [Act.put, List.setIfInBounds_toArray, List.set_cons_zero, List.set_cons_succ, i64_w, i32_w]
                            rfl
                          refine pure_ (i := 9) (N := some 95) (v := ?_) (a' := ?_) #[true, true, true, true, true, true, true, true, true, true, false, false] rfl rfl (any_of HT_.out (by kernel_rfl)) (fun _ _ _ h => h) (Or.inl ⟨by rfl, ?_⟩) ?_ ?_
                          rotate_left
                          · intro w'
                            go_simp
                            with_reducible rfl
                          rotate_left
                          · simp only [Act.put, List.setIfInBounds_toArray, List.set_cons_zero, List.set_cons_succ, i64_w, i32_w]
                            rfl
                          refine pure_ (i := 10) (N := some 18) (v := ?_) (a' := ?_) #[true, true, true, true, true, true, true, true, true, true, true, false] rfl rfl (any_of HT_.out (by kernel_rfl)) (fun _ _ _ h => h) (Or.inl ⟨by rfl, ?_⟩) ?_ ?_
                          rotate_left
                          · intro w'
                            go_simp
                            with_reducible rfl
                          rotate_left
                          · simp only [Act.put, List.setIfInBounds_toArray, List.set_cons_zero, List.set_cons_succ, i64_w, i32_w]
                            rfl
                          refine pure_ (i := 11) (N := some 19) (v := ?_) (a' := ?_) #[true, true, true, true, true, true, true, true, true, true, true, true] rfl rfl (any_of HT_.out (by kernel_rfl)) (fun _ _ _ h => h) (Or.inl ⟨by rfl, ?_⟩) ?_ ?_
                          rotate_left
                          · intro w'
                            go_simp
                            with_reducible rfl
                          rotate_left
                          · simp only [Act.put, List.setIfInBounds_toArray, List.set_cons_zero, List.set_cons_succ, i64_w, i32_w]
                            rfl
                          refine done_ (done_of HT_.out (by kernel_rfl)) ?_
                          go_upto_region 21 with (fail)
                          go_cut [111] (fun v111 wc => ∃ (kq : Nat) (x111_33 : Bool), v111 = .bool x111_33 ∧ Aside0 (folkmootref16_Merge.j3 kq a1 l3 x16_3 x17_3 t443 x111_33 a0_0 a0_1 a0_2 a0_3 l0_4 l0_5 a0_6 l0_7 = some (r1, r2, r3)) ∧ Aside0 (kq ≤ k3) ∧ Aside0 (Kd.S k57 57 wc w.heap.size (fun _ => True) u16 x16_3) ∧ Aside0 (wc.heap[gb431]? = some (.cells #[.int .i64 a0_0, .int .i64 a0_1, .int .i64 a0_2, .int .i64 a0_3, (.slice A0_4 l0_4.length c0_4), (.slice A0_5 l0_5.length c0_5), .string a0_6, (.slice A0_7 l0_7.length c0_7)] 30 (0, 0))) ∧ Aside0 (Below w.heap.size w wc))
                          case first =>
                            have H := HC34.out
                            clear HC34
                            by_cases c38 : (x16_3.length : Int) = 0
                            · rw [if_pos c38] at H
                              have c38b0 : ((x16_3.length : Int) == 0) = true := beq_iff_eq.mpr c38
                              have c38b1 : ((x16_3.length : Int) != 0) = false := bne_eq_false_iff_eq.mpr c38
                              clear c38
                              (first | rw [c38b0] | (simp only [i64_w, i32_w]; rw [c38b0]) | skip)
                              by_cases c39 : t443 = 0
                              · rw [if_pos c39] at H
                                have c39b0 : (t443 == 0) = true := beq_iff_eq.mpr c39
                                have c39b1 : (t443 != 0) = false := bne_eq_false_iff_eq.mpr c39
                                clear c39
                                have H' := Aside0.mk H
                                clear H
                                obtain ⟨Ao40, co40, eo40⟩ := Kd.S_slice HO_16.out
                                subst eo40
                                have p444 : 0 ≤ (x17_3 : Int) := of_decide_eq_true (by first | (with_reducible assumption) | assumption)
                                have q444 : x17_3 < (l3.length : Int) := of_decide_eq_true (by first | (with_reducible assumption) | assumption)
                                obtain ⟨ad444, A444_3, c444_3, A444_4, c444_4, e444, hx444_0, hx444_1, hx444_2, hx444_3, hx444_4, hx444_5, hl444_3, hi444_3, hl444_4, hi444_4⟩ := at_T54 HR3.out x17_3 p444 q444
                                obtain rfl : ad440 = ad444 := (by injection e444)
                                replace hx444_0 := (HB.out.cell (World.block_lt_of_cell? w _ hx444_0)).trans hx444_0
                                replace hx444_1 := (HB.out.cell (World.block_lt_of_cell? w _ hx444_1)).trans hx444_1
                                replace hx444_2 := (HB.out.cell (World.block_lt_of_cell? w _ hx444_2)).trans hx444_2
                                replace hx444_3 := (HB.out.cell (World.block_lt_of_cell? w _ hx444_3)).trans hx444_3
                                replace hx444_4 := (HB.out.cell (World.block_lt_of_cell? w _ hx444_4)).trans hx444_4
                                replace hx444_5 := (HB.out.cell (World.block_lt_of_cell? w _ hx444_5)).trans hx444_5
                                have HR444_3 := Aside0.mk hi444_3
                                have HC444_3 := Aside0.mk hl444_3
                                clear hi444_3 hl444_3
                                have HR444_4 := Aside0.mk hi444_4
                                have HC444_4 := Aside0.mk hl444_4
                                clear hi444_4 hl444_4
                                replace p444 := eq_true p444
                                replace q444 := eq_true q444
                                go_wp2
                                go_meet
                                case rel => exact ⟨_, ((t442 == ((rd_T54 l3 x17_3).f1))), (by first | rfl | (simp; done) | (simp [*]; done)), H', ⟨by have := HK1.out; have := HJ17.out; have := HK3.out; first | omega | exact Nat.le_refl _⟩, ⟨by (with_reducible repeat (first | apply Kd.S_alloc | apply Kd.S_drewN | apply Kd.S_drew)); exact HO_16.out⟩, ⟨by (with_reducible repeat (first | refine blk_drewN ?_ _ | refine blk_drew ?_ | refine blk_alloc ?_ _)); exact BK431.out⟩, ⟨by repeat (first | (with_reducible first | exact HB.out | apply below_alloc | apply pw_below_drewN | apply below_drew1 | refine below_set ?_ GE431.out) | exact HB.out)⟩⟩
                              · rw [if_neg c39] at H
                                have c39b0 : (t443 == 0) = false := beq_eq_false_iff_ne.mpr c39
                                have c39b1 : (t443 != 0) = true := bne_iff_ne.mpr c39
                                have H' := Aside0.mk H
                                clear H
                                obtain ⟨Ao41, co41, eo41⟩ := Kd.S_slice HO_16.out
                                subst eo41
                                go_wp2
                                go_meet
                                case rel => exact ⟨_, (false), (by first | rfl | (simp; done) | (simp [*]; done)), H', ⟨by have := HK1.out; have := HJ17.out; have := HK3.out; first | omega | exact Nat.le_refl _⟩, ⟨by (with_reducible repeat (first | apply Kd.S_alloc | apply Kd.S_drewN | apply Kd.S_drew)); exact HO_16.out⟩, ⟨by (with_reducible repeat (first | refine blk_drewN ?_ _ | refine blk_drew ?_ | refine blk_alloc ?_ _)); exact BK431.out⟩, ⟨by repeat (first | (with_reducible first | exact HB.out | apply below_alloc | apply pw_below_drewN | apply below_drew1 | refine below_set ?_ GE431.out) | exact HB.out)⟩⟩
                            · rw [if_neg c38] at H
                              have c38b0 : ((x16_3.length : Int) == 0) = false := beq_eq_false_iff_ne.mpr c38
                              have c38b1 : ((x16_3.length : Int) != 0) = true := bne_iff_ne.mpr c38
                              have c38b2 : ¬ (x16_3 = []) := fun h_ => c38 (by rw [h_]; rfl)
                              (first | rw [c38b0] | (simp only [i64_w, i32_w]; rw [c38b0]) | skip)
                              have H' := Aside0.mk H
                              clear H
                              obtain ⟨Ao42, co42, eo42⟩ := Kd.S_slice HO_16.out
                              subst eo42
                              go_wp2
                              go_meet
                              case rel => exact ⟨_, (false), (by first | rfl | (simp; done) | (simp [*]; done)), H', ⟨by have := HK1.out; have := HJ17.out; have := HK3.out; first | omega | exact Nat.le_refl _⟩, ⟨by (with_reducible repeat (first | apply Kd.S_alloc | apply Kd.S_drewN | apply Kd.S_drew)); exact HO_16.out⟩, ⟨by (with_reducible repeat (first | refine blk_drewN ?_ _ | refine blk_drew ?_ | refine blk_alloc ?_ _)); exact BK431.out⟩, ⟨by repeat (first | (with_reducible first | exact HB.out | apply below_alloc | apply pw_below_drewN | apply below_drew1 | refine below_set ?_ GE431.out) | exact HB.out)⟩⟩
                          case rest =>
                            clear HC34
                            try clear c1
                            try clear c2
                            try clear p2
                            try clear c3
                            try clear c4
                            try clear p4
                            try clear q4
                            try clear hx4
                            try clear p6
                            try clear c16
                            try clear c22
                            try clear c22b0
                            try clear c24
                            try clear c24b0
                            try clear c24b1
                            try clear c29
                            try clear c29b0
                            try clear c30
                            try clear c30b0
                            try clear c31
                            try clear c31b0
                            try clear c38
                            try clear c38b0
                            try clear c38b1
                            try clear c38b2
                            try clear c39
                            try clear c39b0
                            try clear c39b1
                            try clear hcz16_0
                            try clear hcz16_1
                            try clear hcz16_2
                            try clear hcz16_3
                            try clear hcz16_4
                            try clear hcz16_5
                            try clear hcz16_6
                            try clear hcz16_7
                            try clear hcz19_0
                            try clear hcz19_1
                            try clear hcz19_2
                            try clear hcz19_3
                            try clear hcz19_4
                            try clear hcz19_5
                            try clear hcz19_6
                            try clear hcz19_7
                            try clear hcz21_0
                            try clear hcz21_1
                            try clear hcz21_2
                            try clear hcz21_3
                            try clear hcz21_4
                            try clear hcz21_5
                            try clear hcz21_6
                            try clear hcz21_7
                            try clear hcz25_0
                            try clear hcz25_1
                            try clear hcz25_2
                            try clear hcz25_3
                            try clear hcz25_4
                            try clear hcz25_5
                            try clear hcz25_6
                            try clear hcz25_7
                            try clear hcz27_0
                            try clear hcz27_1
                            try clear hcz27_2
                            try clear hcz27_3
                            try clear hcz27_4
                            try clear hcz27_5
                            try clear hcz27_6
                            try clear hcz27_7
                            try clear hcz8_0
                            try clear hcz8_1
                            try clear hcz8_2
                            try clear hcz8_3
                            try clear hcz8_4
                            try clear hcz8_5
                            try clear hcz8_6
                            try clear hcz8_7
                            try clear hfz16_0
                            try clear hfz16_1
                            try clear hfz16_2
                            try clear hfz16_3
                            try clear hfz16_4
                            try clear hfz16_5
                            try clear hfz16_6
                            try clear hfz16_7
                            try clear hfz19_0
                            try clear hfz19_1
                            try clear hfz19_2
                            try clear hfz19_3
                            try clear hfz19_4
                            try clear hfz19_5
                            try clear hfz19_6
                            try clear hfz19_7
                            try clear hfz21_0
                            try clear hfz21_1
                            try clear hfz21_2
                            try clear hfz21_3
                            try clear hfz21_4
                            try clear hfz21_5
                            try clear hfz21_6
                            try clear hfz21_7
                            try clear hfz25_0
                            try clear hfz25_1
                            try clear hfz25_2
                            try clear hfz25_3
                            try clear hfz25_4
                            try clear hfz25_5
                            try clear hfz25_6
                            try clear hfz25_7
                            try clear hfz27_0
                            try clear hfz27_1
                            try clear hfz27_2
                            try clear hfz27_3
                            try clear hfz27_4
                            try clear hfz27_5
                            try clear hfz27_6
                            try clear hfz27_7
                            try clear hfz8_0
                            try clear hfz8_1
                            try clear hfz8_2
                            try clear hfz8_3
                            try clear hfz8_4
                            try clear hfz8_5
                            try clear hfz8_6
                            try clear hfz8_7
                            try clear hx433_0
                            try clear hx433_1
                            try clear hx433_2
                            try clear hx433_3
                            try clear hx433_4
                            try clear hx433_5
                            try clear hx434_0
                            try clear hx434_1
                            try clear hx434_2
                            try clear hx434_3
                            try clear hx434_4
                            try clear hx434_5
                            try clear hx440_0
                            try clear hx440_1
                            try clear hx440_2
                            try clear hx440_3
                            try clear hx440_4
                            try clear hx440_5
                            try clear hx441_0
                            try clear hx441_1
                            try clear hx441_2
                            try clear hx441_3
                            try clear hx441_4
                            try clear hx441_5
                            try clear hx444_0
                            try clear hx444_1
                            try clear hx444_2
                            try clear hx444_3
                            try clear hx444_4
                            try clear hx444_5
                            try clear p2
                            try clear p4
                            try clear p433
                            try clear p434
                            try clear p440
                            try clear p441
                            try clear p444
                            try clear p6
                            try clear q4
                            try clear q433
                            try clear q434
                            try clear q440
                            try clear q441
                            try clear q444
                            obtain ⟨kq, x111_33, rfl, HA, HJ33, HO_16, BK431, HB⟩ := hcut
                            cases kq with
                            | zero => exact absurd HA.out (by simp [folkmootref16_Merge.j3])
                            | succ kj33 =>
                              have H := HA.out
                              clear HA
                              simp only [folkmootref16_Merge.j3] at H
                              by_cases c43 : x111_33 = true
                              · subst c43
                                have H1 : (folkmootref16_Merge.l1 kj33 a1 l3 x16_3 (wrap64 (x17_3 + 1)) a0_0 a0_1 a0_2 a0_3 l0_4 l0_5 a0_6 l0_7) = some (r1, r2, r3) := by rw [if_pos rfl] at H; exact H
                                clear H
                                have H := H1
                                clear H1
                                have H' := Aside0.mk H
                                clear H
                                go_wp2
                                go_roundg kj33
                                case measure => have := HK1.out; have := HJ17.out; have := HK3.out; have := HJ33.out; omega
                                case rel => exact ⟨(x16_3), (wrap64 (x17_3 + 1)), (by first | rfl | (simp; done) | (simp [*]; done)), H', ⟨by have := HK1.out; have := HJ17.out; have := HK3.out; have := HJ33.out; omega⟩, ⟨by (with_reducible repeat (first | apply Kd.S_alloc | apply Kd.S_drewN | apply Kd.S_drew)); exact HO_16.out⟩, ⟨by (with_reducible repeat (first | refine blk_drewN ?_ _ | refine blk_drew ?_ | refine blk_alloc ?_ _)); exact BK431.out⟩, ⟨by repeat (first | (with_reducible first | exact HB.out | apply below_alloc | apply pw_below_drewN | apply below_drew1 | refine below_set ?_ GE431.out) | exact HB.out)⟩⟩
                              · replace c43 := Bool.eq_false_iff.mpr c43
                                subst c43
                                have H1 : (if (x16_3.length : Int) = 0 then (if t443 = 0 then (if 0 ≤ x17_3 then (if x17_3 < (l3.length : Int) then (if x16_3.length < 703687441776 then ((some (x16_3 ++ [(⟨3, 0, 0, (⟨0, 0, 0, (⟨([] : List Int), ([] : List Int)⟩ : S25), (⟨#[]⟩ : ByteArray)⟩ : S54), (rd_T54 l3 x17_3).f0, (⟨0, 0, (⟨([] : List Int), ([] : List Int)⟩ : S25), (⟨#[]⟩ : ByteArray)⟩ : S27)⟩ : S57)] : List (S57))).bind fun y446 => ((folkmootref15_Entry.f ((rd_T54 l3 x17_3).f0) ((rd_T54 l3 x17_3).f1) ((rd_T54 l3 x17_3).f2) ((rd_T54 l3 x17_3).f3.f0) ((rd_T54 l3 x17_3).f3.f1) ((rd_T54 l3 x17_3).f4)).bind fun bt450 => (if y446.length < 703687441776 then (folkmootref16_Merge.l1 kj33 a1 l3 (y446 ++ [(⟨2, 0, 0, (⟨bt450.1, bt450.2.1, bt450.2.2.1, (⟨bt450.2.2.2.1, bt450.2.2.2.2.1⟩ : S25), bt450.2.2.2.2.2⟩ : S54), 0, (⟨0, 0, (⟨([] : List Int), ([] : List Int)⟩ : S25), (⟨#[]⟩ : ByteArray)⟩ : S27)⟩ : S57)]) (wrap64 (x17_3 + 1)) a0_0 a0_1 a0_2 a0_3 l0_4 l0_5 a0_6 l0_7) else (none)))) else (none)) else (none)) else (none)) else (if 0 ≤ x17_3 then (if x17_3 < (l3.length : Int) then ((folkmootref15_Entry.f ((rd_T54 l3 x17_3).f0) ((rd_T54 l3 x17_3).f1) ((rd_T54 l3 x17_3).f2) ((rd_T54 l3 x17_3).f3.f0) ((rd_T54 l3 x17_3).f3.f1) ((rd_T54 l3 x17_3).f4)).bind fun bt464 => (if x16_3.length < 703687441776 then (folkmootref16_Merge.l1 kj33 a1 l3 (x16_3 ++ [(⟨2, 0, 0, (⟨bt464.1, bt464.2.1, bt464.2.2.1, (⟨bt464.2.2.2.1, bt464.2.2.2.2.1⟩ : S25), bt464.2.2.2.2.2⟩ : S54), 0, (⟨0, 0, (⟨([] : List Int), ([] : List Int)⟩ : S25), (⟨#[]⟩ : ByteArray)⟩ : S27)⟩ : S57)]) (wrap64 (x17_3 + 1)) a0_0 a0_1 a0_2 a0_3 l0_4 l0_5 a0_6 l0_7) else (none))) else (none)) else (none))) else (if 0 ≤ x17_3 then (if x17_3 < (l3.length : Int) then ((folkmootref15_Entry.f ((rd_T54 l3 x17_3).f0) ((rd_T54 l3 x17_3).f1) ((rd_T54 l3 x17_3).f2) ((rd_T54 l3 x17_3).f3.f0) ((rd_T54 l3 x17_3).f3.f1) ((rd_T54 l3 x17_3).f4)).bind fun bt478 => (if x16_3.length < 703687441776 then (folkmootref16_Merge.l1 kj33 a1 l3 (x16_3 ++ [(⟨2, 0, 0, (⟨bt478.1, bt478.2.1, bt478.2.2.1, (⟨bt478.2.2.2.1, bt478.2.2.2.2.1⟩ : S25), bt478.2.2.2.2.2⟩ : S54), 0, (⟨0, 0, (⟨([] : List Int), ([] : List Int)⟩ : S25), (⟨#[]⟩ : ByteArray)⟩ : S27)⟩ : S57)]) (wrap64 (x17_3 + 1)) a0_0 a0_1 a0_2 a0_3 l0_4 l0_5 a0_6 l0_7) else (none))) else (none)) else (none))) = some (r1, r2, r3) := by rw [if_neg (show ¬ (false = true) by decide)] at H; exact H
                                clear H
                                have H := H1
                                clear H1
                                by_cases c44 : (x16_3.length : Int) = 0
                                · rw [if_pos c44] at H
                                  have c44b0 : ((x16_3.length : Int) == 0) = true := beq_iff_eq.mpr c44
                                  have c44b1 : ((x16_3.length : Int) != 0) = false := bne_eq_false_iff_eq.mpr c44
                                  clear c44
                                  by_cases c45 : t443 = 0
                                  · rw [if_pos c45] at H
                                    have c45b0 : (t443 == 0) = true := beq_iff_eq.mpr c45
                                    have c45b1 : (t443 != 0) = false := bne_eq_false_iff_eq.mpr c45
                                    clear c45
                                    by_cases c46 : 0 ≤ x17_3
                                    · rw [if_pos c46] at H
                                      have c46b0 : decide (0 ≤ x17_3) = true := decide_eq_true c46
                                      clear c46
                                      by_cases c47 : x17_3 < (l3.length : Int)
                                      · rw [if_pos c47] at H
                                        have c47b0 : decide (x17_3 < (l3.length : Int)) = true := decide_eq_true c47
                                        clear c47
                                        by_cases c48 : x16_3.length < 703687441776
                                        · rw [if_pos c48] at H
                                          have LMc48 := Aside0.mk c48
                                          clear c48
                                          obtain ⟨y446, hy446⟩ : ∃ y_ : List (S57), y_ = (x16_3 ++ [(⟨3, 0, 0, (⟨0, 0, 0, (⟨([] : List Int), ([] : List Int)⟩ : S25), (⟨#[]⟩ : ByteArray)⟩ : S54), (rd_T54 l3 x17_3).f0, (⟨0, 0, (⟨([] : List Int), ([] : List Int)⟩ : S25), (⟨#[]⟩ : ByteArray)⟩ : S27)⟩ : S57)]) := ⟨_, rfl⟩
                                          replace H : ((folkmootref15_Entry.f ((rd_T54 l3 x17_3).f0) ((rd_T54 l3 x17_3).f1) ((rd_T54 l3 x17_3).f2) ((rd_T54 l3 x17_3).f3.f0) ((rd_T54 l3 x17_3).f3.f1) ((rd_T54 l3 x17_3).f4)).bind fun bt450 => (if y446.length < 703687441776 then (folkmootref16_Merge.l1 kj33 a1 l3 (y446 ++ [(⟨2, 0, 0, (⟨bt450.1, bt450.2.1, bt450.2.2.1, (⟨bt450.2.2.2.1, bt450.2.2.2.2.1⟩ : S25), bt450.2.2.2.2.2⟩ : S54), 0, (⟨0, 0, (⟨([] : List Int), ([] : List Int)⟩ : S25), (⟨#[]⟩ : ByteArray)⟩ : S27)⟩ : S57)]) (wrap64 (x17_3 + 1)) a0_0 a0_1 a0_2 a0_3 l0_4 l0_5 a0_6 l0_7) else (none))) = some (r1, r2, r3) := by first | (rw [hy446]; with_reducible exact H) | (have H2_ := (Option.bind_some _ _).symm.trans H; rw [hy446]; with_reducible exact H2_) | (have H2_ := (Option.bind_some _ _).symm.trans H; with_reducible exact H2_) | with_reducible exact H | (rw [hy446]; exact H) | exact H
                                          have Ny446 := Aside0.mk hy446
                                          clear hy446
                                          replace H := Option.bind_eq_some_iff.mp H
                                          obtain ⟨⟨t450, t451, t452, t453, t456, t459⟩, A490, H⟩ := H
                                          replace H : (if y446.length < 703687441776 then (folkmootref16_Merge.l1 kj33 a1 l3 (y446 ++ [(⟨2, 0, 0, (⟨t450, t451, t452, (⟨t453, t456⟩ : S25), t459⟩ : S54), 0, (⟨0, 0, (⟨([] : List Int), ([] : List Int)⟩ : S25), (⟨#[]⟩ : ByteArray)⟩ : S27)⟩ : S57)]) (wrap64 (x17_3 + 1)) a0_0 a0_1 a0_2 a0_3 l0_4 l0_5 a0_6 l0_7) else (none)) = some (r1, r2, r3) := H
                                          have A49 := Aside0.mk A490
                                          clear A490
                                          by_cases c50 : y446.length < 703687441776
                                          · rw [if_pos c50] at H
                                            have LMc50 := Aside0.mk c50
                                            clear c50
                                            obtain ⟨y460, hy460⟩ : ∃ y_ : List (S57), y_ = (y446 ++ [(⟨2, 0, 0, (⟨t450, t451, t452, (⟨t453, t456⟩ : S25), t459⟩ : S54), 0, (⟨0, 0, (⟨([] : List Int), ([] : List Int)⟩ : S25), (⟨#[]⟩ : ByteArray)⟩ : S27)⟩ : S57)]) := ⟨_, rfl⟩
                                            replace H : (folkmootref16_Merge.l1 kj33 a1 l3 y460 (wrap64 (x17_3 + 1)) a0_0 a0_1 a0_2 a0_3 l0_4 l0_5 a0_6 l0_7) = some (r1, r2, r3) := by first | (rw [hy460]; with_reducible exact H) | (have H2_ := (Option.bind_some _ _).symm.trans H; rw [hy460]; with_reducible exact H2_) | (have H2_ := (Option.bind_some _ _).symm.trans H; with_reducible exact H2_) | with_reducible exact H | (rw [hy460]; exact H) | exact H
                                            have Ny460 := Aside0.mk hy460
                                            clear hy460
                                            have H' := Aside0.mk H
                                            clear H
                                            obtain ⟨Ao51, co51, eo51⟩ := Kd.S_slice HO_16.out
                                            subst eo51
                                            have p445 : 0 ≤ (x17_3 : Int) := of_decide_eq_true (by first | (with_reducible assumption) | assumption)
                                            have q445 : x17_3 < (l3.length : Int) := of_decide_eq_true (by first | (with_reducible assumption) | assumption)
                                            obtain ⟨ad445, A445_3, c445_3, A445_4, c445_4, e445, hx445_0, hx445_1, hx445_2, hx445_3, hx445_4, hx445_5, hl445_3, hi445_3, hl445_4, hi445_4⟩ := at_T54 HR3.out x17_3 p445 q445
                                            obtain rfl : ad440 = ad445 := (by injection e445)
                                            replace hx445_0 := (HB.out.cell (World.block_lt_of_cell? w _ hx445_0)).trans hx445_0
                                            replace hx445_1 := (HB.out.cell (World.block_lt_of_cell? w _ hx445_1)).trans hx445_1
                                            replace hx445_2 := (HB.out.cell (World.block_lt_of_cell? w _ hx445_2)).trans hx445_2
                                            replace hx445_3 := (HB.out.cell (World.block_lt_of_cell? w _ hx445_3)).trans hx445_3
                                            replace hx445_4 := (HB.out.cell (World.block_lt_of_cell? w _ hx445_4)).trans hx445_4
                                            replace hx445_5 := (HB.out.cell (World.block_lt_of_cell? w _ hx445_5)).trans hx445_5
                                            have HR445_3 := Aside0.mk hi445_3
                                            have HC445_3 := Aside0.mk hl445_3
                                            clear hi445_3 hl445_3
                                            have HR445_4 := Aside0.mk hi445_4
                                            have HC445_4 := Aside0.mk hl445_4
                                            clear hi445_4 hl445_4
                                            replace p445 := eq_true p445
                                            replace q445 := eq_true q445
                                            go_wp2_with (first | ((with_reducible refine gate_builtin (b := .append) (xs := #[.tmp 119, .tmp 126]) rfl ?_); at_builtin; refine Kd.S_append k57 (w0 := w) w.heap.size rfl (.tmp 119) (.tmp 126) 48 57 (.agg #[(.int .i64 0), (.int .i64 0), (.int .i64 0), (.int .i64 0), (.int .i64 0), (.int .i64 0), (.slice none 0 0), (.slice none 0 0), (.string ⟨#[]⟩), (.int .i64 0), (.int .i64 0), (.int .i64 0), (.slice none 0 0), (.slice none 0 0), (.string ⟨#[]⟩)]) 200 rfl Try.underlying48 info57 rfl (by decide) (by omega) (.slice Ao51 x16_3.length co51) x16_3 (⟨3, 0, 0, (⟨0, 0, 0, (⟨([] : List Int), ([] : List Int)⟩ : S25), (⟨#[]⟩ : ByteArray)⟩ : S54), (rd_T54 l3 x17_3).f0, (⟨0, 0, (⟨([] : List Int), ([] : List Int)⟩ : S25), (⟨#[]⟩ : ByteArray)⟩ : S27)⟩ : S57) [.int .i64 3, .int .i64 0, .int .i64 0, .int .i64 0, .int .i64 0, .int .i64 0, .slice none 0 0, .slice none 0 0, .string (⟨#[]⟩ : ByteArray), .int .i64 ((rd_T54 l3 x17_3).f0), .int .i64 0, .int .i64 0, .slice none 0 0, .slice none 0 0, .string (⟨#[]⟩ : ByteArray)] (fun _ => True) (fun _ => False) rfl rfl ?aP (fun k_ hk_ => hk_.elim) ?aF ?aO ?aB ?aS ?aL ?_; (case aP => exact k57_mkM _ _ _ (⟨3, 0, 0, (⟨0, 0, 0, (⟨([] : List Int), ([] : List Int)⟩ : S25), (⟨#[]⟩ : ByteArray)⟩ : S54), (rd_T54 l3 x17_3).f0, (⟨0, 0, (⟨([] : List Int), ([] : List Int)⟩ : S25), (⟨#[]⟩ : ByteArray)⟩ : S27)⟩ : S57) (Kd.R_nil _ _ _ _ _) (Kd.R_nil _ _ _ _ _) (Kd.R_nil _ _ _ _ _) (Kd.R_nil _ _ _ _ _)); (case aB => exact (by repeat (first | (with_reducible first | exact HB.out | apply below_alloc | apply pw_below_drewN | apply below_drew1 | refine below_set ?_ GE431.out) | exact HB.out))); (case aF => exact (fun _ _ => trivial)); (case aO => exact (by (with_reducible repeat (first | apply Kd.S_alloc | apply Kd.S_drewN | apply Kd.S_drew)); exact Kd.S_mono HO_16.out (fun k_ hk => ⟨trivial, fun e_ => e_⟩))); (case aS => exact (below_size (by repeat (first | (with_reducible first | exact HB.out | apply below_alloc | apply pw_below_drewN | apply below_drew1 | refine below_set ?_ GE431.out) | exact HB.out)))); (case aL => have := LMc48.out; omega); intro v447 w52 ho hb hg hat; rw [← Ny446.out] at ho; have n0_ := Aside0.mk (blk_grown (g := gb431) (o := .cells #[.int .i64 a0_0, .int .i64 a0_1, .int .i64 a0_2, .int .i64 a0_3, .slice A0_4 l0_4.length c0_4, .slice A0_5 l0_5.length c0_5, .string a0_6, .slice A0_7 l0_7.length c0_7] 30 (0, 0)) (by (with_reducible repeat (first | refine blk_drewN ?_ _ | refine blk_drew ?_ | refine blk_alloc ?_ _)); exact BK431.out) hg (Kd.S_ne HO_16.out BK431.out (by decide))); have n1_ := Aside0.mk (hb); have n2_ := Aside0.mk (ho); clear BK431; clear HB; clear HO_16; have BK431 := n0_; have HB := n1_; have HO448 := n2_; clear n0_ n1_ n2_; clear ho hb hg hat; have p449 : 0 ≤ (x17_3 : Int) := of_decide_eq_true (by first | (with_reducible assumption) | assumption); have q449 : x17_3 < (l3.length : Int) := of_decide_eq_true (by first | (with_reducible assumption) | assumption); obtain ⟨ad449, A449_3, c449_3, A449_4, c449_4, e449, hx449_0, hx449_1, hx449_2, hx449_3, hx449_4, hx449_5, hl449_3, hi449_3, hl449_4, hi449_4⟩ := at_T54 HR3.out x17_3 p449 q449; obtain rfl : ad440 = ad449 := (by injection e449); replace hx449_0 := (HB.out.cell (World.block_lt_of_cell? w _ hx449_0)).trans hx449_0; replace hx449_1 := (HB.out.cell (World.block_lt_of_cell? w _ hx449_1)).trans hx449_1; replace hx449_2 := (HB.out.cell (World.block_lt_of_cell? w _ hx449_2)).trans hx449_2; replace hx449_3 := (HB.out.cell (World.block_lt_of_cell? w _ hx449_3)).trans hx449_3; replace hx449_4 := (HB.out.cell (World.block_lt_of_cell? w _ hx449_4)).trans hx449_4; replace hx449_5 := (HB.out.cell (World.block_lt_of_cell? w _ hx449_5)).trans hx449_5; have HR449_3 := Aside0.mk hi449_3; have HC449_3 := Aside0.mk hl449_3; clear hi449_3 hl449_3; have HR449_4 := Aside0.mk hi449_4; have HC449_4 := Aside0.mk hl449_4; clear hi449_4 hl449_4; replace p449 := eq_true p449; replace q449 := eq_true q449) | ((with_reducible refine gate_callee (f := 39) rfl ?_); refine goesL_ (some 133) rfl rfl Try.func39 (by kernel_rfl) rfl #[.agg #[.int .i64 ((rd_T54 l3 x17_3).f0), .int .i64 ((rd_T54 l3 x17_3).f1), .int .i64 ((rd_T54 l3 x17_3).f2), .slice A449_3 ((rd_T54 l3 x17_3).f3.f0).length c449_3, .slice A449_4 ((rd_T54 l3 x17_3).f3.f1).length c449_4, .string ((rd_T54 l3 x17_3).f4)]] rfl (by (try simp only [List.map_toArray, List.map_cons, List.map_nil]); first | done | rfl | (simp only [List.length_drop, List.length_take]; rfl)) ?_; (with_reducible refine (folkmootref15_Entry.calls ((rd_T54 l3 x17_3).f0) ((rd_T54 l3 x17_3).f1) ((rd_T54 l3 x17_3).f2) _ _ ((rd_T54 l3 x17_3).f3.f0) _ _ ((rd_T54 l3 x17_3).f3.f1) ((rd_T54 l3 x17_3).f4) t450 t451 t452 t453 t456 t459 _ ?side1 ?side2 ?side3 ?side4 A49.out).mono ?_); (case side1 => repeat (first | exact (Kd.C_below HR449_3.out HB.out) | (with_reducible refine Kd.C_alloc ?_ _) | (with_reducible refine Kd.C_drewN ?_ _) | (with_reducible refine Kd.C_drew ?_))); (case side2 => exact HC449_3.out); (case side3 => repeat (first | exact (Kd.C_below HR449_4.out HB.out) | (with_reducible refine Kd.C_alloc ?_ _) | (with_reducible refine Kd.C_drewN ?_ _) | (with_reducible refine Kd.C_drew ?_))); (case side4 => exact HC449_4.out); rintro e w53 ⟨v454, v457, rfl, ho0, ho1, hb⟩; refine ⟨_, rfl, ?_⟩; have n0_ := Aside0.mk (Kd.S_mono (Kd.S_told (Kd.S_told (Kd.S_old (by (with_reducible repeat (first | apply Kd.S_alloc | apply Kd.S_drewN | apply Kd.S_drew)); exact HO448.out) hb) (Kd.R_base ho0)) (Kd.R_base ho1)) (fun _ h_ => h_.1)); have n1_ := Aside0.mk (Kd.R_lower ho0 (below_size (by repeat (first | (with_reducible first | exact HB.out | apply below_alloc | apply pw_below_drewN | apply below_drew1 | refine below_set ?_ GE431.out) | exact HB.out)))); have n2_ := Aside0.mk (Kd.R_lower ho1 (below_size (by repeat (first | (with_reducible first | exact HB.out | apply below_alloc | apply pw_below_drewN | apply below_drew1 | refine below_set ?_ GE431.out) | exact HB.out)))); have n3_ := Aside0.mk (blk_below (g := gb431) (o := .cells #[.int .i64 a0_0, .int .i64 a0_1, .int .i64 a0_2, .int .i64 a0_3, .slice A0_4 l0_4.length c0_4, .slice A0_5 l0_5.length c0_5, .string a0_6, .slice A0_7 l0_7.length c0_7] 30 (0, 0)) (by (with_reducible repeat (first | refine blk_drewN ?_ _ | refine blk_drew ?_ | refine blk_alloc ?_ _)); exact BK431.out) hb); have n4_ := Aside0.mk (below_step (by repeat (first | (with_reducible first | exact HB.out | apply below_alloc | apply pw_below_drewN | apply below_drew1 | refine below_set ?_ GE431.out) | exact HB.out)) hb); clear HO448; clear BK431; clear HB; have HO448 := n0_; have HO455 := n1_; have HO458 := n2_; have BK431 := n3_; have HB := n4_; clear n0_ n1_ n2_ n3_ n4_; (try clear hb); (try clear hb2); (try clear hk); (try clear hi); (try clear ho0); (try clear ho1); obtain ⟨Ao54, co54, eo54⟩ := Kd.R_slice HO458.out; subst eo54; obtain ⟨Ao55, co55, eo55⟩ := Kd.R_slice HO455.out; subst eo55) | ((with_reducible refine gate_builtin (b := .append) (xs := #[.tmp 128, .tmp 135]) rfl ?_); at_builtin; refine Kd.S_append k57 (w0 := w) w.heap.size rfl (.tmp 128) (.tmp 135) 48 57 (.agg #[(.int .i64 0), (.int .i64 0), (.int .i64 0), (.int .i64 0), (.int .i64 0), (.int .i64 0), (.slice none 0 0), (.slice none 0 0), (.string ⟨#[]⟩), (.int .i64 0), (.int .i64 0), (.int .i64 0), (.slice none 0 0), (.slice none 0 0), (.string ⟨#[]⟩)]) 200 rfl Try.underlying48 info57 rfl (by decide) (by omega) v447 y446 (⟨2, 0, 0, (⟨t450, t451, t452, (⟨t453, t456⟩ : S25), t459⟩ : S54), 0, (⟨0, 0, (⟨([] : List Int), ([] : List Int)⟩ : S25), (⟨#[]⟩ : ByteArray)⟩ : S27)⟩ : S57) [.int .i64 2, .int .i64 0, .int .i64 0, .int .i64 t450, .int .i64 t451, .int .i64 t452, .slice Ao55 t453.length co55, .slice Ao54 t456.length co54, .string t459, .int .i64 0, .int .i64 0, .int .i64 0, .slice none 0 0, .slice none 0 0, .string (⟨#[]⟩ : ByteArray)] (fun _ => True) (fun k_ => some k_ = (.slice Ao55 t453.length co55 : Value).ownBlock ∨ some k_ = (.slice Ao54 t456.length co54 : Value).ownBlock) rfl rfl ?aP (fun k_ hk_ => hk_.elim (fun h_ => ((Kd.R_mono (ok' := fun k_ => ((fun _ => True)) k_ ∧ some k_ ≠ (v447 : Value).ownBlock) (Kd.R_apart' (HO455.out) (Kd.S_typed HO448.out) (by decide)) (fun k_ hk => ⟨trivial, hk.2⟩))).1 k_ h_.symm) (fun h_ => ((Kd.R_mono (ok' := fun k_ => ((fun _ => True)) k_ ∧ some k_ ≠ (v447 : Value).ownBlock) (Kd.R_apart' (HO458.out) (Kd.S_typed HO448.out) (by decide)) (fun k_ hk => ⟨trivial, hk.2⟩))).1 k_ h_.symm)) ?aF ?aO ?aB ?aS ?aL ?_; (case aP => exact k57_mkM _ _ _ (⟨2, 0, 0, (⟨t450, t451, t452, (⟨t453, t456⟩ : S25), t459⟩ : S54), 0, (⟨0, 0, (⟨([] : List Int), ([] : List Int)⟩ : S25), (⟨#[]⟩ : ByteArray)⟩ : S27)⟩ : S57) (Kd.R_mono (Kd.R_tight rfl (Kd.R_mono (ok' := fun k_ => ((fun _ => True)) k_ ∧ some k_ ≠ (v447 : Value).ownBlock) (Kd.R_apart' (HO455.out) (Kd.S_typed HO448.out) (by decide)) (fun k_ hk => ⟨trivial, hk.2⟩))) (fun _ h_ => Or.inl h_)) (Kd.R_mono (Kd.R_tight rfl (Kd.R_mono (ok' := fun k_ => ((fun _ => True)) k_ ∧ some k_ ≠ (v447 : Value).ownBlock) (Kd.R_apart' (HO458.out) (Kd.S_typed HO448.out) (by decide)) (fun k_ hk => ⟨trivial, hk.2⟩))) (fun _ h_ => Or.inr (h_))) (Kd.R_nil _ _ _ _ _) (Kd.R_nil _ _ _ _ _)); (case aB => exact (by repeat (first | (with_reducible first | exact HB.out | apply below_alloc | apply pw_below_drewN | apply below_drew1 | refine below_set ?_ GE431.out) | exact HB.out))); (case aF => exact (fun _ _ => trivial)); (case aO => exact (by (with_reducible repeat (first | apply Kd.S_alloc | apply Kd.S_drewN | apply Kd.S_drew)); exact Kd.S_mono HO448.out (fun k_ hk => ⟨trivial, fun e_ => e_.elim (fun h_ => hk.1.2 h_) (fun h_ => hk.2 h_)⟩))); (case aS => exact (below_size (by repeat (first | (with_reducible first | exact HB.out | apply below_alloc | apply pw_below_drewN | apply below_drew1 | refine below_set ?_ GE431.out) | exact HB.out)))); (case aL => have := LMc50.out; omega); intro v461 w56 ho hb hg hat; rw [← Ny460.out] at ho; have n0_ := Aside0.mk (blk_grown (g := gb431) (o := .cells #[.int .i64 a0_0, .int .i64 a0_1, .int .i64 a0_2, .int .i64 a0_3, .slice A0_4 l0_4.length c0_4, .slice A0_5 l0_5.length c0_5, .string a0_6, .slice A0_7 l0_7.length c0_7] 30 (0, 0)) (by (with_reducible repeat (first | refine blk_drewN ?_ _ | refine blk_drew ?_ | refine blk_alloc ?_ _)); exact BK431.out) hg (Kd.S_ne HO448.out BK431.out (by decide))); have n1_ := Aside0.mk (hb); have n2_ := Aside0.mk (ho); clear BK431; clear HB; clear HO448; clear HO455; clear HO458; have BK431 := n0_; have HB := n1_; have HO462 := n2_; clear n0_ n1_ n2_; clear ho hb hg hat))
                                            go_roundg kj33
                                            case measure => have := HK1.out; have := HJ17.out; have := HK3.out; have := HJ33.out; omega
                                            case rel => exact ⟨(y460), (wrap64 (x17_3 + 1)), (by first | rfl | (simp; done) | (simp [*]; done)), H', ⟨by have := HK1.out; have := HJ17.out; have := HK3.out; have := HJ33.out; omega⟩, ⟨by (with_reducible repeat (first | apply Kd.S_alloc | apply Kd.S_drewN | apply Kd.S_drew)); exact HO462.out⟩, ⟨by (with_reducible repeat (first | refine blk_drewN ?_ _ | refine blk_drew ?_ | refine blk_alloc ?_ _)); exact BK431.out⟩, ⟨by repeat (first | (with_reducible first | exact HB.out | apply below_alloc | apply pw_below_drewN | apply below_drew1 | refine below_set ?_ GE431.out) | exact HB.out)⟩⟩
                                          · rw [if_neg c50] at H
                                            exact absurd H (by simp)
                                        · rw [if_neg c48] at H
                                          exact absurd H (by simp)
                                      · rw [if_neg c47] at H
                                        exact absurd H (by simp)
                                    · rw [if_neg c46] at H
                                      exact absurd H (by simp)
                                  · rw [if_neg c45] at H
                                    have c45b0 : (t443 == 0) = false := beq_eq_false_iff_ne.mpr c45
                                    have c45b1 : (t443 != 0) = true := bne_iff_ne.mpr c45
                                    by_cases c57 : 0 ≤ x17_3
                                    · rw [if_pos c57] at H
                                      have c57b0 : decide (0 ≤ x17_3) = true := decide_eq_true c57
                                      clear c57
                                      by_cases c58 : x17_3 < (l3.length : Int)
                                      · rw [if_pos c58] at H
                                        have c58b0 : decide (x17_3 < (l3.length : Int)) = true := decide_eq_true c58
                                        clear c58
                                        replace H := Option.bind_eq_some_iff.mp H
                                        obtain ⟨⟨t464, t465, t466, t467, t470, t473⟩, A590, H⟩ := H
                                        replace H : (if x16_3.length < 703687441776 then (folkmootref16_Merge.l1 kj33 a1 l3 (x16_3 ++ [(⟨2, 0, 0, (⟨t464, t465, t466, (⟨t467, t470⟩ : S25), t473⟩ : S54), 0, (⟨0, 0, (⟨([] : List Int), ([] : List Int)⟩ : S25), (⟨#[]⟩ : ByteArray)⟩ : S27)⟩ : S57)]) (wrap64 (x17_3 + 1)) a0_0 a0_1 a0_2 a0_3 l0_4 l0_5 a0_6 l0_7) else (none)) = some (r1, r2, r3) := H
                                        have A59 := Aside0.mk A590
                                        clear A590
                                        by_cases c60 : x16_3.length < 703687441776
                                        · rw [if_pos c60] at H
                                          have LMc60 := Aside0.mk c60
                                          clear c60
                                          obtain ⟨y474, hy474⟩ : ∃ y_ : List (S57), y_ = (x16_3 ++ [(⟨2, 0, 0, (⟨t464, t465, t466, (⟨t467, t470⟩ : S25), t473⟩ : S54), 0, (⟨0, 0, (⟨([] : List Int), ([] : List Int)⟩ : S25), (⟨#[]⟩ : ByteArray)⟩ : S27)⟩ : S57)]) := ⟨_, rfl⟩
                                          replace H : (folkmootref16_Merge.l1 kj33 a1 l3 y474 (wrap64 (x17_3 + 1)) a0_0 a0_1 a0_2 a0_3 l0_4 l0_5 a0_6 l0_7) = some (r1, r2, r3) := by first | (rw [hy474]; with_reducible exact H) | (have H2_ := (Option.bind_some _ _).symm.trans H; rw [hy474]; with_reducible exact H2_) | (have H2_ := (Option.bind_some _ _).symm.trans H; with_reducible exact H2_) | with_reducible exact H | (rw [hy474]; exact H) | exact H
                                          have Ny474 := Aside0.mk hy474
                                          clear hy474
                                          have H' := Aside0.mk H
                                          clear H
                                          obtain ⟨Ao61, co61, eo61⟩ := Kd.S_slice HO_16.out
                                          subst eo61
                                          have p463 : 0 ≤ (x17_3 : Int) := of_decide_eq_true (by first | (with_reducible assumption) | assumption)
                                          have q463 : x17_3 < (l3.length : Int) := of_decide_eq_true (by first | (with_reducible assumption) | assumption)
                                          obtain ⟨ad463, A463_3, c463_3, A463_4, c463_4, e463, hx463_0, hx463_1, hx463_2, hx463_3, hx463_4, hx463_5, hl463_3, hi463_3, hl463_4, hi463_4⟩ := at_T54 HR3.out x17_3 p463 q463
                                          obtain rfl : ad440 = ad463 := (by injection e463)
                                          replace hx463_0 := (HB.out.cell (World.block_lt_of_cell? w _ hx463_0)).trans hx463_0
                                          replace hx463_1 := (HB.out.cell (World.block_lt_of_cell? w _ hx463_1)).trans hx463_1
                                          replace hx463_2 := (HB.out.cell (World.block_lt_of_cell? w _ hx463_2)).trans hx463_2
                                          replace hx463_3 := (HB.out.cell (World.block_lt_of_cell? w _ hx463_3)).trans hx463_3
                                          replace hx463_4 := (HB.out.cell (World.block_lt_of_cell? w _ hx463_4)).trans hx463_4
                                          replace hx463_5 := (HB.out.cell (World.block_lt_of_cell? w _ hx463_5)).trans hx463_5
                                          have HR463_3 := Aside0.mk hi463_3
                                          have HC463_3 := Aside0.mk hl463_3
                                          clear hi463_3 hl463_3
                                          have HR463_4 := Aside0.mk hi463_4
                                          have HC463_4 := Aside0.mk hl463_4
                                          clear hi463_4 hl463_4
                                          replace p463 := eq_true p463
                                          replace q463 := eq_true q463
                                          go_wp2_with (first | ((with_reducible refine gate_callee (f := 39) rfl ?_); refine goesL_ (some 133) rfl rfl Try.func39 (by kernel_rfl) rfl #[.agg #[.int .i64 ((rd_T54 l3 x17_3).f0), .int .i64 ((rd_T54 l3 x17_3).f1), .int .i64 ((rd_T54 l3 x17_3).f2), .slice A463_3 ((rd_T54 l3 x17_3).f3.f0).length c463_3, .slice A463_4 ((rd_T54 l3 x17_3).f3.f1).length c463_4, .string ((rd_T54 l3 x17_3).f4)]] rfl (by (try simp only [List.map_toArray, List.map_cons, List.map_nil]); first | done | rfl | (simp only [List.length_drop, List.length_take]; rfl)) ?_; (with_reducible refine (folkmootref15_Entry.calls ((rd_T54 l3 x17_3).f0) ((rd_T54 l3 x17_3).f1) ((rd_T54 l3 x17_3).f2) _ _ ((rd_T54 l3 x17_3).f3.f0) _ _ ((rd_T54 l3 x17_3).f3.f1) ((rd_T54 l3 x17_3).f4) t464 t465 t466 t467 t470 t473 _ ?side1 ?side2 ?side3 ?side4 A59.out).mono ?_); (case side1 => repeat (first | exact (Kd.C_below HR463_3.out HB.out) | (with_reducible refine Kd.C_alloc ?_ _) | (with_reducible refine Kd.C_drewN ?_ _) | (with_reducible refine Kd.C_drew ?_))); (case side2 => exact HC463_3.out); (case side3 => repeat (first | exact (Kd.C_below HR463_4.out HB.out) | (with_reducible refine Kd.C_alloc ?_ _) | (with_reducible refine Kd.C_drewN ?_ _) | (with_reducible refine Kd.C_drew ?_))); (case side4 => exact HC463_4.out); rintro e w62 ⟨v468, v471, rfl, ho0, ho1, hb⟩; refine ⟨_, rfl, ?_⟩; have n0_ := Aside0.mk (Kd.S_mono (Kd.S_told (Kd.S_told (Kd.S_old (by (with_reducible repeat (first | apply Kd.S_alloc | apply Kd.S_drewN | apply Kd.S_drew)); exact HO_16.out) hb) (Kd.R_base ho0)) (Kd.R_base ho1)) (fun _ h_ => h_.1)); have n1_ := Aside0.mk (Kd.R_lower ho0 (below_size (by repeat (first | (with_reducible first | exact HB.out | apply below_alloc | apply pw_below_drewN | apply below_drew1 | refine below_set ?_ GE431.out) | exact HB.out)))); have n2_ := Aside0.mk (Kd.R_lower ho1 (below_size (by repeat (first | (with_reducible first | exact HB.out | apply below_alloc | apply pw_below_drewN | apply below_drew1 | refine below_set ?_ GE431.out) | exact HB.out)))); have n3_ := Aside0.mk (blk_below (g := gb431) (o := .cells #[.int .i64 a0_0, .int .i64 a0_1, .int .i64 a0_2, .int .i64 a0_3, .slice A0_4 l0_4.length c0_4, .slice A0_5 l0_5.length c0_5, .string a0_6, .slice A0_7 l0_7.length c0_7] 30 (0, 0)) (by (with_reducible repeat (first | refine blk_drewN ?_ _ | refine blk_drew ?_ | refine blk_alloc ?_ _)); exact BK431.out) hb); have n4_ := Aside0.mk (below_step (by repeat (first | (with_reducible first | exact HB.out | apply below_alloc | apply pw_below_drewN | apply below_drew1 | refine below_set ?_ GE431.out) | exact HB.out)) hb); clear HO_16; clear BK431; clear HB; have HO_16 := n0_; have HO469 := n1_; have HO472 := n2_; have BK431 := n3_; have HB := n4_; clear n0_ n1_ n2_ n3_ n4_; (try clear hb); (try clear hb2); (try clear hk); (try clear hi); (try clear ho0); (try clear ho1); obtain ⟨Ao63, co63, eo63⟩ := Kd.R_slice HO472.out; subst eo63; obtain ⟨Ao64, co64, eo64⟩ := Kd.R_slice HO469.out; subst eo64) | ((with_reducible refine gate_builtin (b := .append) (xs := #[.tmp 128, .tmp 135]) rfl ?_); at_builtin; refine Kd.S_append k57 (w0 := w) w.heap.size rfl (.tmp 128) (.tmp 135) 48 57 (.agg #[(.int .i64 0), (.int .i64 0), (.int .i64 0), (.int .i64 0), (.int .i64 0), (.int .i64 0), (.slice none 0 0), (.slice none 0 0), (.string ⟨#[]⟩), (.int .i64 0), (.int .i64 0), (.int .i64 0), (.slice none 0 0), (.slice none 0 0), (.string ⟨#[]⟩)]) 200 rfl Try.underlying48 info57 rfl (by decide) (by omega) (.slice Ao61 x16_3.length co61) x16_3 (⟨2, 0, 0, (⟨t464, t465, t466, (⟨t467, t470⟩ : S25), t473⟩ : S54), 0, (⟨0, 0, (⟨([] : List Int), ([] : List Int)⟩ : S25), (⟨#[]⟩ : ByteArray)⟩ : S27)⟩ : S57) [.int .i64 2, .int .i64 0, .int .i64 0, .int .i64 t464, .int .i64 t465, .int .i64 t466, .slice Ao64 t467.length co64, .slice Ao63 t470.length co63, .string t473, .int .i64 0, .int .i64 0, .int .i64 0, .slice none 0 0, .slice none 0 0, .string (⟨#[]⟩ : ByteArray)] (fun _ => True) (fun k_ => some k_ = (.slice Ao64 t467.length co64 : Value).ownBlock ∨ some k_ = (.slice Ao63 t470.length co63 : Value).ownBlock) rfl rfl ?aP (fun k_ hk_ => hk_.elim (fun h_ => ((Kd.R_mono (ok' := fun k_ => ((fun _ => True)) k_ ∧ some k_ ≠ (.slice Ao61 x16_3.length co61 : Value).ownBlock) (Kd.R_apart' (HO469.out) (Kd.S_typed HO_16.out) (by decide)) (fun k_ hk => ⟨trivial, hk.2⟩))).1 k_ h_.symm) (fun h_ => ((Kd.R_mono (ok' := fun k_ => ((fun _ => True)) k_ ∧ some k_ ≠ (.slice Ao61 x16_3.length co61 : Value).ownBlock) (Kd.R_apart' (HO472.out) (Kd.S_typed HO_16.out) (by decide)) (fun k_ hk => ⟨trivial, hk.2⟩))).1 k_ h_.symm)) ?aF ?aO ?aB ?aS ?aL ?_; (case aP => exact k57_mkM _ _ _ (⟨2, 0, 0, (⟨t464, t465, t466, (⟨t467, t470⟩ : S25), t473⟩ : S54), 0, (⟨0, 0, (⟨([] : List Int), ([] : List Int)⟩ : S25), (⟨#[]⟩ : ByteArray)⟩ : S27)⟩ : S57) (Kd.R_mono (Kd.R_tight rfl (Kd.R_mono (ok' := fun k_ => ((fun _ => True)) k_ ∧ some k_ ≠ (.slice Ao61 x16_3.length co61 : Value).ownBlock) (Kd.R_apart' (HO469.out) (Kd.S_typed HO_16.out) (by decide)) (fun k_ hk => ⟨trivial, hk.2⟩))) (fun _ h_ => Or.inl h_)) (Kd.R_mono (Kd.R_tight rfl (Kd.R_mono (ok' := fun k_ => ((fun _ => True)) k_ ∧ some k_ ≠ (.slice Ao61 x16_3.length co61 : Value).ownBlock) (Kd.R_apart' (HO472.out) (Kd.S_typed HO_16.out) (by decide)) (fun k_ hk => ⟨trivial, hk.2⟩))) (fun _ h_ => Or.inr (h_))) (Kd.R_nil _ _ _ _ _) (Kd.R_nil _ _ _ _ _)); (case aB => exact (by repeat (first | (with_reducible first | exact HB.out | apply below_alloc | apply pw_below_drewN | apply below_drew1 | refine below_set ?_ GE431.out) | exact HB.out))); (case aF => exact (fun _ _ => trivial)); (case aO => exact (by (with_reducible repeat (first | apply Kd.S_alloc | apply Kd.S_drewN | apply Kd.S_drew)); exact Kd.S_mono HO_16.out (fun k_ hk => ⟨trivial, fun e_ => e_.elim (fun h_ => hk.1.2 h_) (fun h_ => hk.2 h_)⟩))); (case aS => exact (below_size (by repeat (first | (with_reducible first | exact HB.out | apply below_alloc | apply pw_below_drewN | apply below_drew1 | refine below_set ?_ GE431.out) | exact HB.out)))); (case aL => have := LMc60.out; omega); intro v475 w65 ho hb hg hat; rw [← Ny474.out] at ho; have n0_ := Aside0.mk (blk_grown (g := gb431) (o := .cells #[.int .i64 a0_0, .int .i64 a0_1, .int .i64 a0_2, .int .i64 a0_3, .slice A0_4 l0_4.length c0_4, .slice A0_5 l0_5.length c0_5, .string a0_6, .slice A0_7 l0_7.length c0_7] 30 (0, 0)) (by (with_reducible repeat (first | refine blk_drewN ?_ _ | refine blk_drew ?_ | refine blk_alloc ?_ _)); exact BK431.out) hg (Kd.S_ne HO_16.out BK431.out (by decide))); have n1_ := Aside0.mk (hb); have n2_ := Aside0.mk (ho); clear BK431; clear HB; clear HO_16; clear HO469; clear HO472; have BK431 := n0_; have HB := n1_; have HO476 := n2_; clear n0_ n1_ n2_; clear ho hb hg hat))
                                          go_roundg kj33
                                          case measure => have := HK1.out; have := HJ17.out; have := HK3.out; have := HJ33.out; omega
                                          case rel => exact ⟨(y474), (wrap64 (x17_3 + 1)), (by first | rfl | (simp; done) | (simp [*]; done)), H', ⟨by have := HK1.out; have := HJ17.out; have := HK3.out; have := HJ33.out; omega⟩, ⟨by (with_reducible repeat (first | apply Kd.S_alloc | apply Kd.S_drewN | apply Kd.S_drew)); exact HO476.out⟩, ⟨by (with_reducible repeat (first | refine blk_drewN ?_ _ | refine blk_drew ?_ | refine blk_alloc ?_ _)); exact BK431.out⟩, ⟨by repeat (first | (with_reducible first | exact HB.out | apply below_alloc | apply pw_below_drewN | apply below_drew1 | refine below_set ?_ GE431.out) | exact HB.out)⟩⟩
                                        · rw [if_neg c60] at H
                                          exact absurd H (by simp)
                                      · rw [if_neg c58] at H
                                        exact absurd H (by simp)
                                    · rw [if_neg c57] at H
                                      exact absurd H (by simp)
                                · rw [if_neg c44] at H
                                  have c44b0 : ((x16_3.length : Int) == 0) = false := beq_eq_false_iff_ne.mpr c44
                                  have c44b1 : ((x16_3.length : Int) != 0) = true := bne_iff_ne.mpr c44
                                  have c44b2 : ¬ (x16_3 = []) := fun h_ => c44 (by rw [h_]; rfl)
                                  by_cases c66 : 0 ≤ x17_3
                                  · rw [if_pos c66] at H
                                    have c66b0 : decide (0 ≤ x17_3) = true := decide_eq_true c66
                                    clear c66
                                    by_cases c67 : x17_3 < (l3.length : Int)
                                    · rw [if_pos c67] at H
                                      have c67b0 : decide (x17_3 < (l3.length : Int)) = true := decide_eq_true c67
                                      clear c67
                                      replace H := Option.bind_eq_some_iff.mp H
                                      obtain ⟨⟨t478, t479, t480, t481, t484, t487⟩, A680, H⟩ := H
                                      replace H : (if x16_3.length < 703687441776 then (folkmootref16_Merge.l1 kj33 a1 l3 (x16_3 ++ [(⟨2, 0, 0, (⟨t478, t479, t480, (⟨t481, t484⟩ : S25), t487⟩ : S54), 0, (⟨0, 0, (⟨([] : List Int), ([] : List Int)⟩ : S25), (⟨#[]⟩ : ByteArray)⟩ : S27)⟩ : S57)]) (wrap64 (x17_3 + 1)) a0_0 a0_1 a0_2 a0_3 l0_4 l0_5 a0_6 l0_7) else (none)) = some (r1, r2, r3) := H
                                      have A68 := Aside0.mk A680
                                      clear A680
                                      by_cases c69 : x16_3.length < 703687441776
                                      · rw [if_pos c69] at H
                                        have LMc69 := Aside0.mk c69
                                        clear c69
                                        obtain ⟨y488, hy488⟩ : ∃ y_ : List (S57), y_ = (x16_3 ++ [(⟨2, 0, 0, (⟨t478, t479, t480, (⟨t481, t484⟩ : S25), t487⟩ : S54), 0, (⟨0, 0, (⟨([] : List Int), ([] : List Int)⟩ : S25), (⟨#[]⟩ : ByteArray)⟩ : S27)⟩ : S57)]) := ⟨_, rfl⟩
                                        replace H : (folkmootref16_Merge.l1 kj33 a1 l3 y488 (wrap64 (x17_3 + 1)) a0_0 a0_1 a0_2 a0_3 l0_4 l0_5 a0_6 l0_7) = some (r1, r2, r3) := by first | (rw [hy488]; with_reducible exact H) | (have H2_ := (Option.bind_some _ _).symm.trans H; rw [hy488]; with_reducible exact H2_) | (have H2_ := (Option.bind_some _ _).symm.trans H; with_reducible exact H2_) | with_reducible exact H | (rw [hy488]; exact H) | exact H
                                        have Ny488 := Aside0.mk hy488
                                        clear hy488
                                        have H' := Aside0.mk H
                                        clear H
                                        obtain ⟨Ao70, co70, eo70⟩ := Kd.S_slice HO_16.out
                                        subst eo70
                                        have p477 : 0 ≤ (x17_3 : Int) := of_decide_eq_true (by first | (with_reducible assumption) | assumption)
                                        have q477 : x17_3 < (l3.length : Int) := of_decide_eq_true (by first | (with_reducible assumption) | assumption)
                                        obtain ⟨ad477, A477_3, c477_3, A477_4, c477_4, e477, hx477_0, hx477_1, hx477_2, hx477_3, hx477_4, hx477_5, hl477_3, hi477_3, hl477_4, hi477_4⟩ := at_T54 HR3.out x17_3 p477 q477
                                        obtain rfl : ad440 = ad477 := (by injection e477)
                                        replace hx477_0 := (HB.out.cell (World.block_lt_of_cell? w _ hx477_0)).trans hx477_0
                                        replace hx477_1 := (HB.out.cell (World.block_lt_of_cell? w _ hx477_1)).trans hx477_1
                                        replace hx477_2 := (HB.out.cell (World.block_lt_of_cell? w _ hx477_2)).trans hx477_2
                                        replace hx477_3 := (HB.out.cell (World.block_lt_of_cell? w _ hx477_3)).trans hx477_3
                                        replace hx477_4 := (HB.out.cell (World.block_lt_of_cell? w _ hx477_4)).trans hx477_4
                                        replace hx477_5 := (HB.out.cell (World.block_lt_of_cell? w _ hx477_5)).trans hx477_5
                                        have HR477_3 := Aside0.mk hi477_3
                                        have HC477_3 := Aside0.mk hl477_3
                                        clear hi477_3 hl477_3
                                        have HR477_4 := Aside0.mk hi477_4
                                        have HC477_4 := Aside0.mk hl477_4
                                        clear hi477_4 hl477_4
                                        replace p477 := eq_true p477
                                        replace q477 := eq_true q477
                                        go_wp2_with (first | ((with_reducible refine gate_callee (f := 39) rfl ?_); refine goesL_ (some 133) rfl rfl Try.func39 (by kernel_rfl) rfl #[.agg #[.int .i64 ((rd_T54 l3 x17_3).f0), .int .i64 ((rd_T54 l3 x17_3).f1), .int .i64 ((rd_T54 l3 x17_3).f2), .slice A477_3 ((rd_T54 l3 x17_3).f3.f0).length c477_3, .slice A477_4 ((rd_T54 l3 x17_3).f3.f1).length c477_4, .string ((rd_T54 l3 x17_3).f4)]] rfl (by (try simp only [List.map_toArray, List.map_cons, List.map_nil]); first | done | rfl | (simp only [List.length_drop, List.length_take]; rfl)) ?_; (with_reducible refine (folkmootref15_Entry.calls ((rd_T54 l3 x17_3).f0) ((rd_T54 l3 x17_3).f1) ((rd_T54 l3 x17_3).f2) _ _ ((rd_T54 l3 x17_3).f3.f0) _ _ ((rd_T54 l3 x17_3).f3.f1) ((rd_T54 l3 x17_3).f4) t478 t479 t480 t481 t484 t487 _ ?side1 ?side2 ?side3 ?side4 A68.out).mono ?_); (case side1 => repeat (first | exact (Kd.C_below HR477_3.out HB.out) | (with_reducible refine Kd.C_alloc ?_ _) | (with_reducible refine Kd.C_drewN ?_ _) | (with_reducible refine Kd.C_drew ?_))); (case side2 => exact HC477_3.out); (case side3 => repeat (first | exact (Kd.C_below HR477_4.out HB.out) | (with_reducible refine Kd.C_alloc ?_ _) | (with_reducible refine Kd.C_drewN ?_ _) | (with_reducible refine Kd.C_drew ?_))); (case side4 => exact HC477_4.out); rintro e w71 ⟨v482, v485, rfl, ho0, ho1, hb⟩; refine ⟨_, rfl, ?_⟩; have n0_ := Aside0.mk (Kd.S_mono (Kd.S_told (Kd.S_told (Kd.S_old (by (with_reducible repeat (first | apply Kd.S_alloc | apply Kd.S_drewN | apply Kd.S_drew)); exact HO_16.out) hb) (Kd.R_base ho0)) (Kd.R_base ho1)) (fun _ h_ => h_.1)); have n1_ := Aside0.mk (Kd.R_lower ho0 (below_size (by repeat (first | (with_reducible first | exact HB.out | apply below_alloc | apply pw_below_drewN | apply below_drew1 | refine below_set ?_ GE431.out) | exact HB.out)))); have n2_ := Aside0.mk (Kd.R_lower ho1 (below_size (by repeat (first | (with_reducible first | exact HB.out | apply below_alloc | apply pw_below_drewN | apply below_drew1 | refine below_set ?_ GE431.out) | exact HB.out)))); have n3_ := Aside0.mk (blk_below (g := gb431) (o := .cells #[.int .i64 a0_0, .int .i64 a0_1, .int .i64 a0_2, .int .i64 a0_3, .slice A0_4 l0_4.length c0_4, .slice A0_5 l0_5.length c0_5, .string a0_6, .slice A0_7 l0_7.length c0_7] 30 (0, 0)) (by (with_reducible repeat (first | refine blk_drewN ?_ _ | refine blk_drew ?_ | refine blk_alloc ?_ _)); exact BK431.out) hb); have n4_ := Aside0.mk (below_step (by repeat (first | (with_reducible first | exact HB.out | apply below_alloc | apply pw_below_drewN | apply below_drew1 | refine below_set ?_ GE431.out) | exact HB.out)) hb); clear HO_16; clear BK431; clear HB; have HO_16 := n0_; have HO483 := n1_; have HO486 := n2_; have BK431 := n3_; have HB := n4_; clear n0_ n1_ n2_ n3_ n4_; (try clear hb); (try clear hb2); (try clear hk); (try clear hi); (try clear ho0); (try clear ho1); obtain ⟨Ao72, co72, eo72⟩ := Kd.R_slice HO486.out; subst eo72; obtain ⟨Ao73, co73, eo73⟩ := Kd.R_slice HO483.out; subst eo73) | ((with_reducible refine gate_builtin (b := .append) (xs := #[.tmp 128, .tmp 135]) rfl ?_); at_builtin; refine Kd.S_append k57 (w0 := w) w.heap.size rfl (.tmp 128) (.tmp 135) 48 57 (.agg #[(.int .i64 0), (.int .i64 0), (.int .i64 0), (.int .i64 0), (.int .i64 0), (.int .i64 0), (.slice none 0 0), (.slice none 0 0), (.string ⟨#[]⟩), (.int .i64 0), (.int .i64 0), (.int .i64 0), (.slice none 0 0), (.slice none 0 0), (.string ⟨#[]⟩)]) 200 rfl Try.underlying48 info57 rfl (by decide) (by omega) (.slice Ao70 x16_3.length co70) x16_3 (⟨2, 0, 0, (⟨t478, t479, t480, (⟨t481, t484⟩ : S25), t487⟩ : S54), 0, (⟨0, 0, (⟨([] : List Int), ([] : List Int)⟩ : S25), (⟨#[]⟩ : ByteArray)⟩ : S27)⟩ : S57) [.int .i64 2, .int .i64 0, .int .i64 0, .int .i64 t478, .int .i64 t479, .int .i64 t480, .slice Ao73 t481.length co73, .slice Ao72 t484.length co72, .string t487, .int .i64 0, .int .i64 0, .int .i64 0, .slice none 0 0, .slice none 0 0, .string (⟨#[]⟩ : ByteArray)] (fun _ => True) (fun k_ => some k_ = (.slice Ao73 t481.length co73 : Value).ownBlock ∨ some k_ = (.slice Ao72 t484.length co72 : Value).ownBlock) rfl rfl ?aP (fun k_ hk_ => hk_.elim (fun h_ => ((Kd.R_mono (ok' := fun k_ => ((fun _ => True)) k_ ∧ some k_ ≠ (.slice Ao70 x16_3.length co70 : Value).ownBlock) (Kd.R_apart' (HO483.out) (Kd.S_typed HO_16.out) (by decide)) (fun k_ hk => ⟨trivial, hk.2⟩))).1 k_ h_.symm) (fun h_ => ((Kd.R_mono (ok' := fun k_ => ((fun _ => True)) k_ ∧ some k_ ≠ (.slice Ao70 x16_3.length co70 : Value).ownBlock) (Kd.R_apart' (HO486.out) (Kd.S_typed HO_16.out) (by decide)) (fun k_ hk => ⟨trivial, hk.2⟩))).1 k_ h_.symm)) ?aF ?aO ?aB ?aS ?aL ?_; (case aP => exact k57_mkM _ _ _ (⟨2, 0, 0, (⟨t478, t479, t480, (⟨t481, t484⟩ : S25), t487⟩ : S54), 0, (⟨0, 0, (⟨([] : List Int), ([] : List Int)⟩ : S25), (⟨#[]⟩ : ByteArray)⟩ : S27)⟩ : S57) (Kd.R_mono (Kd.R_tight rfl (Kd.R_mono (ok' := fun k_ => ((fun _ => True)) k_ ∧ some k_ ≠ (.slice Ao70 x16_3.length co70 : Value).ownBlock) (Kd.R_apart' (HO483.out) (Kd.S_typed HO_16.out) (by decide)) (fun k_ hk => ⟨trivial, hk.2⟩))) (fun _ h_ => Or.inl h_)) (Kd.R_mono (Kd.R_tight rfl (Kd.R_mono (ok' := fun k_ => ((fun _ => True)) k_ ∧ some k_ ≠ (.slice Ao70 x16_3.length co70 : Value).ownBlock) (Kd.R_apart' (HO486.out) (Kd.S_typed HO_16.out) (by decide)) (fun k_ hk => ⟨trivial, hk.2⟩))) (fun _ h_ => Or.inr (h_))) (Kd.R_nil _ _ _ _ _) (Kd.R_nil _ _ _ _ _)); (case aB => exact (by repeat (first | (with_reducible first | exact HB.out | apply below_alloc | apply pw_below_drewN | apply below_drew1 | refine below_set ?_ GE431.out) | exact HB.out))); (case aF => exact (fun _ _ => trivial)); (case aO => exact (by (with_reducible repeat (first | apply Kd.S_alloc | apply Kd.S_drewN | apply Kd.S_drew)); exact Kd.S_mono HO_16.out (fun k_ hk => ⟨trivial, fun e_ => e_.elim (fun h_ => hk.1.2 h_) (fun h_ => hk.2 h_)⟩))); (case aS => exact (below_size (by repeat (first | (with_reducible first | exact HB.out | apply below_alloc | apply pw_below_drewN | apply below_drew1 | refine below_set ?_ GE431.out) | exact HB.out)))); (case aL => have := LMc69.out; omega); intro v489 w74 ho hb hg hat; rw [← Ny488.out] at ho; have n0_ := Aside0.mk (blk_grown (g := gb431) (o := .cells #[.int .i64 a0_0, .int .i64 a0_1, .int .i64 a0_2, .int .i64 a0_3, .slice A0_4 l0_4.length c0_4, .slice A0_5 l0_5.length c0_5, .string a0_6, .slice A0_7 l0_7.length c0_7] 30 (0, 0)) (by (with_reducible repeat (first | refine blk_drewN ?_ _ | refine blk_drew ?_ | refine blk_alloc ?_ _)); exact BK431.out) hg (Kd.S_ne HO_16.out BK431.out (by decide))); have n1_ := Aside0.mk (hb); have n2_ := Aside0.mk (ho); clear BK431; clear HB; clear HO_16; clear HO483; clear HO486; have BK431 := n0_; have HB := n1_; have HO490 := n2_; clear n0_ n1_ n2_; clear ho hb hg hat))
                                        go_roundg kj33
                                        case measure => have := HK1.out; have := HJ17.out; have := HK3.out; have := HJ33.out; omega
                                        case rel => exact ⟨(y488), (wrap64 (x17_3 + 1)), (by first | rfl | (simp; done) | (simp [*]; done)), H', ⟨by have := HK1.out; have := HJ17.out; have := HK3.out; have := HJ33.out; omega⟩, ⟨by (with_reducible repeat (first | apply Kd.S_alloc | apply Kd.S_drewN | apply Kd.S_drew)); exact HO490.out⟩, ⟨by (with_reducible repeat (first | refine blk_drewN ?_ _ | refine blk_drew ?_ | refine blk_alloc ?_ _)); exact BK431.out⟩, ⟨by repeat (first | (with_reducible first | exact HB.out | apply below_alloc | apply pw_below_drewN | apply below_drew1 | refine below_set ?_ GE431.out) | exact HB.out)⟩⟩
                                      · rw [if_neg c69] at H
                                        exact absurd H (by simp)
                                    · rw [if_neg c67] at H
                                      exact absurd H (by simp)
                                  · rw [if_neg c66] at H
                                    exact absurd H (by simp)
                      · rw [if_neg c30] at H
                        exact absurd H (by simp)
                    · rw [if_neg c29] at H
                      have c29b0 : decide (x17_3 < (l3.length : Int)) = false := decide_eq_false c29
                      clear c29
                      by_cases c75 : (l3.length : Int) > 0
                      · rw [if_pos c75] at H
                        have c75b0 : decide (0 < (l3.length : Int)) = true := decide_eq_true c75
                        have c75b1 : decide (0 < l3.length) = true := decide_eq_true (by omega)
                        clear c75
                        obtain ⟨ji76, hji76⟩ : ∃ j_ : Int, (wrap64 ((l3.length : Int) - 1)) = j_ := ⟨_, rfl⟩
                        replace H : (if 0 ≤ (ji76) then (if (ji76) < (l3.length : Int) then (some (x16_3, mx ((rd_T54 l3 (ji76)).f0) a0_2, 0)) else (none)) else (none)) = some (r1, r2, r3) := by first | (rw [hji76] at H; exact H) | (simp only [hji76] at H ⊢; exact H)
                        have hji76w : (IntKind.i64.wrap ((l3.length : Int) - 1)) = ji76 := (i64_w _).trans hji76
                        by_cases c77 : 0 ≤ (ji76)
                        · rw [if_pos c77] at H
                          have c77b0 : decide (0 ≤ (ji76)) = true := decide_eq_true c77
                          clear c77
                          by_cases c78 : (ji76) < (l3.length : Int)
                          · rw [if_pos c78] at H
                            have c78b0 : decide ((ji76) < (l3.length : Int)) = true := decide_eq_true c78
                            clear c78
                            obtain ⟨ji79, hji79⟩ : ∃ j_ : Int, (mx ((rd_T54 l3 (ji76)).f0) a0_2) = j_ := ⟨_, rfl⟩
                            replace H : (some (x16_3, ji79, 0)) = some (r1, r2, r3) := by first | (rw [hji79] at H; exact H) | (simp only [hji79] at H ⊢; exact H)
                            have hji79_ : (if ((rd_T54 l3 (ji76)).f0) < a0_2 then a0_2 else ((rd_T54 l3 (ji76)).f0)) = ji79 := hji79
                            simp only [Option.some.injEq, Prod.mk.injEq] at H
                            obtain ⟨rfl, rfl, rfl⟩ := H
                            have p439 : 0 ≤ ((ji76) : Int) := of_decide_eq_true (by first | (with_reducible assumption) | assumption)
                            have q439 : (ji76) < (l3.length : Int) := of_decide_eq_true (by first | (with_reducible assumption) | assumption)
                            obtain ⟨ad439, A439_3, c439_3, A439_4, c439_4, e439, hx439_0, hx439_1, hx439_2, hx439_3, hx439_4, hx439_5, hl439_3, hi439_3, hl439_4, hi439_4⟩ := at_T54 HR3.out (ji76) p439 q439
                            cases e439
                            replace hx439_0 := (HB.out.cell (World.block_lt_of_cell? w _ hx439_0)).trans hx439_0
                            replace hx439_1 := (HB.out.cell (World.block_lt_of_cell? w _ hx439_1)).trans hx439_1
                            replace hx439_2 := (HB.out.cell (World.block_lt_of_cell? w _ hx439_2)).trans hx439_2
                            replace hx439_3 := (HB.out.cell (World.block_lt_of_cell? w _ hx439_3)).trans hx439_3
                            replace hx439_4 := (HB.out.cell (World.block_lt_of_cell? w _ hx439_4)).trans hx439_4
                            replace hx439_5 := (HB.out.cell (World.block_lt_of_cell? w _ hx439_5)).trans hx439_5
                            have HR439_3 := Aside0.mk hi439_3
                            have HC439_3 := Aside0.mk hl439_3
                            clear hi439_3 hl439_3
                            have HR439_4 := Aside0.mk hi439_4
                            have HC439_4 := Aside0.mk hl439_4
                            clear hi439_4 hl439_4
                            replace p439 := eq_true p439
                            replace q439 := eq_true q439
                            try go_wp2
                            have n0_ := Aside0.mk (Kd.S_drew HO_16.out)
                            have n1_ := Aside0.mk (blk_drew BK431.out)
                            have n2_ := Aside0.mk (below_drew1 HB.out)
                            clear HO_16
                            clear BK431
                            clear HB
                            have HO_16 := n0_
                            have BK431 := n1_
                            have HB := n2_
                            clear n0_ n1_ n2_
                            refine start_ (n := 9) (S := fun w' => w'.cell? ⟨gb431, 0, none⟩ = some (.int .i64 a0_0) ∧ w'.cell? ⟨gb431, 1, none⟩ = some (.int .i64 a0_1) ∧ w'.cell? ⟨gb431, 2, none⟩ = some (.int .i64 a0_2) ∧ w'.cell? ⟨gb431, 3, none⟩ = some (.int .i64 a0_3) ∧ w'.cell? ⟨gb431, 4, none⟩ = some (.slice A0_4 l0_4.length c0_4) ∧ w'.cell? ⟨gb431, 5, none⟩ = some (.slice A0_5 l0_5.length c0_5) ∧ w'.cell? ⟨gb431, 6, none⟩ = some (.string a0_6) ∧ w'.cell? ⟨gb431, 7, none⟩ = some (.slice A0_7 l0_7.length c0_7)) (ds := []) #[false, false, false, false, false, false, false, false, false] (by kernel_rfl) rfl rfl ⟨(blk_cell BK431.out 0).trans rfl, (blk_cell BK431.out 1).trans rfl, (blk_cell BK431.out 2).trans rfl, (blk_cell BK431.out 3).trans rfl, (blk_cell BK431.out 4).trans rfl, (blk_cell BK431.out 5).trans rfl, (blk_cell BK431.out 6).trans rfl, (blk_cell BK431.out 7).trans rfl⟩ (fun hHeld => ?_); refine with_tabW folkmootref16_Merge.tab28 folkmootref16_Merge.bits28 (fun HT_ HW_ => ?_)
                            generalize wr.drew = w80 at HO_16 BK431 HB hHeld ⊢
                            refine pure_ (i := 0) (N := some 148) (v := ?_) (a' := ?_) #[true, false, false, false, false, false, false, false, false] rfl rfl (any_of HT_.out (by kernel_rfl)) (fun _ _ _ h => h) (Or.inl ⟨by rfl, ?_⟩) ?_ ?_
                            rotate_left
                            · intro w'
                              go_simp
                              with_reducible rfl
                            rotate_left
                            · simp only [Act.put, List.setIfInBounds_toArray, List.set_cons_zero, List.set_cons_succ, i64_w, i32_w]
                              rfl
                            refine pure_ (i := 1) (N := some 149) (v := ?_) (a' := ?_) #[true, true, false, false, false, false, false, false, false] rfl rfl (any_of HT_.out (by kernel_rfl)) (fun _ _ _ h => h) (Or.inl ⟨by rfl, ?_⟩) ?_ ?_
                            rotate_left
                            · intro w'
                              go_simp
                              with_reducible rfl
                            rotate_left
                            · simp only [Act.put, List.setIfInBounds_toArray, List.set_cons_zero, List.set_cons_succ, i64_w, i32_w]
                              rfl
                            refine pure_ (i := 2) (N := some 150) (v := ?_) (a' := ?_) #[true, true, true, false, false, false, false, false, false] rfl rfl (any_of HT_.out (by kernel_rfl)) (fun _ _ _ h => h) (Or.inl ⟨by rfl, ?_⟩) ?_ ?_
                            rotate_left
                            · intro w'
                              go_simp
                              with_reducible rfl
                            rotate_left
                            · simp only [Act.put, List.setIfInBounds_toArray, List.set_cons_zero, List.set_cons_succ, i64_w, i32_w]
                              rfl
                            refine pure_ (i := 3) (N := some 151) (v := ?_) (a' := ?_) #[true, true, true, true, false, false, false, false, false] rfl rfl (any_of HT_.out (by kernel_rfl)) (fun _ _ _ h => h) (Or.inl ⟨by rfl, ?_⟩) ?_ ?_
                            rotate_left
                            · intro w'
                              go_simp
                              with_reducible rfl
                            rotate_left
                            · simp only [Act.put, List.setIfInBounds_toArray, List.set_cons_zero, List.set_cons_succ, i64_w, i32_w]
                              rfl
                            refine pure_ (i := 6) (N := some 8) (v := ?_) (a' := ?_) #[true, true, true, true, false, false, true, false, false] rfl rfl (any_of HT_.out (by kernel_rfl)) (fun _ _ _ h => h) (Or.inl ⟨by rfl, ?_⟩) ?_ ?_
                            rotate_left
                            · intro w'
                              go_simp
                              with_reducible rfl
                            rotate_left
                            · simp only [Act.put, List.setIfInBounds_toArray, List.set_cons_zero, List.set_cons_succ, i64_w, i32_w]
                              rfl
                            refine take_ (i := 4) (N := some 152) (v := ?_) (a' := ?_) #[true, true, true, true, true, false, true, false, false] rfl rfl (take_ofW HT_.out HW_.out (by kernel_rfl)) (fun _ _ _ h => h) (Or.inl ⟨by rfl, ?_⟩) hHeld ?_ ?_
                            rotate_left
                            · rintro w' ⟨s0, s1, s2, s3, s4, s5, s6, s7⟩
                              go_simp
                              with_reducible rfl
                            rotate_left
                            · simp only [Act.put, List.setIfInBounds_toArray, List.set_cons_zero, List.set_cons_succ, i64_w, i32_w]
                              rfl
                            refine pure_ (i := 5) (N := some 153) (v := ?_) (a' := ?_) #[true, true, true, true, true, true, true, false, false] rfl rfl (any_of HT_.out (by kernel_rfl)) (fun _ _ _ h => h) (Or.inl ⟨by rfl, ?_⟩) ?_ ?_
                            rotate_left
                            · intro w'
                              go_simp
                              with_reducible rfl
                            rotate_left
                            · simp only [Act.put, List.setIfInBounds_toArray, List.set_cons_zero, List.set_cons_succ, i64_w, i32_w]
                              rfl
                            refine pure_ (i := 7) (N := some 9) (v := ?_) (a' := ?_) #[true, true, true, true, true, true, true, true, false] rfl rfl (any_of HT_.out (by kernel_rfl)) (fun _ _ _ h => h) (Or.inl ⟨by rfl, ?_⟩) ?_ ?_
                            rotate_left
                            · intro w'
                              go_simp
                              with_reducible rfl
                            rotate_left
                            · simp only [Act.put, List.setIfInBounds_toArray, List.set_cons_zero, List.set_cons_succ, i64_w, i32_w]
                              rfl
                            refine pure_ (i := 8) (N := some 10) (v := ?_) (a' := ?_) #[true, true, true, true, true, true, true, true, true] rfl rfl (any_of HT_.out (by kernel_rfl)) (fun _ _ _ h => h) (Or.inl ⟨by rfl, ?_⟩) ?_ ?_
                            rotate_left
                            · intro w'
                              go_simp
                              with_reducible rfl
                            rotate_left
                            · simp only [Act.put, List.setIfInBounds_toArray, List.set_cons_zero, List.set_cons_succ, i64_w, i32_w]
                              rfl
                            refine done_ (done_of HT_.out (by kernel_rfl)) ?_
                            try go_wp2
                            go_ret3
                            exact ⟨_, by first | rfl | (simp [errW_none, errW_some] <;> rfl) | (simp only [← hji76, ← hji79]; first | rfl | (simp [errW_none, errW_some] <;> rfl)) | (simp [*, errW_none, errW_some] <;> rfl), by (with_reducible repeat (first | apply Kd.S_alloc | apply Kd.S_drewN | apply Kd.S_drew)); exact HO_16.out, by repeat (first | (with_reducible first | exact HB.out | apply below_alloc | apply pw_below_drewN | apply below_drew1 | refine below_set ?_ GE431.out) | exact HB.out)⟩
                          · rw [if_neg c78] at H
                            exact absurd H (by simp)
                        · rw [if_neg c77] at H
                          exact absurd H (by simp)
                      · rw [if_neg c75] at H
                        have c75b0 : decide (0 < (l3.length : Int)) = false := decide_eq_false c75
                        have c75b1 : decide (0 < l3.length) = false := decide_eq_false (by omega)
                        clear c75
                        obtain ⟨ji81, hji81⟩ : ∃ j_ : Int, (mx a1 a0_2) = j_ := ⟨_, rfl⟩
                        replace H : (some (x16_3, ji81, 0)) = some (r1, r2, r3) := by first | (rw [hji81] at H; exact H) | (simp only [hji81] at H ⊢; exact H)
                        have hji81_ : (if a1 < a0_2 then a0_2 else a1) = ji81 := hji81
                        simp only [Option.some.injEq, Prod.mk.injEq] at H
                        obtain ⟨rfl, rfl, rfl⟩ := H
                        try go_wp2
                        have n0_ := Aside0.mk (Kd.S_drew HO_16.out)
                        have n1_ := Aside0.mk (blk_drew BK431.out)
                        have n2_ := Aside0.mk (below_drew1 HB.out)
                        clear HO_16
                        clear BK431
                        clear HB
                        have HO_16 := n0_
                        have BK431 := n1_
                        have HB := n2_
                        clear n0_ n1_ n2_
                        refine start_ (n := 9) (S := fun w' => w'.cell? ⟨gb431, 0, none⟩ = some (.int .i64 a0_0) ∧ w'.cell? ⟨gb431, 1, none⟩ = some (.int .i64 a0_1) ∧ w'.cell? ⟨gb431, 2, none⟩ = some (.int .i64 a0_2) ∧ w'.cell? ⟨gb431, 3, none⟩ = some (.int .i64 a0_3) ∧ w'.cell? ⟨gb431, 4, none⟩ = some (.slice A0_4 l0_4.length c0_4) ∧ w'.cell? ⟨gb431, 5, none⟩ = some (.slice A0_5 l0_5.length c0_5) ∧ w'.cell? ⟨gb431, 6, none⟩ = some (.string a0_6) ∧ w'.cell? ⟨gb431, 7, none⟩ = some (.slice A0_7 l0_7.length c0_7)) (ds := []) #[false, false, false, false, false, false, false, false, false] (by kernel_rfl) rfl rfl ⟨(blk_cell BK431.out 0).trans rfl, (blk_cell BK431.out 1).trans rfl, (blk_cell BK431.out 2).trans rfl, (blk_cell BK431.out 3).trans rfl, (blk_cell BK431.out 4).trans rfl, (blk_cell BK431.out 5).trans rfl, (blk_cell BK431.out 6).trans rfl, (blk_cell BK431.out 7).trans rfl⟩ (fun hHeld => ?_); refine with_tabW folkmootref16_Merge.tab28 folkmootref16_Merge.bits28 (fun HT_ HW_ => ?_)
                        generalize wr.drew = w82 at HO_16 BK431 HB hHeld ⊢
                        refine pure_ (i := 0) (N := some 148) (v := ?_) (a' := ?_) #[true, false, false, false, false, false, false, false, false] rfl rfl (any_of HT_.out (by kernel_rfl)) (fun _ _ _ h => h) (Or.inl ⟨by rfl, ?_⟩) ?_ ?_
                        rotate_left
                        · intro w'
                          go_simp
                          with_reducible rfl
                        rotate_left
                        · simp only [Act.put, List.setIfInBounds_toArray, List.set_cons_zero, List.set_cons_succ, i64_w, i32_w]
                          rfl
                        refine pure_ (i := 1) (N := some 149) (v := ?_) (a' := ?_) #[true, true, false, false, false, false, false, false, false] rfl rfl (any_of HT_.out (by kernel_rfl)) (fun _ _ _ h => h) (Or.inl ⟨by rfl, ?_⟩) ?_ ?_
                        rotate_left
                        · intro w'
                          go_simp
                          with_reducible rfl
                        rotate_left
                        · simp only [Act.put, List.setIfInBounds_toArray, List.set_cons_zero, List.set_cons_succ, i64_w, i32_w]
                          rfl
                        refine pure_ (i := 2) (N := some 150) (v := ?_) (a' := ?_) #[true, true, true, false, false, false, false, false, false] rfl rfl (any_of HT_.out (by kernel_rfl)) (fun _ _ _ h => h) (Or.inl ⟨by rfl, ?_⟩) ?_ ?_
                        rotate_left
                        · intro w'
                          go_simp
                          with_reducible rfl
                        rotate_left
                        · simp only [Act.put, List.setIfInBounds_toArray, List.set_cons_zero, List.set_cons_succ, i64_w, i32_w]
                          rfl
                        refine pure_ (i := 3) (N := some 151) (v := ?_) (a' := ?_) #[true, true, true, true, false, false, false, false, false] rfl rfl (any_of HT_.out (by kernel_rfl)) (fun _ _ _ h => h) (Or.inl ⟨by rfl, ?_⟩) ?_ ?_
                        rotate_left
                        · intro w'
                          go_simp
                          with_reducible rfl
                        rotate_left
                        · simp only [Act.put, List.setIfInBounds_toArray, List.set_cons_zero, List.set_cons_succ, i64_w, i32_w]
                          rfl
                        refine pure_ (i := 6) (N := some 8) (v := ?_) (a' := ?_) #[true, true, true, true, false, false, true, false, false] rfl rfl (any_of HT_.out (by kernel_rfl)) (fun _ _ _ h => h) (Or.inl ⟨by rfl, ?_⟩) ?_ ?_
                        rotate_left
                        · intro w'
                          go_simp
                          with_reducible rfl
                        rotate_left
                        · simp only [Act.put, List.setIfInBounds_toArray, List.set_cons_zero, List.set_cons_succ, i64_w, i32_w]
                          rfl
                        refine take_ (i := 4) (N := some 152) (v := ?_) (a' := ?_) #[true, true, true, true, true, false, true, false, false] rfl rfl (take_ofW HT_.out HW_.out (by kernel_rfl)) (fun _ _ _ h => h) (Or.inl ⟨by rfl, ?_⟩) hHeld ?_ ?_
                        rotate_left
                        · rintro w' ⟨s0, s1, s2, s3, s4, s5, s6, s7⟩
                          go_simp
                          with_reducible rfl
                        rotate_left
                        · simp only [Act.put, List.setIfInBounds_toArray, List.set_cons_zero, List.set_cons_succ, i64_w, i32_w]
                          rfl
                        refine pure_ (i := 5) (N := some 153) (v := ?_) (a' := ?_) #[true, true, true, true, true, true, true, false, false] rfl rfl (any_of HT_.out (by kernel_rfl)) (fun _ _ _ h => h) (Or.inl ⟨by rfl, ?_⟩) ?_ ?_
                        rotate_left
                        · intro w'
                          go_simp
                          with_reducible rfl
                        rotate_left
                        · simp only [Act.put, List.setIfInBounds_toArray, List.set_cons_zero, List.set_cons_succ, i64_w, i32_w]
                          rfl
                        refine pure_ (i := 7) (N := some 9) (v := ?_) (a' := ?_) #[true, true, true, true, true, true, true, true, false] rfl rfl (any_of HT_.out (by kernel_rfl)) (fun _ _ _ h => h) (Or.inl ⟨by rfl, ?_⟩) ?_ ?_
                        rotate_left
                        · intro w'
                          go_simp
                          with_reducible rfl
                        rotate_left
                        · simp only [Act.put, List.setIfInBounds_toArray, List.set_cons_zero, List.set_cons_succ, i64_w, i32_w]
                          rfl
                        refine pure_ (i := 8) (N := some 10) (v := ?_) (a' := ?_) #[true, true, true, true, true, true, true, true, true] rfl rfl (any_of HT_.out (by kernel_rfl)) (fun _ _ _ h => h) (Or.inl ⟨by rfl, ?_⟩) ?_ ?_
                        rotate_left
                        · intro w'
                          go_simp
                          with_reducible rfl
                        rotate_left
                        · simp only [Act.put, List.setIfInBounds_toArray, List.set_cons_zero, List.set_cons_succ, i64_w, i32_w]
                          rfl
                        refine done_ (done_of HT_.out (by kernel_rfl)) ?_
                        try go_wp2
                        go_ret3
                        exact ⟨_, by first | rfl | (simp [errW_none, errW_some] <;> rfl) | (simp only [← hji81]; first | rfl | (simp [errW_none, errW_some] <;> rfl)) | (simp [*, errW_none, errW_some] <;> rfl), by (with_reducible repeat (first | apply Kd.S_alloc | apply Kd.S_drewN | apply Kd.S_drew)); exact HO_16.out, by repeat (first | (with_reducible first | exact HB.out | apply below_alloc | apply pw_below_drewN | apply below_drew1 | refine below_set ?_ GE431.out) | exact HB.out)⟩
  · replace c6 := Bool.eq_false_iff.mpr c6
    subst c6
    have H1 : (some (([] : List (S57)), 0, 1)) = some (r1, r2, r3) := by rw [if_neg (show ¬ (false = true) by decide)] at H; exact H
    clear H
    have H := H1
    clear H1
    simp only [Option.some.injEq, Prod.mk.injEq] at H
    obtain ⟨rfl, rfl, rfl⟩ := H
    go_enter Try.func29, Try.ntmps29
    go_wp2_with (first | ((with_reducible refine gate_dst (N := 4) rfl ?_); refine box_event ?hg (N := 4) ?hd (cs := #[.int .i64 a0_0, .int .i64 a0_1, .int .i64 a0_2, .int .i64 a0_3, .slice A0_4 l0_4.length c0_4, .slice A0_5 l0_5.length c0_5, .string a0_6, .slice A0_7 l0_7.length c0_7]) (t := 30) ?hr ?_; (case hd => rfl); (case hg => rfl); (case hr => first | (go_simp; done) | (go_simp; rfl)); intro gb431 hg w83 hbox hb; have n0_ := Aside0.mk (below_step (by repeat (first | (with_reducible first | exact HB.out | apply below_alloc | apply pw_below_drewN | apply below_drew1) | exact HB.out)) hb); have n1_ := Aside0.mk (hbox); have n2_ := Aside0.mk ((by rw [hg]; exact (below_size (by repeat (first | (with_reducible first | exact HB.out | apply below_alloc | apply pw_below_drewN | apply below_drew1) | exact HB.out))) : w.heap.size ≤ gb431)); have n3_ := Aside0.mk ((by rw [hg]; exact (below_size (by repeat (first | (with_reducible first | exact HB.out | apply below_alloc | apply pw_below_drewN | apply below_drew1) | exact HB.out))) : w.heap.size ≤ gb431)); clear HB; have HB := n0_; have BK431 := n1_; have GW431 := n2_; have GE431 := n3_; clear n0_ n1_ n2_ n3_; clear hb hbox hg; have hcz84_0 : w83.cell? ⟨gb431, 0, none⟩ = some (.int .i64 a0_0) := (blk_cell BK431.out 0).trans rfl; have hcz84_1 : w83.cell? ⟨gb431, 1, none⟩ = some (.int .i64 a0_1) := (blk_cell BK431.out 1).trans rfl; have hcz84_2 : w83.cell? ⟨gb431, 2, none⟩ = some (.int .i64 a0_2) := (blk_cell BK431.out 2).trans rfl; have hcz84_3 : w83.cell? ⟨gb431, 3, none⟩ = some (.int .i64 a0_3) := (blk_cell BK431.out 3).trans rfl; have hcz84_4 : w83.cell? ⟨gb431, 4, none⟩ = some (.slice A0_4 l0_4.length c0_4) := (blk_cell BK431.out 4).trans rfl; have hcz84_5 : w83.cell? ⟨gb431, 5, none⟩ = some (.slice A0_5 l0_5.length c0_5) := (blk_cell BK431.out 5).trans rfl; have hcz84_6 : w83.cell? ⟨gb431, 6, none⟩ = some (.string a0_6) := (blk_cell BK431.out 6).trans rfl; have hcz84_7 : w83.cell? ⟨gb431, 7, none⟩ = some (.slice A0_7 l0_7.length c0_7) := (blk_cell BK431.out 7).trans rfl; have hfz84_0 := blk_frozen BK431.out 0; have hfz84_1 := blk_frozen BK431.out 1; have hfz84_2 := blk_frozen BK431.out 2; have hfz84_3 := blk_frozen BK431.out 3; have hfz84_4 := blk_frozen BK431.out 4; have hfz84_5 := blk_frozen BK431.out 5; have hfz84_6 := blk_frozen BK431.out 6; have hfz84_7 := blk_frozen BK431.out 7) | ((with_reducible refine gate_callee (f := 14) rfl ?_); refine goesL_ (some 22) rfl rfl Try.func14 (by kernel_rfl) rfl #[.agg #[.int .i64 a0_0, .int .i64 a0_1, .int .i64 a0_2, .int .i64 a0_3, .slice A0_4 l0_4.length c0_4, .slice A0_5 l0_5.length c0_5, .string a0_6, .slice A0_7 l0_7.length c0_7]] rfl (by (try simp only [List.map_toArray, List.map_cons, List.map_nil]); first | done | rfl | (simp only [List.length_drop, List.length_take]; rfl)) ?_; (with_reducible refine (folkmootref16_On.calls k a0_0 a0_1 a0_2 a0_3 _ _ l0_4 _ _ l0_5 a0_6 _ _ l0_7 false _ ?side1 ?side2 ?side3 ?side4 ?side5 ?side6 A5.out).mono ?_); (case side1 => repeat (first | exact (Kd.C_below HR0_4.out HB.out) | (with_reducible refine Kd.C_alloc ?_ _) | (with_reducible refine Kd.C_drewN ?_ _) | (with_reducible refine Kd.C_drew ?_))); (case side2 => exact HC0_4.out); (case side3 => repeat (first | exact (Kd.C_below HR0_5.out HB.out) | (with_reducible refine Kd.C_alloc ?_ _) | (with_reducible refine Kd.C_drewN ?_ _) | (with_reducible refine Kd.C_drew ?_))); (case side4 => exact HC0_5.out); (case side5 => repeat (first | exact (Kd.C_below HR0_7.out HB.out) | (with_reducible refine Kd.C_alloc ?_ _) | (with_reducible refine Kd.C_drewN ?_ _) | (with_reducible refine Kd.C_drew ?_))); (case side6 => exact HC0_7.out); rintro e w85 ⟨rfl, hb⟩; refine ⟨_, rfl, ?_⟩; have n0_ := Aside0.mk (blk_below (g := gb431) (o := .cells #[.int .i64 a0_0, .int .i64 a0_1, .int .i64 a0_2, .int .i64 a0_3, .slice A0_4 l0_4.length c0_4, .slice A0_5 l0_5.length c0_5, .string a0_6, .slice A0_7 l0_7.length c0_7] 30 (0, 0)) (by (with_reducible repeat (first | refine blk_drewN ?_ _ | refine blk_drew ?_ | refine blk_alloc ?_ _)); exact BK431.out) hb); have n1_ := Aside0.mk (below_step (by repeat (first | (with_reducible first | exact HB.out | apply below_alloc | apply pw_below_drewN | apply below_drew1 | refine below_set ?_ GE431.out) | exact HB.out)) hb); clear BK431; clear HB; have BK431 := n0_; have HB := n1_; clear n0_ n1_; (try clear hb); (try clear hb2); (try clear hk); (try clear hi)))
    go_ret3
    exact ⟨_, by first | rfl | (simp [errW_none, errW_some] <;> rfl) | (simp [*, errW_none, errW_some] <;> rfl), by first | exact Kd.S_nil _ _ _ _ _ | exact Kd.N_nil _ _ _ _ _ | exact Kd.V_nil _ _ _ _ _ | exact Kd.Q_nil _ _ _ _ _ | exact Kd.R_nil _ _ _ _ _, by repeat (first | (with_reducible first | exact HB.out | apply below_alloc | apply pw_below_drewN | apply below_drew1 | refine below_set ?_ GE431.out) | exact HB.out)⟩

end Go.Proofs.Ytbjhjimkljbjlaa.PA
/- Plain laws: what Merge answers. -/
namespace Go.Proofs.Ytbjhjimkljbjlaa.PA
open Go.RowKit Go.Proofs.YtbjhjimkljbjlaaW.PrintWords Go.Proofs.YtbjhjimkljbjlaaW.PrintLast

def cutR (x : S54) : S57 := (⟨3, 0, 0, (⟨0, 0, 0, (⟨([] : List Int), ([] : List Int)⟩ : S25), (⟨#[]⟩ : ByteArray)⟩ : S54), x.f0, (⟨0, 0, (⟨([] : List Int), ([] : List Int)⟩ : S25), (⟨#[]⟩ : ByteArray)⟩ : S27)⟩ : S57)
def entR (x : S54) : S57 := (⟨2, 0, 0, x, 0, (⟨0, 0, (⟨([] : List Int), ([] : List Int)⟩ : S25), (⟨#[]⟩ : ByteArray)⟩ : S27)⟩ : S57)
def goodAt (a1 : Int) (l : List S54) (i : Nat) : Bool := decide (a1 < (l.getD i z54).f0) && decide (wrap64 (wrap64 ((l.getD i z54).f0 - 1) - i) = a1)
def goodFrom (a1 : Int) (l : List S54) : Nat → Nat → Bool
  | 0, _ => true
  | d + 1, i => goodAt a1 l i && goodFrom a1 l d (i + 1)
theorem goodFrom_all (a1 : Int) (l : List S54) : ∀ d i, goodFrom a1 l d i = true → ∀ j, i ≤ j → j < i + d → goodAt a1 l j = true := by
  intro d
  induction d with
  | zero => intro i _ j h1 h2; omega
  | succ d ih =>
    intro i h j h1 h2
    simp only [goodFrom, Bool.and_eq_true] at h
    rcases Nat.eq_or_lt_of_le h1 with rfl | h3
    · exact h.1
    · exact ih (i + 1) h.2 j (by omega) (by omega)
theorem good_nums {a1 : Int} {l : List S54} (hg : goodFrom a1 l l.length 0 = true) (hl : l.length ≤ 9223372036854775807) (h1 : wf64 a1) (hw : ∀ e ∈ l, entWf e) : ∀ (j : Nat) (h : j < l.length), l[j].f0 = a1 + 1 + j := by
  intro j h
  have h3 := goodFrom_all a1 l l.length 0 hg j (by omega) (by omega)
  simp only [goodAt, Bool.and_eq_true, decide_eq_true_eq] at h3
  rw [List.getD_eq_getElem?_getD, List.getElem?_eq_getElem h] at h3
  simp only [Option.getD_some] at h3
  have h2 := bounds_i64 (hw _ (List.getElem_mem h)).1
  have h4 := bounds_i64 h1
  obtain ⟨h5, h6⟩ := h3
  have e1 : wrap64 (l[j].f0 - 1) = l[j].f0 - 1 := by unfold wrap64; omega
  rw [e1] at h6
  unfold wrap64 at h6
  omega

/-- The records from the first entry on that the log doesn't hold. -/
def mergeOut (si st : Int) (es : List S54) (last : Int) : List S54 → List S57
  | [] => []
  | x :: xs => if freshR si st es x = true then (if x.f0 ≤ last then [cutR x] else []) ++ (x :: xs).map entR else mergeOut si st es last xs
theorem mergeOut_find (si st : Int) (es : List S54) (last : Int) : ∀ l : List S54, mergeOut si st es last l = match l.findIdx? (freshR si st es) with
    | some i => (if (rd_T54 l (i : Int)).f0 ≤ last then [cutR (rd_T54 l (i : Int))] else []) ++ (l.drop i).map entR
    | none => [] := by
  intro l
  induction l with
  | nil => rfl
  | cons x xs ih =>
    rw [List.findIdx?_cons]
    unfold mergeOut
    by_cases hx : freshR si st es x = true
    · rw [if_pos hx, if_pos hx]
      simp [rd_T54]
    · rw [if_neg hx, if_neg hx, ih]
      cases hf : xs.findIdx? (freshR si st es) with
      | none => rfl
      | some i =>
        have h1 : rd_T54 (x :: xs) ((i + 1 : Nat) : Int) = rd_T54 xs (i : Int) := by
          have : ((i : Int) + 1).toNat = i + 1 := by omega
          simp [rd_T54, this]
        simp only [Option.map_some]
        rw [h1]
        rfl

/-- What Merge answers. -/
def mergeR (si st : Int) (es : List S54) (a1 a2 : Int) (l : List S54) : List S57 × Int × Int :=
  if (lastP si st es).1 < a1 then ([], 0, 150) else if si ≤ a1 ∧ (termR si st es a1).1 ≠ a2 then ([], 0, 150) else (mergeOut si st es (lastP si st es).1 l, mx (wrap64 (a1 + (l.length : Int))) si, 0)

theorem merge_l1 (y : List S54) (hy : y.length ≤ 9223372036854775807) (hs : ∀ e ∈ y, entSmall e) (x18 : Int) : ∀ (d i k : Nat) (acc : List S57), i + d = y.length → d < k → acc.length + d < 703687441776 →
    raftlog_Merge.l1 k x18 acc y (y.length : Int) (i : Int) = some (acc ++ (y.drop i).map entR, x18, 0) := by
  intro d
  induction d with
  | zero =>
    intro i k acc h hk ha
    obtain ⟨k, rfl⟩ : ∃ m, k = m + 1 := ⟨k - 1, by omega⟩
    simp only [raftlog_Merge.l1]
    rw [if_neg (by omega), List.drop_of_length_le (by omega)]
    simp
  | succ d ih =>
    intro i k acc h hk ha
    obtain ⟨k, rfl⟩ : ∃ m, k = m + 1 := ⟨k - 1, by omega⟩
    have hi : i < y.length := by omega
    simp only [raftlog_Merge.l1]
    rw [if_pos (by omega), if_pos (by omega), if_pos (by omega), rd_at hi, own_eq' (hs _ (List.getElem_mem hi)), Option.bind_some, if_pos (by omega), wrap_succ hi hy]
    rw [ih (i + 1) k _ (by omega) (by omega) (by simp; omega), List.drop_eq_getElem_cons hi, List.map_cons, List.append_assoc]
    rfl

theorem fresh_si {si st : Int} {es : List S54} {x : S54} (h : freshR si st es x = true) : si < x.f0 := by
  simp only [freshR, Bool.and_eq_true, decide_eq_true_eq] at h
  exact h.1
theorem term_last {si st : Int} {es : List S54} (hn : ∀ (j : Nat) (h : j < es.length), es[j].f0 = si + 1 + j) {x : Int} (h : si < x) : (termR si st es x).2 = 0 ↔ x ≤ (lastP si st es).1 := by
  rw [termR_eq hn, last_num hn, if_neg (by omega)]
  unfold entAt
  rw [if_pos h]
  by_cases h1 : (x - si - 1).toNat < es.length
  · rw [List.getElem?_eq_getElem h1]
    simp
    omega
  · rw [List.getElem?_eq_none (by omega)]
    simp
    omega

theorem merge_j2 (k : Nat) (l : List S54) (hl : l.length ≤ 3000) (hs : ∀ e ∈ l, entSmall e) (x18 : Int) (i : Nat) (hi : i < l.length) (acc : List S57) (ha : acc.length ≤ 1) (hk : l.length + 1 < k) :
    raftlog_Merge.j2 k l x18 (i : Int) acc = some (acc ++ (l.drop i).map entR, x18, 0) := by
  obtain ⟨k, rfl⟩ : ∃ m, k = m + 1 := ⟨k - 1, by omega⟩
  simp only [raftlog_Merge.j2]
  rw [if_pos (by omega), if_pos (by omega)]
  have h1 : ((i : Int)).toNat = i := by omega
  simp only [Option.bind_some, h1]
  have := merge_l1 (l.drop i) (by simp; omega) (fun e he => hs e (List.mem_of_mem_drop he)) x18 (l.drop i).length 0 k acc (by omega) (by simp; omega) (by simp; omega)
  simpa using this

theorem merge_j1 (k : Nat) (t v si st : Int) (vo le : List Int) (da : ByteArray) (es l : List S54) (hl : l.length ≤ 3000) (hs : ∀ e ∈ l, entSmall e) (a1 last : Int) (hk : l.length + 2 < k) :
    raftlog_Merge.j1 k a1 l last false t v si st vo le da es = some (mergeOut si st es last l, mx (wrap64 (a1 + (l.length : Int))) si, 0) := by
  obtain ⟨k, rfl⟩ : ∃ m, k = m + 1 := ⟨k - 1, by omega⟩
  simp only [raftlog_Merge.j1, Bool.false_eq_true, if_false, api_Entry.f, Option.bind_some, indexR]
  rw [mergeOut_find]
  cases hf : l.findIdx? (freshR si st es) with
  | none => simp
  | some i =>
    have hi : i < l.length := (List.findIdx?_eq_some_iff_getElem.1 hf).1
    simp only
    rw [if_neg (by omega), if_pos (by omega), if_pos (by omega)]
    by_cases h1 : (rd_T54 l (i : Int)).f0 ≤ last
    · rw [if_pos h1, if_pos h1, if_pos (by simp)]
      exact merge_j2 k l hl hs _ i hi [cutR (rd_T54 l (i : Int))] (by simp) (by omega)
    · rw [if_neg h1, if_neg h1]
      exact merge_j2 k l hl hs _ i hi [] (by simp) (by omega)

theorem merge_l0 (t v si st : Int) (vo le : List Int) (da : ByteArray) (es : List S54) (a1 a2 : Int) (l : List S54) (hl : l.length ≤ 3000) (hs : ∀ e ∈ l, entSmall e) :
    ∀ (d i k : Nat) (x11 : Int), (x11 = 0 → chk si es = true) → i + d = l.length → d + l.length + 4 < k →
    raftlog_Merge.l0 k a1 a2 l x11 l (l.length : Int) (i : Int) t v si st vo le da es = some (if x11 = 0 ∧ goodFrom a1 l d i = true then mergeR si st es a1 a2 l else ([], 0, if x11 = 0 then 1 else if goodFrom a1 l d i = true then x11 else 1)) := by
  intro d
  induction d with
  | zero =>
    intro i k x11 hc h hk
    obtain ⟨k, rfl⟩ : ∃ m, k = m + 2 := ⟨k - 2, by omega⟩
    rw [raftlog_Merge.l0]
    rw [if_neg (by omega)]
    by_cases h0 : x11 = 0
    · rw [if_pos h0, if_pos ⟨h0, rfl⟩]
      simp only [raftlog_Last.f, raftlog_Term.f, hc h0, if_true, Option.bind_some, mergeR]
      by_cases h1 : a1 > (lastP si st es).1
      · rw [if_pos h1, if_pos h1]
        simp only [raftlog_Merge.j1, if_true]
      · rw [if_neg h1, if_neg h1]
        by_cases h2 : a1 ≥ si
        · rw [if_pos h2]
          by_cases h3 : (termR si st es a1).1 = a2
          · rw [if_neg (by simp [h3])]
            have : ((termR si st es a1).1 != a2) = false := by simp [h3]
            rw [this]
            exact merge_j1 (k + 1) t v si st vo le da es l hl hs a1 _ (by omega)
          · rw [if_pos ⟨h2, h3⟩]
            have : ((termR si st es a1).1 != a2) = true := by simp [h3]
            rw [this]
            simp only [raftlog_Merge.j1, if_true]
        · rw [if_neg h2, if_neg (by simp; omega)]
          exact merge_j1 (k + 1) t v si st vo le da es l hl hs a1 _ (by omega)
    · rw [if_neg h0, if_neg (by simp [h0]), if_neg h0]
      simp [goodFrom]
  | succ d ih =>
    intro i k x11 hc h hk
    obtain ⟨k, rfl⟩ : ∃ m, k = m + 1 := ⟨k - 1, by omega⟩
    have hi : i < l.length := by omega
    rw [raftlog_Merge.l0]
    rw [if_pos (by omega), if_pos (by omega), if_pos (by omega), wrap_succ hi (by omega)]
    have hg : rd_T54 l (i : Int) = l.getD i z54 := by simp [rd_T54]
    rw [hg]
    by_cases h1 : (l.getD i z54).f0 ≤ a1
    · rw [if_pos h1, ih (i + 1) k 1 (fun h => absurd h (by decide)) (by omega) (by omega)]
      have : goodFrom a1 l (d + 1) i = false := by 
          have h3 : goodAt a1 l i = false := by
            simp only [goodAt, Bool.and_eq_false_iff, decide_eq_false_iff_not]
            exact Or.inl (by omega)
          simp [goodFrom, h3]
      simp [this]
    · rw [if_neg h1]
      by_cases h2 : wrap64 (wrap64 ((l.getD i z54).f0 - 1) - (i : Int)) = a1
      · rw [if_pos h2, ih (i + 1) k x11 hc (by omega) (by omega)]
        have : goodFrom a1 l (d + 1) i = goodFrom a1 l d (i + 1) := by
          have h3 : goodAt a1 l i = true := by
            simp only [goodAt, Bool.and_eq_true, decide_eq_true_eq]
            exact ⟨by omega, h2⟩
          simp [goodFrom, h3]
        rw [this]
      · rw [if_neg h2, ih (i + 1) k 1 (fun h => absurd h (by decide)) (by omega) (by omega)]
        have : goodFrom a1 l (d + 1) i = false := by
          have h3 : goodAt a1 l i = false := by
            simp only [goodAt, Bool.and_eq_false_iff, decide_eq_false_iff_not]
            exact Or.inr h2
          simp [goodFrom, h3]
        simp [this]

/-- What Merge answers, in all. -/
def mergeAll (si st : Int) (es : List S54) (a1 a2 : Int) (l : List S54) : List S57 × Int × Int :=
  if chk si es = true ∧ goodFrom a1 l l.length 0 = true then mergeR si st es a1 a2 l else ([], 0, 1)

theorem merge_eq (k : Nat) (t v si st : Int) (vo le : List Int) (da : ByteArray) (es : List S54) (a1 a2 : Int) (l : List S54) (hl : l.length ≤ 3000) (hs : ∀ e ∈ l, entSmall e) (hk : es.length + 3 ≤ k) (hk2 : 2 * l.length + 4 < k) :
    raftlog_Merge.f k t v si st vo le da es a1 a2 l = some (mergeAll si st es a1 a2 l) := by
  simp only [raftlog_Merge.f, check_eq k t v si st vo le da es hk, Option.bind_some, mergeAll]
  have h := merge_l0 t v si st vo le da es a1 a2 l hl hs l.length 0 k (if chk si es = true then 0 else 1) (fun h => by
    by_cases hc : chk si es = true
    · exact hc
    · rw [if_neg hc] at h; cases h) (by omega) (by omega)
  rw [show ((0 : Nat) : Int) = 0 from rfl] at h
  rw [h]
  by_cases hc : chk si es = true
  · simp [hc]
  · simp [hc]

def endV (a1 : Int) (l : List S54) : Int := if (l.length : Int) > 0 then (rd_T54 l (wrap64 ((l.length : Int) - 1))).f0 else a1

theorem refMerge_more (t v si st : Int) (vo le : List Int) (da : ByteArray) (es : List S54) (hes : es.length ≤ 9223372036854775807) (hw : ∀ e ∈ es, entWf e) (a1 : Int) (l : List S54) (hl : l.length ≤ 3000) (hs : ∀ e ∈ l, entSmall e) :
    ∀ (d i k : Nat) (out : List S57), i + d = l.length → 2 * d + es.length + 6 < k → 0 < out.length → out.length + d < 703687441776 → (∀ (j : Nat) (h : j < l.length), i ≤ j → si < l[j].f0) →
    folkmootref16_Merge.l1 k a1 l out (i : Int) t v si st vo le da es = some (out ++ (l.drop i).map entR, mx (endV a1 l) si, 0) := by
  intro d
  induction d with
  | zero =>
    intro i k out h hk ho hm hi
    obtain ⟨k, rfl⟩ : ∃ m, k = m + 1 := ⟨k - 1, by omega⟩
    rw [folkmootref16_Merge.l1]
    rw [if_neg (by omega), List.drop_of_length_le (by omega)]
    unfold endV
    have e1 : 0 < l.length → wrap64 ((l.length : Int) - 1) = ((l.length - 1 : Nat) : Int) := fun h => by unfold wrap64; omega
    by_cases h0 : (l.length : Int) > 0
    · rw [if_pos h0, if_pos h0, e1 (by omega), if_pos (by omega), if_pos (by omega)]
      simp
    · rw [if_neg h0, if_neg h0]
      simp
  | succ d ih =>
    intro i k out h hk ho hm hgt
    obtain ⟨k, rfl⟩ : ∃ m, k = m + 2 := ⟨k - 2, by omega⟩
    have hi : i < l.length := by omega
    rw [folkmootref16_Merge.l1]
    rw [if_pos (by omega), if_pos (by omega), rd_at hi]
    have h1 := hgt i hi (Nat.le_refl _)
    rw [if_neg (by omega), refTerm_eq (k + 1) t v si st vo le da es l[i].f0 (by omega) hes hw, Option.bind_some, if_neg (by omega)]
    rw [folkmootref16_Merge.j3]
    simp only [Bool.false_eq_true, if_false]
    rw [if_neg (by omega), if_pos (by omega), if_pos (by omega), rd_at hi, entry_eq (hs _ (List.getElem_mem hi)), Option.bind_some, if_pos (by omega), wrap_succ hi (by omega)]
    rw [ih (i + 1) k _ (by omega) (by omega) (by simp) (by simp; omega) (fun j hj hij => hgt j hj (by omega)), List.drop_eq_getElem_cons hi, List.map_cons, List.append_assoc]
    rfl

theorem refMerge_l1 (t v si st : Int) (vo le : List Int) (da : ByteArray) (es : List S54) (hes : es.length ≤ 9223372036854775807) (hw : ∀ e ∈ es, entWf e) (hc : chk si es = true) (a1 : Int) (l : List S54) (hl : l.length ≤ 3000) (hs : ∀ e ∈ l, entSmall e) (hn : ∀ (j : Nat) (h : j < l.length), l[j].f0 = a1 + 1 + j) :
    ∀ (d i k : Nat), i + d = l.length → 2 * d + es.length + 6 < k →
    folkmootref16_Merge.l1 k a1 l [] (i : Int) t v si st vo le da es = some (mergeOut si st es (lastP si st es).1 (l.drop i), mx (endV a1 l) si, 0) := by
  intro d
  induction d with
  | zero =>
    intro i k h hk
    obtain ⟨k, rfl⟩ : ∃ m, k = m + 1 := ⟨k - 1, by omega⟩
    rw [folkmootref16_Merge.l1]
    rw [if_neg (by omega), List.drop_of_length_le (by omega)]
    unfold endV
    have e1 : 0 < l.length → wrap64 ((l.length : Int) - 1) = ((l.length - 1 : Nat) : Int) := fun h => by unfold wrap64; omega
    by_cases h0 : (l.length : Int) > 0
    · rw [if_pos h0, if_pos h0, e1 (by omega), if_pos (by omega), if_pos (by omega)]
      rfl
    · rw [if_neg h0, if_neg h0]
      rfl
  | succ d ih =>
    intro i k h hk
    obtain ⟨k, rfl⟩ : ∃ m, k = m + 2 := ⟨k - 2, by omega⟩
    have hi : i < l.length := by omega
    rw [folkmootref16_Merge.l1]
    rw [if_pos (by omega), if_pos (by omega), rd_at hi, List.drop_eq_getElem_cons hi]
    unfold mergeOut
    by_cases h1 : l[i].f0 ≤ si
    · have hf : ¬ freshR si st es l[i] = true := fun hf => by have := fresh_si hf; omega
      rw [if_pos h1, if_neg hf, wrap_succ hi (by omega), ih (i + 1) (k + 1) (by omega) (by omega)]
    · rw [if_neg h1, refTerm_eq (k + 1) t v si st vo le da es l[i].f0 (by omega) hes hw, Option.bind_some, if_pos hc]
      have hlast := term_last (st := st) (log_nums hc hw) (show si < l[i].f0 by omega)
      have hfr : freshR si st es l[i] = (decide ((termR si st es l[i].f0).2 ≠ 0) || decide ((termR si st es l[i].f0).1 ≠ l[i].f1)) := by
        unfold freshR
        rw [if_pos hc, show decide (si < l[i].f0) = true from decide_eq_true (by omega), Bool.true_and]
      have hmore := fun (out : List S57) (h0 : 0 < out.length) (h2 : out.length ≤ 2) => refMerge_more t v si st vo le da es hes hw a1 l hl hs d (i + 1) k out (by omega) (by omega) h0 (by omega) (fun j hj hij => by rw [hn j hj]; have := hn i hi; omega)
      rw [if_pos (by simp)]
      by_cases h2 : (termR si st es l[i].f0).2 = 0
      · rw [if_pos h2]
        by_cases h3 : (termR si st es l[i].f0).1 = l[i].f1
        · have hf : ¬ freshR si st es l[i] = true := by rw [hfr]; simp [h2, h3]
          rw [if_neg hf]
          have e3 : ((termR si st es l[i].f0).1 == l[i].f1) = true := by simpa using h3
          rw [e3, folkmootref16_Merge.j3, if_pos rfl, wrap_succ hi (by omega), ih (i + 1) k (by omega) (by omega)]
        · have hf : freshR si st es l[i] = true := by rw [hfr]; simp [h3]
          rw [if_pos hf, if_pos (hlast.1 h2)]
          have e3 : ((termR si st es l[i].f0).1 == l[i].f1) = false := by simpa using h3
          rw [e3, folkmootref16_Merge.j3]
          simp only [Bool.false_eq_true, if_false]
          rw [if_pos (by simp), if_pos h2, if_pos (by omega), if_pos (by omega), if_pos (by simp), Option.bind_some, rd_at hi, entry_eq (hs _ (List.getElem_mem hi)), Option.bind_some, if_pos (by simp), wrap_succ hi (by omega)]
          exact hmore [cutR l[i], entR l[i]] (by simp) (by simp)
      · rw [if_neg h2]
        have hf : freshR si st es l[i] = true := by rw [hfr]; simp [h2]
        rw [if_pos hf, if_neg (fun hx => h2 (hlast.2 hx))]
        rw [folkmootref16_Merge.j3]
        simp only [Bool.false_eq_true, if_false]
        rw [if_pos (by simp), if_neg h2, if_pos (by omega), if_pos (by omega), rd_at hi, entry_eq (hs _ (List.getElem_mem hi)), Option.bind_some, if_pos (by simp), wrap_succ hi (by omega)]
        exact hmore [entR l[i]] (by simp) (by simp)

theorem end_eq {a1 : Int} {l : List S54} (hl : l.length ≤ 3000) (h1 : wf64 a1) (hwl : ∀ e ∈ l, entWf e) (hn : ∀ (j : Nat) (h : j < l.length), l[j].f0 = a1 + 1 + j) : endV a1 l = wrap64 (a1 + (l.length : Int)) := by
  have b1 := bounds_i64 h1
  unfold endV
  by_cases h0 : (l.length : Int) > 0
  · have e1 : wrap64 ((l.length : Int) - 1) = ((l.length - 1 : Nat) : Int) := by unfold wrap64; omega
    have hi : l.length - 1 < l.length := by omega
    have b2 := bounds_i64 (hwl _ (List.getElem_mem hi)).1
    rw [if_pos h0, e1, rd_at hi]
    rw [hn _ hi] at b2 ⊢
    unfold wrap64
    omega
  · rw [if_neg h0]
    unfold wrap64
    omega

theorem refMerge_l0 (t v si st : Int) (vo le : List Int) (da : ByteArray) (es : List S54) (hes : es.length ≤ 9223372036854775807) (hw : ∀ e ∈ es, entWf e) (hc : chk si es = true) (a1 a2 : Int) (h1w : wf64 a1) (l : List S54) (hl : l.length ≤ 3000) (hs : ∀ e ∈ l, entSmall e) (hwl : ∀ e ∈ l, entWf e) :
    ∀ (d i k : Nat), i + d = l.length → (goodFrom a1 l d i = true → goodFrom a1 l l.length 0 = true) → d + 2 * l.length + es.length + 10 < k →
    folkmootref16_Merge.l0 k a1 a2 l (i : Int) t v si st vo le da es = some (if goodFrom a1 l d i = true then mergeR si st es a1 a2 l else ([], 0, 1)) := by
  intro d
  induction d with
  | zero =>
    intro i k h hall hk
    obtain ⟨k, rfl⟩ : ∃ m, k = m + 2 := ⟨k - 2, by omega⟩
    have hn := good_nums (hall rfl) (by omega) h1w hwl
    rw [folkmootref16_Merge.l0]
    rw [show goodFrom a1 l 0 i = true from rfl, if_pos rfl, if_neg (by omega), refLast_eq (k + 1) t v si st vo le da es (by omega) hes, Option.bind_some, if_pos hc]
    unfold mergeR
    have hl1 := refMerge_l1 t v si st vo le da es hes hw hc a1 l hl hs hn l.length 0 k (by omega) (by omega)
    rw [show ((0 : Nat) : Int) = 0 from rfl, List.drop_zero, end_eq hl h1w hwl hn] at hl1
    by_cases h1 : a1 > (lastP si st es).1
    · rw [if_pos h1, if_pos h1]
    · rw [if_neg h1, if_neg h1]
      by_cases h2 : a1 ≥ si
      · rw [if_pos h2, refTerm_eq (k + 1) t v si st vo le da es a1 (by omega) hes hw, Option.bind_some, if_pos hc]
        by_cases h3 : (termR si st es a1).1 = a2
        · rw [if_pos h3, if_neg (by simp [h3]), folkmootref16_Merge.j1]
          exact hl1
        · rw [if_neg h3, if_pos ⟨h2, h3⟩]
      · rw [if_neg h2, if_neg (by simp; omega), folkmootref16_Merge.j1]
        exact hl1
  | succ d ih =>
    intro i k h hall hk
    obtain ⟨k, rfl⟩ : ∃ m, k = m + 1 := ⟨k - 1, by omega⟩
    have hi : i < l.length := by omega
    have hg : rd_T54 l (i : Int) = l.getD i z54 := by simp [rd_T54]
    rw [folkmootref16_Merge.l0]
    rw [if_pos (by omega), if_pos (by omega), hg]
    by_cases h1 : (l.getD i z54).f0 ≤ a1
    · have h4 : goodFrom a1 l (d + 1) i = false := by
        have h3 : goodAt a1 l i = false := by
          simp only [goodAt, Bool.and_eq_false_iff, decide_eq_false_iff_not]
          exact Or.inl (by omega)
        simp [goodFrom, h3]
      rw [if_pos h1, h4]
      rfl
    · rw [if_neg h1]
      by_cases h2 : wrap64 (wrap64 ((l.getD i z54).f0 - 1) - (i : Int)) = a1
      · have h4 : goodFrom a1 l (d + 1) i = goodFrom a1 l d (i + 1) := by
          have h3 : goodAt a1 l i = true := by
            simp only [goodAt, Bool.and_eq_true, decide_eq_true_eq]
            exact ⟨by omega, h2⟩
          simp [goodFrom, h3]
        rw [if_pos h2, wrap_succ hi (by omega), ih (i + 1) k (by omega) (fun hx => hall (by rw [h4]; exact hx)) (by omega), h4]
      · have h4 : goodFrom a1 l (d + 1) i = false := by
          have h3 : goodAt a1 l i = false := by
            simp only [goodAt, Bool.and_eq_false_iff, decide_eq_false_iff_not]
            exact Or.inr h2
          simp [goodFrom, h3]
        rw [if_neg h2, h4]
        rfl

theorem refMerge_eq (k : Nat) (t v si st : Int) (vo le : List Int) (da : ByteArray) (es : List S54) (hes : es.length ≤ 9223372036854775807) (hw : ∀ e ∈ es, entWf e) (a1 a2 : Int) (h1w : wf64 a1) (l : List S54) (hl : l.length ≤ 3000) (hs : ∀ e ∈ l, entSmall e) (hwl : ∀ e ∈ l, entWf e)
    (hk : es.length + 3 * l.length + 10 < k) : folkmootref16_Merge.f k t v si st vo le da es a1 a2 l = some (mergeAll si st es a1 a2 l) := by
  simp only [folkmootref16_Merge.f, on_eq k t v si st vo le da es (by omega), Option.bind_some, mergeAll]
  by_cases hc : chk si es = true
  · have h := refMerge_l0 t v si st vo le da es hes hw hc a1 a2 h1w l hl hs hwl l.length 0 k (by omega) (fun h => h) (by omega)
    rw [show ((0 : Nat) : Int) = 0 from rfl] at h
    rw [if_pos hc, h]
    by_cases hg : goodFrom a1 l l.length 0 = true
    · rw [if_pos hg, if_pos ⟨hc, hg⟩]
    · rw [if_neg hg, if_neg (fun h => hg h.2)]
  · rw [if_neg hc, if_neg (fun h => hc h.1)]

/-- A record that can be compared within M rounds. -/
def recIn (M : Nat) (x : S57) : Prop := entSmall x.f3 ∧ entIn M x.f3 ∧ rowSmall x.f5.f2.f0.length ∧ x.f5.f2.f0.length < M ∧ rowSmall x.f5.f2.f1.length ∧ x.f5.f2.f1.length < M
theorem record_same (k : Nat) (x : S57) (h : recIn k x) : folkmootref16_Record.f k x.f0 x.f1 x.f2 x.f3.f0 x.f3.f1 x.f3.f2 x.f3.f3.f0 x.f3.f3.f1 x.f3.f4 x.f4 x.f5.f0 x.f5.f1 x.f5.f2.f0 x.f5.f2.f1 x.f5.f3 x.f0 x.f1 x.f2 x.f3.f0 x.f3.f1 x.f3.f2 x.f3.f3.f0 x.f3.f3.f1 x.f3.f4 x.f4 x.f5.f0 x.f5.f1 x.f5.f2.f0 x.f5.f2.f1 x.f5.f3 = some true := by
  obtain ⟨h1, h2, h3, h4, h5, h6⟩ := h
  simp [folkmootref16_Record.f, entries_same k x.f3 h1 h2, folkmootref15_Snaps.f, configs_same k _ _ h3 h4 h5 h6]
theorem recIn_le {M N : Nat} (h : M ≤ N) {e : S57} (he : recIn M e) : recIn N e := ⟨he.1, entIn_le h he.2.1, he.2.2.1, Nat.lt_of_lt_of_le he.2.2.2.1 h, he.2.2.2.2.1, Nat.lt_of_lt_of_le he.2.2.2.2.2 h⟩
theorem rd57_at {es : List S57} {i : Nat} (h : i < es.length) : rd_T57 es (i : Int) = es[i] := by simp [rd_T57, List.getElem?_eq_getElem h]
theorem records_l (es : List S57) (hl : es.length ≤ 9223372036854775807) (M : Nat) (hM : ∀ e ∈ es, recIn M e) : ∀ (d i k : Nat), i + d = es.length → d + M < k → folkmootref16_Records.l0 k es es (i : Int) = some true := by
  intro d
  induction d with
  | zero =>
    intro i k h hk
    obtain ⟨k, rfl⟩ : ∃ m, k = m + 1 := ⟨k - 1, by omega⟩
    simp only [folkmootref16_Records.l0]
    rw [if_neg (by omega)]
  | succ d ih =>
    intro i k h hk
    obtain ⟨k, rfl⟩ : ∃ m, k = m + 1 := ⟨k - 1, by omega⟩
    have hi : i < es.length := by omega
    simp only [folkmootref16_Records.l0]
    rw [if_pos (by omega), if_pos (by omega), if_pos (by omega), rd57_at hi, record_same k _ (recIn_le (by omega) (hM _ (List.getElem_mem hi))), Option.bind_some, if_pos rfl, wrap_succ hi (by omega)]
    exact ih (i + 1) k (by omega) (by omega)
theorem records_same (k : Nat) (es : List S57) (hl : es.length ≤ 9223372036854775807) (M : Nat) (hM : ∀ e ∈ es, recIn M e) (hk : es.length + M < k) : folkmootref16_Records.f k es es = some true := by
  simp only [folkmootref16_Records.f, if_true]
  exact records_l es hl M hM es.length 0 k (by omega) hk

theorem mergeOut_mem (si st : Int) (es : List S54) (last : Int) : ∀ l : List S54, (mergeOut si st es last l).length ≤ l.length + 1 ∧ ∀ r ∈ mergeOut si st es last l, ∃ x ∈ l, r = cutR x ∨ r = entR x := by
  intro l
  induction l with
  | nil => exact ⟨by simp [mergeOut], fun r h => by cases h⟩
  | cons x xs ih =>
    unfold mergeOut
    by_cases hx : freshR si st es x = true
    · rw [if_pos hx]
      refine ⟨?_, fun r hr => ?_⟩
      · by_cases h1 : x.f0 ≤ last
        · rw [if_pos h1]; simp
        · rw [if_neg h1]; simp
      · rcases List.mem_append.1 hr with h | h
        · by_cases h1 : x.f0 ≤ last
          · rw [if_pos h1] at h
            exact ⟨x, List.mem_cons_self .., .inl (by simpa using h)⟩
          · rw [if_neg h1] at h; cases h
        · obtain ⟨y, hy, rfl⟩ := List.mem_map.1 h
          exact ⟨y, hy, .inr rfl⟩
    · rw [if_neg hx]
      refine ⟨by have := ih.1; simp; omega, fun r hr => ?_⟩
      obtain ⟨y, hy, h⟩ := ih.2 r hr
      exact ⟨y, List.mem_cons_of_mem _ hy, h⟩
theorem mergeAll_mem (si st : Int) (es : List S54) (a1 a2 : Int) (l : List S54) : (mergeAll si st es a1 a2 l).1.length ≤ l.length + 1 ∧ ∀ r ∈ (mergeAll si st es a1 a2 l).1, ∃ x ∈ l, r = cutR x ∨ r = entR x := by
  unfold mergeAll mergeR
  split
  · split
    · exact ⟨by simp, fun r h => by cases h⟩
    · split
      · exact ⟨by simp, fun r h => by cases h⟩
      · exact mergeOut_mem si st es _ l
  · exact ⟨by simp, fun r h => by cases h⟩

theorem large_l1_false {k : Nat} {l : List S54} {n i : Int} (h : folkmootlaw16_large.l1 k l n i = some false) : n ≤ 3000 := by
  cases k with
  | zero => simp [folkmootlaw16_large.l1] at h
  | succ k =>
    simp only [folkmootlaw16_large.l1] at h
    by_cases h1 : n ≤ 3000
    · exact h1
    · exfalso
      by_cases h2 : i < (l.length : Int)
      · rw [if_pos h2, if_neg h1] at h; simp at h; omega
      · rw [if_neg h2] at h; simp at h; omega
theorem large_l0_false {k : Nat} {l : List S54} {n i t v si st : Int} {vo le : List Int} {da : ByteArray} {es : List S54} (h : folkmootlaw16_large.l0 k l n i t v si st vo le da es = some false) : n ≤ 3000 := by
  cases k with
  | zero => simp [folkmootlaw16_large.l0] at h
  | succ k =>
    rw [folkmootlaw16_large.l0] at h
    have hj : ∀ k, folkmootlaw16_large.j1 k l n = some false → n ≤ 3000 := fun k hk => by
      cases k with
      | zero => simp [folkmootlaw16_large.j1] at hk
      | succ k => exact large_l1_false (by simpa [folkmootlaw16_large.j1] using hk)
    by_cases h1 : n ≤ 3000
    · exact h1
    · by_cases h2 : i < (es.length : Int)
      · rw [if_pos h2, if_neg h1] at h; exact hj _ h
      · rw [if_neg h2] at h; exact hj _ h
theorem large_bound {k : Nat} {t v si st : Int} {vo le : List Int} {da : ByteArray} {es l : List S54} (h : folkmootlaw16_large.f k t v si st vo le da es l = some false) (h4 : rowSmall vo.length) (h5 : rowSmall le.length) (h7 : rowFew es.length) (h8 : rowFew l.length) : es.length + l.length ≤ 3000 := by
  have h1 := large_l0_false h
  have h4' : vo.length < 17592186044416 := h4
  have h5' : le.length < 17592186044416 := h5
  have h7' : es.length ≤ 1599289640401 := h7
  have h8' : l.length ≤ 1599289640401 := h8
  unfold wrap64 at h1
  omega
end Go.Proofs.Ytbjhjimkljbjlaa.PA
/- merges: the law's own calls of Merge, walked. -/
namespace Go.Proofs.Ytbjhjimkljbjlaa.PA
open Go.RowKit Go.Proofs.YtbjhjimkljbjlaaW.PrintWords Go.Proofs.YtbjhjimkljbjlaaW.PrintLast
set_option linter.unusedVariables false

def xOf (b : Int) : S54 := ⟨4, b, 0, ⟨[], []⟩, ⟨#[]⟩⟩
theorem C_one {W : World} {g t : Nat} {fr : Nat × Nat} (b : Int) (h : W.heap[g]? = some (.cells #[.int .i64 4, .int .i64 b, .int .i64 0, .slice none 0 0, .slice none 0 0, .string ⟨#[]⟩] t fr)) : Kd.C k54 W (some ⟨g, 0, none⟩) 1 [xOf b] := by
  refine ⟨rfl, by decide, fun _ => ⟨_, rfl, fun j p hj => ?_⟩⟩
  have hj0 : j = 0 := by
    have := (List.getElem?_eq_some_iff.1 hj).1
    simp at this
    exact this
  subst hj0
  simp at hj
  subst hj
  refine ⟨[.int .i64 4, .int .i64 b, .int .i64 0, .slice none 0 0, .slice none 0 0, .string ⟨#[]⟩], rfl, k54_mk W (xOf b) (A3 := none) (c3 := 0) (by simp [xOf]) ⟨rfl, by simp [xOf], fun h => absurd h (by simp [xOf])⟩ (A4 := none) (c4 := 0) (by simp [xOf]) ⟨rfl, by simp [xOf], fun h => absurd h (by simp [xOf])⟩, fun i u hu => ?_⟩
  have hi := (List.getElem?_eq_some_iff.1 hu).1
  have e1 : (Addr.add ⟨g, 0, none⟩ (0 * k54.sz + i)) = ⟨g, i, none⟩ := by
    unfold Addr.add
    by_cases h0 : i = 0
    · subst h0; simp
    · simp [h0]
  rw [e1]
  simp only [World.cell?, h]
  simpa using hu

set_option maxRecDepth 100000 in
set_option maxHeartbeats 8000000 in
theorem merges_calls (k : Nat) (r : List S57) (h1 : raftlog_Merge.f k 0 0 2 1 [] [] ⟨#[]⟩ one16 3 1 [xOf 3] = some (r, 4, 0)) (hr : r.length = 2) (hr0 : (rd_T57 r 0).f0 = 3) (hr1 : (rd_T57 r 0).f4 = 4) (hr2 : (rd_T57 r 1).f0 = 2)
    (h2 : raftlog_Merge.f k 0 0 2 1 [] [] ⟨#[]⟩ one16 3 1 [xOf 2] = some ([], 4, 0)) (h3 : raftlog_Merge.f k 0 0 2 1 [] [] ⟨#[]⟩ one16 3 2 [] = some ([], 0, 150)) (w : World) :
    Calls Try.prog 31 #[] w fun e w' => e = .returned (.bool true) ∧ Below w.heap.size w w' := by
  have cc1 : ∀ W, Calls Try.prog 37 #[] W fun e w' => ∃ O4 d4 O5 d5 O7 d7, e = .returned (.agg #[.int .i64 0, .int .i64 0, .int .i64 2, .int .i64 1, .slice O4 0 d4, .slice O5 0 d5, .string ⟨#[]⟩, .slice O7 2 d7]) ∧ LogIs w' O4 d4 [] O5 d5 [] O7 d7 one16 ∧ Below W.heap.size W w' := fun W => by
    refine (folkmootlaw16_one.calls _ _ _ _ _ _ _ _ W rfl).mono ?_
    rintro e w' ⟨v4, v5, v7, rfl, g4, g5, g7, hbw⟩
    obtain ⟨O4, d4, rfl, x4, y4⟩ := Kd.R_reads g4
    obtain ⟨O5, d5, rfl, x5, y5⟩ := Kd.R_reads g5
    obtain ⟨O7, d7, rfl, x7, y7⟩ := Kd.R_reads (Kd.S_R g7)
    exact ⟨O4, d4, O5, d5, O7, d7, rfl, ⟨y4, x4, y5, x5, y7, x7⟩, hbw⟩
  have cc2 : ∀ W O4 d4 O5 d5 O7 d7 g, LogIs W O4 d4 [] O5 d5 [] O7 d7 one16 → Kd.C k54 W (some ⟨g, 0, none⟩) 1 [xOf 3] → Calls Try.prog 28 #[.agg #[.int .i64 0, .int .i64 0, .int .i64 2, .int .i64 1, .slice O4 0 d4, .slice O5 0 d5, .string ⟨#[]⟩, .slice O7 2 d7], .int .i64 3, .int .i64 1, .slice (some ⟨g, 0, none⟩) 1 1] W fun e w' =>
      ∃ B cB, e = .returned (.tuple #[.slice B 2 cB, .int .i64 4, .int .i64 0]) ∧ 2 ≤ cB ∧ Kd.C k57 w' B 2 r ∧ Below W.heap.size W w' := fun W O4 d4 O5 d5 O7 d7 g H hg => by
    refine (raftlog_Merge.calls k _ _ _ _ _ _ _ _ _ _ _ _ _ _ 3 1 _ _ [xOf 3] r 4 0 W H.r4 H.h4 H.r5 H.h5 H.r7 H.h7 hg (by simp) h1).mono ?_
    rintro e w' ⟨v0, rfl, g, hbw⟩
    obtain ⟨B, cB, rfl, x7, y7⟩ := Kd.R_reads (Kd.S_R g)
    rw [hr] at x7 y7 ⊢
    exact ⟨B, cB, rfl, x7, y7, hbw⟩
  have cc3 : ∀ W O4 d4 O5 d5 O7 d7 g, LogIs W O4 d4 [] O5 d5 [] O7 d7 one16 → Kd.C k54 W (some ⟨g, 0, none⟩) 1 [xOf 2] → Calls Try.prog 28 #[.agg #[.int .i64 0, .int .i64 0, .int .i64 2, .int .i64 1, .slice O4 0 d4, .slice O5 0 d5, .string ⟨#[]⟩, .slice O7 2 d7], .int .i64 3, .int .i64 1, .slice (some ⟨g, 0, none⟩) 1 1] W fun e w' =>
      ∃ B cB, e = .returned (.tuple #[.slice B 0 cB, .int .i64 4, .int .i64 0]) ∧ Below W.heap.size W w' := fun W O4 d4 O5 d5 O7 d7 g H hg => by
    refine (raftlog_Merge.calls k _ _ _ _ _ _ _ _ _ _ _ _ _ _ 3 1 _ _ [xOf 2] [] 4 0 W H.r4 H.h4 H.r5 H.h5 H.r7 H.h7 hg (by simp) h2).mono ?_
    rintro e w' ⟨v0, rfl, g, hbw⟩
    obtain ⟨B, cB, rfl, x7, y7⟩ := Kd.R_reads (Kd.S_R g)
    exact ⟨B, cB, rfl, hbw⟩
  have cc4 : ∀ W O4 d4 O5 d5 O7 d7, LogIs W O4 d4 [] O5 d5 [] O7 d7 one16 → Calls Try.prog 28 #[.agg #[.int .i64 0, .int .i64 0, .int .i64 2, .int .i64 1, .slice O4 0 d4, .slice O5 0 d5, .string ⟨#[]⟩, .slice O7 2 d7], .int .i64 3, .int .i64 2, .slice none 0 0] W fun e w' =>
      ∃ B cB, e = .returned (.tuple #[.slice B 0 cB, .int .i64 0, .int .i64 150]) ∧ Below W.heap.size W w' := fun W O4 d4 O5 d5 O7 d7 H => by
    refine (raftlog_Merge.calls k _ _ _ _ _ _ _ _ _ _ _ _ _ _ 3 2 none 0 [] [] 0 150 W H.r4 H.h4 H.r5 H.h5 H.r7 H.h7 ⟨rfl, by simp, fun h => absurd h (by simp)⟩ (by simp) h3).mono ?_
    rintro e w' ⟨v0, rfl, g, hbw⟩
    obtain ⟨B, cB, rfl, x7, y7⟩ := Kd.R_reads (Kd.S_R g)
    exact ⟨B, cB, rfl, hbw⟩
  have C1 := Lib.hid cc1
  have C2 := Lib.hid cc2
  have C3 := Lib.hid cc3
  have C4 := Lib.hid cc4
  clear cc1 cc2 cc3 cc4 h1 h2 h3
  go_enter Try.func31, Try.ntmps31
  go_wp2_with fail
  refine (C1.out _).mono ?_
  rintro e w1 ⟨O4, d4, O5, d5, O7, d7, rfl, hL, b1⟩
  have HL := Lib.hid hL
  clear hL
  go_wp2_with fail
  obtain ⟨W1, hW1⟩ : ∃ W1, w1.alloc (.cells #[.int .i64 4, .int .i64 3, .int .i64 0, .slice none 0 0, .slice none 0 0, .string ⟨#[]⟩] 54) = W1 := ⟨_, rfl⟩
  have hb : Below w1.heap.size w1 W1 := by rw [← hW1]; exact (Below.refl _ _).alloc (Nat.le_refl _) _
  have hg : W1.heap[w1.heap.size]? = some (.cells #[.int .i64 4, .int .i64 3, .int .i64 0, .slice none 0 0, .slice none 0 0, .string ⟨#[]⟩] 54) := by rw [← hW1]; exact World.alloc_heap_new w1 _
  rw [hW1]
  clear hW1
  refine (C2.out _ _ _ _ _ _ _ _ (HL.out.below hb) (C_one 3 hg)).mono ?_
  rintro e w2 ⟨B, cB, rfl, x2, y2, hb2⟩
  have b2 : Below w.heap.size w w2 := (b1.trans (hb.mono b1.size)).trans (hb2.mono (Nat.le_trans b1.size hb.size))
  have Y2 := Lib.hid y2
  clear y2 hb2 hg hb HL b1
  go_wp2_with fail
  refine (C1.out _).mono ?_
  rintro e w3 ⟨P4, p4, P5, p5, P7, p7, rfl, hL, b3⟩
  have HL := Lib.hid hL
  have Y3 := Lib.hid (Kd.C_below Y2.out b3)
  have c3 := b2.trans (b3.mono b2.size)
  clear hL b3 b2 Y2
  go_wp2_with fail
  obtain ⟨W3, hW3⟩ : ∃ W3, w3.alloc (.cells #[.int .i64 4, .int .i64 2, .int .i64 0, .slice none 0 0, .slice none 0 0, .string ⟨#[]⟩] 54) = W3 := ⟨_, rfl⟩
  have hb : Below w3.heap.size w3 W3 := by rw [← hW3]; exact (Below.refl _ _).alloc (Nat.le_refl _) _
  have hg : W3.heap[w3.heap.size]? = some (.cells #[.int .i64 4, .int .i64 2, .int .i64 0, .slice none 0 0, .slice none 0 0, .string ⟨#[]⟩] 54) := by rw [← hW3]; exact World.alloc_heap_new w3 _
  rw [hW3]
  clear hW3
  refine (C3.out _ _ _ _ _ _ _ _ (HL.out.below hb) (C_one 2 hg)).mono ?_
  rintro e w4 ⟨E, cE, rfl, hb4⟩
  have Y4 := Lib.hid (Kd.C_below (Kd.C_below Y3.out hb) hb4)
  have c4 : Below w.heap.size w w4 := (c3.trans (hb.mono c3.size)).trans (hb4.mono (Nat.le_trans c3.size hb.size))
  clear hb4 hg hb HL c3 Y3
  go_wp2_with fail
  refine (C1.out _).mono ?_
  rintro e w5 ⟨Q4, k4, Q5, k5, Q7, k7, rfl, hL, b5⟩
  have HL := Lib.hid hL
  have Y5 := Lib.hid (Kd.C_below Y4.out b5)
  have c5 := c4.trans (b5.mono c4.size)
  clear hL b5 c4 Y4
  go_wp2_with fail
  refine (C4.out _ _ _ _ _ _ _ HL.out).mono ?_
  rintro e w6 ⟨E', cE', rfl, hb6⟩
  have Y6 := Kd.C_below Y5.out hb6
  have c6 := c5.trans (hb6.mono c5.size)
  clear hb6 HL c5 Y5
  obtain ⟨ad, rfl, p0, p9, u0⟩ : ∃ ad, B = some ad ∧ w6.cell? ad = some (.int .i64 3) ∧ w6.cell? ⟨ad.block, ad.off + 9, none⟩ = some (.int .i64 4) ∧ w6.cell? ⟨ad.block, ad.off + 15, none⟩ = some (.int .i64 2) := by
    have f0 := at_T57 Y6 0 (by decide) (by decide)
    have f1 := at_T57 Y6 1 (by decide) (by decide)
    obtain ⟨ad, _, _, _, _, _, _, _, _, rfl, p0, _, _, _, _, _, _, _, _, p9, _⟩ := f0
    obtain ⟨ad', _, _, _, _, _, _, _, _, e', u0, _⟩ := f1
    cases e'
    rw [hr0] at p0
    rw [hr1] at p9
    rw [hr2] at u0
    have e0 : ad.add (Int.toNat 0 * 15) = ad := by unfold Addr.add; simp
    rw [e0] at p0 p9
    have e1 : ad.add (Int.toNat 1 * 15) = ⟨ad.block, ad.off + 15, none⟩ := by unfold Addr.add; simp
    rw [e1] at u0
    exact ⟨ad, rfl, p0, p9, u0⟩
  clear Y6
  go_wp2
  go_ret
  exact ⟨rfl, c6⟩
end Go.Proofs.Ytbjhjimkljbjlaa.PA
/- The law RaftlogMerge, walked. -/
namespace Go.Proofs.Ytbjhjimkljbjlaa.PA
open Go.RowKit Go.Proofs.YtbjhjimkljbjlaaW.PrintWords Go.Proofs.YtbjhjimkljbjlaaW.PrintLast
set_option linter.unusedVariables false

/-- The blocks keep their types and sizes; all but rows of numbers stay. -/
structure Alike3 (base : Nat) (w wr : World) : Prop where
  below : Below base w wr
  cells : ∀ (k : Nat) (cs : Array Value) (t : TypeId) (fr : Nat × Nat), w.heap[k]? = some (.cells cs t fr) → ∃ cs', wr.heap[k]? = some (.cells cs' t fr) ∧ cs'.size = cs.size ∧ (t ≠ 3 → cs' = cs)
theorem Alike3.refl (base : Nat) (w : World) : Alike3 base w w := ⟨Below.refl _ _, fun k cs t fr h => ⟨cs, h, rfl, fun _ => rfl⟩⟩
theorem Alike3.set {base : Nat} {w wr : World} (h : Alike3 base w wr) {g j : Nat} (hg : base ≤ g) (v : Value) {ci : Array Value} {fr : Nat × Nat} (hi : w.heap[g]? = some (.cells ci 3 fr)) : Alike3 base w (wr.setCell ⟨g, j, none⟩ v) := by
  refine ⟨h.below.setCell (p := ⟨g, j, none⟩) hg _, fun k cs t fr hk => ?_⟩
  obtain ⟨cs', h1, h2, h3⟩ := h.cells k cs t fr hk
  by_cases e : k = g
  · subst e
    refine ⟨cs'.setIfInBounds j v, ?_, by simpa using h2, fun ht => ?_⟩
    · simp [World.setCell, Array.getElem?_modify, h1]
    · rw [hk] at hi
      cases hi
      exact absurd rfl ht
  · exact ⟨cs', (Below.heap_setCell wr ⟨g, j, none⟩ v k e).trans h1, h2, h3⟩

/-- Where each record's voters lie. -/
structure OverRecs (w : World) (base : Nat) (v : Value) (n : Nat) : Prop where
  nil : n = 0 → ∃ A c, v = .slice A 0 c
  pos : 0 < n → ∃ g cap cur, v = .slice (some ⟨g, 0, none⟩) n cap ∧ base ≤ g ∧ w.heap[g]? = some (.cells cur 57 (0, 0)) ∧ n * 15 ≤ cur.size ∧ n ≤ 9223372036854775807 ∧
    ∀ i, i < n → ∃ A m c, cur[i * 15 + 6]? = some (.slice A m c) ∧ m ≤ c ∧ (0 < m → ∃ gi ci, A = some ⟨gi, 0, none⟩ ∧ base ≤ gi ∧ w.heap[gi]? = some (.cells ci 3 (0, 0)) ∧ m ≤ ci.size ∧ m ≤ 9223372036854775807)

theorem over_recs {w : World} {base : Nat} {ok : Nat → Prop} {v : Value} {l : List S57} (h : Kd.R k57 57 w base ok v l) : OverRecs w base v l.length := by
  obtain ⟨h0, inner, ho, hr⟩ := h
  constructor
  · intro hn
    rcases ho.2 with ⟨rfl, _⟩ | ⟨g, cap, cur, rfl, _⟩
    · exact ⟨none, 0, rfl⟩
    · exact ⟨_, _, by rw [hn]⟩
  · intro hn
    rcases ho.2 with ⟨_, h1⟩ | ⟨g, cap, cur, rfl, hg, hh, hc1, hc2, hsz, htk⟩
    · omega
    · have hk : k57.sz = 15 := rfl
      rw [hk] at hsz htk hr ho
      have hle : l.length * 15 ≤ cur.size := by rw [hsz]; exact Nat.mul_le_mul_right _ hc1
      refine ⟨g, cap, cur, rfl, hg, hh, hle, by simp only [maxLen] at hc2; omega, fun i hi => ?_⟩
      obtain ⟨v6, v7, v12, v13, he, hv6, _⟩ := k57_openM (hr.2 i l[i] (List.getElem?_eq_getElem hi))
      have hcell : cur[i * 15 + 6]? = some v6 := by
        have h3 : ((inner.drop (i * 15)).take 15)[6]? = some v6 := by rw [he]; rfl
        rw [List.getElem?_take_of_lt (by omega), List.getElem?_drop, ← htk, List.getElem?_take_of_lt (by omega)] at h3
        simpa using h3
      obtain ⟨A, c, rfl, hlc, hC⟩ := Kd.R_reads hv6
      refine ⟨A, _, c, hcell, hlc, fun hm => ?_⟩
      obtain ⟨_, inner3, ho3, _⟩ := hv6
      rcases ho3.2 with ⟨e, _⟩ | ⟨gi, capi, curi, e, hgi, hhi, hci1, hci2, hszi, _⟩
      · injection e with _ e2 _
        omega
      · injection e with e1 _ _
        have hk1 : (Kd.int .i64).sz = 1 := rfl
        rw [hk1, Nat.mul_one] at hszi
        exact ⟨gi, curi, e1, hgi, hhi, by omega, by simp only [maxLen] at hci2; omega⟩

set_option maxRecDepth 100000 in
set_option maxHeartbeats 4000000 in
theorem lawMerge_large (t v si st : Int) (A4 : Option Addr) (c4 : Nat) (l4 : List Int) (A5 : Option Addr) (c5 : Nat) (l5 : List Int) (da : ByteArray) (A7 : Option Addr) (c7 : Nat) (l7 : List S54) (a1 a2 : Int) (A3 : Option Addr) (c3 : Nat) (l3 : List S54) (w : World) (hL : LogIs w A4 c4 l4 A5 c5 l5 A7 c7 l7) (hr3 : Kd.C k54 w A3 l3.length l3) (hc3 : l3.length ≤ c3)
    (k : Nat) (h1 : folkmootlaw16_large.f k t v si st l4 l5 da l7 l3 = some true) :
    Calls Try.prog 7 #[.agg #[.int .i64 t, .int .i64 v, .int .i64 si, .int .i64 st, .slice A4 l4.length c4, .slice A5 l5.length c5, .string da, .slice A7 l7.length c7], .int .i64 a1, .int .i64 a2, .slice A3 l3.length c3] w fun e w' => e = .returned (.bool true) ∧ Below w.heap.size w w' := by
  have cc1 : ∀ W, Below w.heap.size w W → Calls Try.prog 9 #[.agg #[.int .i64 t, .int .i64 v, .int .i64 si, .int .i64 st, .slice A4 l4.length c4, .slice A5 l5.length c5, .string da, .slice A7 l7.length c7], .slice A3 l3.length c3] W fun e w' => e = .returned (.bool true) ∧ Below W.heap.size W w' := fun W hb =>
    let H := hL.below hb
    folkmootlaw16_large.calls k _ _ _ _ _ _ _ _ _ _ _ _ _ _ _ _ _ true W H.r4 H.h4 H.r5 H.h5 H.r7 H.h7 (Kd.C_below hr3 hb) hc3 h1
  have C1 := Lib.hid cc1
  clear cc1 h1
  go_enter Try.func7, Try.ntmps7
  go_wp2_with fail
  have b1 : Below w.heap.size w (w.alloc (.cells #[.int .i64 t, .int .i64 v, .int .i64 si, .int .i64 st, .slice A4 l4.length c4, .slice A5 l5.length c5, .string da, .slice A7 l7.length c7] 30)) := (Below.refl _ _).alloc (Nat.le_refl _) _
  refine (C1.out _ b1).mono ?_
  rintro e w1 ⟨rfl, hb1⟩
  have b2 := b1.trans (hb1.mono (by simp))
  clear hb1 b1
  go_wp2
  go_ret
  exact ⟨rfl, b2⟩

set_option maxRecDepth 100000 in
set_option maxHeartbeats 16000000 in
theorem lawMerge_small (t v si st : Int) (A4 : Option Addr) (c4 : Nat) (l4 : List Int) (A5 : Option Addr) (c5 : Nat) (l5 : List Int) (da : ByteArray) (A7 : Option Addr) (c7 : Nat) (l7 : List S54) (a1 a2 : Int) (A3 : Option Addr) (c3 : Nat) (l3 : List S54) (w : World) (hL : LogIs w A4 c4 l4 A5 c5 l5 A7 c7 l7) (hr3 : Kd.C k54 w A3 l3.length l3) (hc3 : l3.length ≤ c3)
    (k : Nat) (r : List S57) (n0 e0 : Int) (h1 : folkmootlaw16_large.f k t v si st l4 l5 da l7 l3 = some false) (h2 : folkmootref15_Own.f k t v si st l4 l5 da l7 = some (t, v, si, st, l4, l5, da, l7)) (h2b : folkmootref15_Own.f k 0 0 0 0 [] [] ⟨#[]⟩ l3 = some (0, 0, 0, 0, [], [], ⟨#[]⟩, l3))
    (h3 : raftlog_Merge.f k t v si st l4 l5 da l7 a1 a2 l3 = some (r, n0, e0)) (h4 : folkmootref16_Merge.f k t v si st l4 l5 da l7 a1 a2 l3 = some (r, n0, e0)) (h5 : folkmootref16_Records.f k r r = some true)
    (h6 : ∀ W : World, Calls Try.prog 31 #[] W fun e w' => e = .returned (.bool true) ∧ Below W.heap.size W w') (h7 : folkmootref15_Same.f k t v si st l4 l5 da l7 t v si st l4 l5 da l7 = some true) (h8 : folkmootref16_Rows.f k l3 l3 = some true) :
    Calls Try.prog 7 #[.agg #[.int .i64 t, .int .i64 v, .int .i64 si, .int .i64 st, .slice A4 l4.length c4, .slice A5 l5.length c5, .string da, .slice A7 l7.length c7], .int .i64 a1, .int .i64 a2, .slice A3 l3.length c3] w fun e w' => e = .returned (.bool true) ∧ Below w.heap.size w w' := by
  have cc1 : ∀ W, Below w.heap.size w W → Calls Try.prog 9 #[.agg #[.int .i64 t, .int .i64 v, .int .i64 si, .int .i64 st, .slice A4 l4.length c4, .slice A5 l5.length c5, .string da, .slice A7 l7.length c7], .slice A3 l3.length c3] W fun e w' => e = .returned (.bool false) ∧ Below W.heap.size W w' := fun W hb =>
    let H := hL.below hb
    folkmootlaw16_large.calls k _ _ _ _ _ _ _ _ _ _ _ _ _ _ _ _ _ false W H.r4 H.h4 H.r5 H.h5 H.r7 H.h7 (Kd.C_below hr3 hb) hc3 h1
  have cc2 : ∀ W, Below w.heap.size w W → Calls Try.prog 21 #[.agg #[.int .i64 t, .int .i64 v, .int .i64 si, .int .i64 st, .slice A4 l4.length c4, .slice A5 l5.length c5, .string da, .slice A7 l7.length c7]] W fun e w' => ∃ O4 d4 O5 d5 O7 d7, e = .returned (.agg #[.int .i64 t, .int .i64 v, .int .i64 si, .int .i64 st, .slice O4 l4.length d4, .slice O5 l5.length d5, .string da, .slice O7 l7.length d7]) ∧ LogIs w' O4 d4 l4 O5 d5 l5 O7 d7 l7 ∧ Below W.heap.size W w' := fun W hb => by
    have H := hL.below hb
    refine (folkmootref15_Own.calls k _ _ _ _ _ _ _ _ _ _ _ _ _ _ t v si st l4 l5 da l7 W H.r4 H.h4 H.r5 H.h5 H.r7 H.h7 h2).mono ?_
    rintro e w' ⟨v4, v5, v7, rfl, g4, g5, g7, hbw⟩
    obtain ⟨O4, d4, rfl, x4, y4⟩ := Kd.R_reads g4
    obtain ⟨O5, d5, rfl, x5, y5⟩ := Kd.R_reads g5
    obtain ⟨O7, d7, rfl, x7, y7⟩ := Kd.R_reads (Kd.S_R g7)
    exact ⟨O4, d4, O5, d5, O7, d7, rfl, ⟨y4, x4, y5, x5, y7, x7⟩, hbw⟩
  have cc9 : ∀ W, Below w.heap.size w W → Calls Try.prog 21 #[.agg #[.int .i64 0, .int .i64 0, .int .i64 0, .int .i64 0, .slice none 0 0, .slice none 0 0, .string ⟨#[]⟩, .slice A3 l3.length c3]] W fun e w' => ∃ v4 v5 Z dz, e = .returned (.agg #[.int .i64 0, .int .i64 0, .int .i64 0, .int .i64 0, v4, v5, .string ⟨#[]⟩, .slice Z l3.length dz]) ∧ l3.length ≤ dz ∧ Kd.C k54 w' Z l3.length l3 ∧ Below W.heap.size W w' := fun W hb => by
    refine (folkmootref15_Own.calls k 0 0 0 0 none 0 [] none 0 [] ⟨#[]⟩ A3 c3 l3 0 0 0 0 [] [] ⟨#[]⟩ l3 W ⟨rfl, by simp, fun h => absurd h (by simp)⟩ (by simp) ⟨rfl, by simp, fun h => absurd h (by simp)⟩ (by simp) (Kd.C_below hr3 hb) hc3 h2b).mono ?_
    rintro e w' ⟨v4, v5, v7, rfl, g4, g5, g7, hbw⟩
    obtain ⟨O7, d7, rfl, x7, y7⟩ := Kd.R_reads (Kd.S_R g7)
    exact ⟨v4, v5, O7, d7, rfl, x7, y7, hbw⟩
  have cc3 : ∀ W, Below w.heap.size w W → Calls Try.prog 28 #[.agg #[.int .i64 t, .int .i64 v, .int .i64 si, .int .i64 st, .slice A4 l4.length c4, .slice A5 l5.length c5, .string da, .slice A7 l7.length c7], .int .i64 a1, .int .i64 a2, .slice A3 l3.length c3] W fun e w' => ∃ v0 : Value, e = .returned (.tuple #[v0, .int .i64 n0, .int .i64 e0]) ∧ Kd.R k57 57 w' W.heap.size (fun _ => True) v0 r ∧ Below W.heap.size W w' := fun W hb => by
    have H := hL.below hb
    refine (raftlog_Merge.calls k _ _ _ _ _ _ _ _ _ _ _ _ _ _ a1 a2 _ _ _ r n0 e0 W H.r4 H.h4 H.r5 H.h5 H.r7 H.h7 (Kd.C_below hr3 hb) hc3 h3).mono ?_
    rintro e w' ⟨v0, rfl, g, hbw⟩
    exact ⟨v0, rfl, Kd.S_R g, hbw⟩
  have cc4 : ∀ W O4 d4 O5 d5 O7 d7 Z dz, LogIs W O4 d4 l4 O5 d5 l5 O7 d7 l7 → Kd.C k54 W Z l3.length l3 → l3.length ≤ dz → Calls Try.prog 29 #[.agg #[.int .i64 t, .int .i64 v, .int .i64 si, .int .i64 st, .slice O4 l4.length d4, .slice O5 l5.length d5, .string da, .slice O7 l7.length d7], .int .i64 a1, .int .i64 a2, .slice Z l3.length dz] W fun e w' => ∃ B cB, e = .returned (.tuple #[.slice B r.length cB, .int .i64 n0, .int .i64 e0]) ∧ r.length ≤ cB ∧ Kd.C k57 w' B r.length r ∧ Below W.heap.size W w' := fun W O4 d4 O5 d5 O7 d7 Z dz H z1 z2 => by
    refine (folkmootref16_Merge.calls k _ _ _ _ _ _ _ _ _ _ _ _ _ _ a1 a2 _ _ _ r n0 e0 W H.r4 H.h4 H.r5 H.h5 H.r7 H.h7 z1 z2 h4).mono ?_
    rintro e w' ⟨v0, rfl, g, hbw⟩
    obtain ⟨B, cB, rfl, x7, y7⟩ := Kd.R_reads (Kd.S_R g)
    exact ⟨B, cB, rfl, x7, y7, hbw⟩
  have cc5 : ∀ W A c B d, Kd.C k57 W A r.length r → r.length ≤ c → Kd.C k57 W B r.length r → r.length ≤ d → Calls Try.prog 30 #[.slice A r.length c, .slice B r.length d] W fun e w' => e = .returned (.bool true) ∧ Below W.heap.size W w' := fun W A c B d x1 x2 x3 x4 =>
    folkmootref16_Records.calls k A c r B d r true W x1 x2 x3 x4 h5
  have cc7 : ∀ W O4 d4 O5 d5 O7 d7, Below w.heap.size w W → LogIs W O4 d4 l4 O5 d5 l5 O7 d7 l7 → Calls Try.prog 27 #[.agg #[.int .i64 t, .int .i64 v, .int .i64 si, .int .i64 st, .slice A4 l4.length c4, .slice A5 l5.length c5, .string da, .slice A7 l7.length c7], .agg #[.int .i64 t, .int .i64 v, .int .i64 si, .int .i64 st, .slice O4 l4.length d4, .slice O5 l5.length d5, .string da, .slice O7 l7.length d7]] W fun e w' => e = .returned (.bool true) ∧ Below W.heap.size W w' := fun W O4 d4 O5 d5 O7 d7 hb G =>
    let H := hL.below hb
    folkmootref15_Same.calls k _ _ _ _ _ _ _ _ _ _ _ _ _ _ _ _ _ _ _ _ _ _ _ _ _ _ _ _ true W H.r4 H.h4 H.r5 H.h5 H.r7 H.h7 G.r4 G.h4 G.r5 G.h5 G.r7 G.h7 h7
  have cc8 : ∀ W Z dz, Below w.heap.size w W → Kd.C k54 W Z l3.length l3 → l3.length ≤ dz → Calls Try.prog 24 #[.slice A3 l3.length c3, .slice Z l3.length dz] W fun e w' => e = .returned (.bool true) ∧ Below W.heap.size W w' := fun W Z dz hb z1 z2 =>
    folkmootref16_Rows.calls k A3 c3 l3 Z dz l3 true W (Kd.C_below hr3 hb) hc3 z1 z2 h8
  have C1 := Lib.hid cc1
  have C2 := Lib.hid cc2
  have C9 := Lib.hid cc9
  have C3 := Lib.hid cc3
  have C4 := Lib.hid cc4
  have C5 := Lib.hid cc5
  have C6 := Lib.hid h6
  have C7 := Lib.hid cc7
  have C8 := Lib.hid cc8
  clear cc1 h1 cc2 h2 cc3 h3 cc4 h4 cc5 h5 h6 cc7 h7 cc8 h8 cc9 h2b hr3
  have hfd : ∀ (v4 v5 : Value) (Z : Option Addr) (n dz : Nat) (W : World), (Instr.field 30 (.agg #[.int .i64 0, .int .i64 0, .int .i64 0, .int .i64 0, v4, v5, .string ⟨#[]⟩, .slice Z n dz]) 3).run Try.prog W = .ok (.slice Z n dz) W := fun _ _ _ _ _ _ => by kernel_rfl
  go_enter Try.func7, Try.ntmps7
  go_wp2_with fail
  have b1 : Below w.heap.size w (w.alloc (.cells #[.int .i64 t, .int .i64 v, .int .i64 si, .int .i64 st, .slice A4 l4.length c4, .slice A5 l5.length c5, .string da, .slice A7 l7.length c7] 30)) := (Below.refl _ _).alloc (Nat.le_refl _) _
  have k1 : (w.alloc (.cells #[.int .i64 t, .int .i64 v, .int .i64 si, .int .i64 st, .slice A4 l4.length c4, .slice A5 l5.length c5, .string da, .slice A7 l7.length c7] 30)).heap[w.heap.size]? = some (.cells #[.int .i64 t, .int .i64 v, .int .i64 si, .int .i64 st, .slice A4 l4.length c4, .slice A5 l5.length c5, .string da, .slice A7 l7.length c7] 30) := World.alloc_heap_new w _
  refine (C1.out _ b1).mono ?_
  rintro e w1 ⟨rfl, hb1⟩
  have b2 := b1.trans (hb1.mono (by simp))
  have k2 := (hb1.block _ (by simp)).trans k1
  clear hb1 b1 k1
  obtain ⟨q0, q1, q2, q3, q4, q5, q6, q7⟩ := cells8 k2
  go_wp2_with fail
  refine (C2.out _ b2).mono ?_
  rintro e w2 ⟨O4, d4, O5, d5, O7, d7, rfl, hO, hb1⟩
  have b3 := b2.trans (hb1.mono b2.size)
  have k3 := (hb1.block _ (blk_lt k2)).trans k2
  clear q0 q1 q2 q3 q4 q5 q6 q7 hb1 b2 k2
  have HO := Lib.hid hO
  clear hO
  go_wp2_with fail
  obtain ⟨W3, hW3⟩ : ∃ W3, w2.alloc (.cells #[.int .i64 t, .int .i64 v, .int .i64 si, .int .i64 st, .slice O4 l4.length d4, .slice O5 l5.length d5, .string da, .slice O7 l7.length d7] 30) = W3 := ⟨_, rfl⟩
  have hb3 : Below w2.heap.size w2 W3 := by rw [← hW3]; exact (Below.refl _ _).alloc (Nat.le_refl _) _
  have hz3 : W3.heap.size = w2.heap.size + 1 := by rw [← hW3]; simp
  have o3 : W3.heap[w2.heap.size]? = some (.cells #[.int .i64 t, .int .i64 v, .int .i64 si, .int .i64 st, .slice O4 l4.length d4, .slice O5 l5.length d5, .string da, .slice O7 l7.length d7] 30) := by rw [← hW3]; exact World.alloc_heap_new w2 _
  have k4 := (hb3.block _ (blk_lt k3)).trans k3
  have b4 := b3.trans (hb3.mono b3.size)
  have HO3 := Lib.hid (HO.out.below hb3)
  rw [hW3]
  clear hb3 hW3 b3 k3 HO
  refine (C9.out _ b4).mono ?_
  rintro e w4 ⟨v4, v5, Z, dz, rfl, z1, z2, hb4⟩
  have k5 := (hb4.block _ (blk_lt k4)).trans k4
  have o4 := (hb4.block _ (blk_lt o3)).trans o3
  have b5 := b4.trans (hb4.mono b4.size)
  have HO4 := Lib.hid (HO3.out.below hb4)
  have ZZ := Lib.hid z2
  have hkB := blk_lt k4
  clear z2 hb4 k4 o3 HO3
  obtain ⟨q0, q1, q2, q3, q4, q5, q6, q7⟩ := cells8 k5
  go_wp2_with fail
  refine (C3.out _ b5).mono ?_
  rintro e w5 ⟨v0, rfl, g5, hb5⟩
  obtain ⟨Y0, cY0, hv0, x1, x2⟩ := Kd.R_reads g5
  subst hv0
  have k6 := (hb5.block _ (blk_lt k5)).trans k5
  have o5 := (hb5.block _ (blk_lt o4)).trans o4
  have b6 := b5.trans (hb5.mono b5.size)
  have HB5 := Lib.hid hb5
  have HO5 := Lib.hid (HO4.out.below hb5)
  have Z5 := Lib.hid (Kd.C_below ZZ.out hb5)
  have X2 := Lib.hid x2
  have G5 := Lib.hid g5
  have hkO := blk_lt o4
  have hkK := blk_lt k5
  clear q0 q1 q2 q3 q4 q5 q6 q7 x2 g5 hb5 k5 o4
  obtain ⟨q0, q1, q2, q3, q4, q5, q6, q7⟩ := cells8 o5
  go_wp2_with fail
  refine (C4.out _ _ _ _ _ _ _ _ _ HO5.out Z5.out z1).mono ?_
  rintro e w6 ⟨B, cB, rfl, y1, y2, hb6⟩
  have k7 := (hb6.block _ (blk_lt k6)).trans k6
  have o6 := (hb6.block _ (blk_lt o5)).trans o5
  have b7 := b6.trans (hb6.mono b6.size)
  have HB6 := Lib.hid (HB5.out.trans (hb6.mono HB5.out.size))
  have X3 := Lib.hid (Kd.C_below X2.out hb6)
  have Y3 := Lib.hid y2
  have G6 := Lib.hid (Kd.R_below G5.out hb6)
  clear q0 q1 q2 q3 q4 q5 q6 q7 y2 hb6 k6 o5 b6
  go_wp2_with fail
  refine (C5.out _ _ _ _ _ X3.out x1 Y3.out y1).mono ?_
  rintro e w7 ⟨rfl, hb7⟩
  have k8 := (hb7.block _ (blk_lt k7)).trans k7
  have o7 := (hb7.block _ (blk_lt o6)).trans o6
  have b8 := b7.trans (hb7.mono b7.size)
  have HB7 := Lib.hid (HB6.out.trans (hb7.mono HB6.out.size))
  have OVR := Lib.hid (over_recs (Kd.R_below G6.out hb7))
  have K8 := Lib.hid (And.intro k8 o7)
  have B8 := Lib.hid b8
  have hb5s := b5.size
  clear hb7 k7 o6 b7 k8 o7 b8 G5 G6 X2 X3 Y3 HB5 HB6 Z5 HO5
  go_wp2
  go_loopw [18, 19] (fun i _ wr => ∃ q : Nat, q ≤ r.length ∧ i = .int .i64 q ∧ Alike3 w4.heap.size w7 wr) (fun i _ _ => r.length - (intOf i).toNat)
  case atStart => exact ⟨0, Nat.zero_le _, rfl, Alike3.refl _ _⟩
  case round =>
    obtain ⟨q, hq, rfl, hA⟩ := hrel
    have HA := Lib.hid hA
    clear hA
    by_cases hlt : q < r.length
    · obtain ⟨g, cap, cur, hv, hg, hh, hsz, hmax, hrow⟩ := OVR.out.pos (by omega)
      injection hv with hv1 hv2 hv3
      subst hv1
      clear hv2 hv3
      obtain ⟨A, m, c, hcell, hmc, hpos⟩ := hrow q hlt
      have HPOS := Lib.hid hpos
      have hm9 : m ≤ 9223372036854775807 := by
        rcases Nat.eq_zero_or_pos m with h | h
        · omega
        · obtain ⟨gi, ci, _, _, _, _, h9⟩ := hpos h
          exact h9
      have row6 : ∀ wq, Alike3 w4.heap.size w7 wq → wq.cell? ⟨g, q * 15 + 6, none⟩ = some (.slice A m c) := fun wq h => by
        obtain ⟨cq, q1, q2, q3⟩ := h.cells g cur 57 (0, 0) hh
        simp only [World.cell?, q1]
        rw [q3 (by decide)]
        simpa using hcell
      have ROW6 := Lib.hid row6
      clear row6 hcell hpos hrow hh
      go_wp2_with fail
      go_loopw [19] (fun j wq => ∃ p : Nat, p ≤ m ∧ j = .int .i64 p ∧ Alike3 w4.heap.size w7 wq) (fun j _ => m - (intOf j).toNat)
      case atStart => exact ⟨0, Nat.zero_le _, rfl, HA.out⟩
      case round =>
        obtain ⟨p, hp, rfl, hA⟩ := hrel
        have HQ := Lib.hid hA
        clear hA
        have z6 := ROW6.out _ HQ.out
        by_cases hltq : p < m
        · obtain ⟨gi, ci, rfl, hgi, hhi, hmi, _⟩ := HPOS.out (by omega)
          obtain ⟨ci', d1, d2, _⟩ := HQ.out.cells gi ci 3 (0, 0) hhi
          have g5 : wr.frozen? ⟨gi, p, none⟩ = false := by simp [World.frozen?, d1]
          obtain ⟨xq, e5⟩ : ∃ x, wr.cell? ⟨gi, p, none⟩ = some x := ⟨ci'[p]'(by omega), by simp [World.cell?, d1]⟩
          have A2 := Lib.hid (HQ.out.set (g := gi) (j := p) hgi (.int .i64 77) hhi)
          clear HQ d1 d2
          go_wp2
          go_roundw
          case rel => exact ⟨p + 1, by omega, by simp, A2.out⟩
          case measure => simp [intOf]; omega
        · have : p = m := by omega
          go_wp2
          go_roundw
          case rel => exact ⟨q + 1, by omega, by simp, HQ.out⟩
          case measure => simp [intOf]; omega
    · have : q = r.length := by omega
      have hA := HA.out
      have b9 : Below w.heap.size w wr := B8.out.trans (hA.below.mono hb5s)
      have k9 := (hA.below.block _ hkK).trans K8.out.1
      have o8 := (hA.below.block _ hkO).trans K8.out.2
      have HB8 := Lib.hid (HB7.out.trans hA.below)
      clear hA HA OVR K8 B8
      go_wp2_with fail
      refine (C6.out _).mono ?_
      rintro e w8 ⟨rfl, hb8⟩
      have k10 := (hb8.block _ (blk_lt k9)).trans k9
      have o9 := (hb8.block _ (blk_lt o8)).trans o8
      have b10 := b9.trans (hb8.mono b9.size)
      have HB9 := Lib.hid (HB8.out.trans (hb8.mono HB8.out.size))
      clear hb8 k9 o8 b9 HB8
      obtain ⟨q0, q1, q2, q3, q4, q5, q6, q7⟩ := cells8 o9
      obtain ⟨r0, r1, r2, r3, r4, r5, r6, r7⟩ := cells8 k10
      go_wp2_with fail
      refine (C7.out _ _ _ _ _ _ _ b10 (HO4.out.below HB9.out)).mono ?_
      rintro e w9 ⟨rfl, hb9⟩
      have b11 := b10.trans (hb9.mono b10.size)
      have HB10 := Lib.hid (HB9.out.trans (hb9.mono HB9.out.size))
      clear q0 q1 q2 q3 q4 q5 q6 q7 r0 r1 r2 r3 r4 r5 r6 r7 hb9 b10 k10 o9
      go_wp2_with fail
      refine (C8.out _ _ _ b11 (Kd.C_below ZZ.out HB10.out) z1).mono ?_
      rintro e w10 ⟨rfl, hb10⟩
      have b12 := b11.trans (hb10.mono b11.size)
      clear hb10 b11
      go_wp2
      go_ret
      exact ⟨rfl, b12⟩
end Go.Proofs.Ytbjhjimkljbjlaa.PA
/- RaftlogMerge: for every log, numbers and entries the call returns true. -/
namespace Go.Proofs.Ytbjhjimkljbjlaa.PA
open Go.RowKit Go.Proofs.YtbjhjimkljbjlaaW.PrintWords Go.Proofs.YtbjhjimkljbjlaaW.PrintLast

theorem xOf_ok (b : Int) (hb : wf64 b) : ∀ e ∈ [xOf b], entWf e ∧ entSmall e := by
  intro e he
  simp only [List.mem_cons, List.not_mem_nil, or_false] at he
  subst he
  exact ⟨⟨by show (Lit.int .i64 4).wf = true; decide, hb, by show (Lit.int .i64 0).wf = true; decide⟩, ⟨show (0 : Nat) < _ by decide, show (0 : Nat) < _ by decide⟩⟩
theorem chk_one16 : chk 2 one16 = true := chk_one
theorem all1 : mergeAll 2 1 one16 3 1 [xOf 3] = ([cutR (xOf 3), entR (xOf 3)], 4, 0) := by
  simp only [mergeAll, chk_one16, mergeR, mergeOut, freshR, if_true]
  simp [goodFrom, goodAt, xOf, lastP, termR, backL, one16, wrap64, mx]
theorem all2 : mergeAll 2 1 one16 3 1 [xOf 2] = ([], 4, 0) := by
  simp only [mergeAll, chk_one16, mergeR, mergeOut, freshR, if_true]
  simp [goodFrom, goodAt, xOf, lastP, termR, backL, one16, wrap64, mx]
theorem all3 : mergeAll 2 1 one16 3 2 [] = ([], 0, 150) := by
  simp only [mergeAll, chk_one16, mergeR, mergeOut, if_true]
  simp [goodFrom, lastP, termR, backL, one16]

theorem merges_true (W : World) : Calls Try.prog 31 #[] W fun e w' => e = .returned (.bool true) ∧ Below W.heap.size W w' := by
  have b3 := fun e he => (xOf_ok 3 (show (Lit.int .i64 3).wf = true by decide) e he).2
  have b2 := fun e he => (xOf_ok 2 (show (Lit.int .i64 2).wf = true by decide) e he).2
  have h1 := merge_eq 20 0 0 2 1 [] [] ⟨#[]⟩ one16 3 1 [xOf 3] (by simp) b3 (by simp [one16]) (by simp)
  have h2 := merge_eq 20 0 0 2 1 [] [] ⟨#[]⟩ one16 3 1 [xOf 2] (by simp) b2 (by simp [one16]) (by simp)
  have h3 := merge_eq 20 0 0 2 1 [] [] ⟨#[]⟩ one16 3 2 [] (by simp) (fun e he => by cases he) (by simp [one16]) (by simp)
  rw [all1] at h1
  rw [all2] at h2
  rw [all3] at h3
  exact merges_calls 20 _ h1 rfl rfl rfl rfl h2 h3 W

theorem law7 (t v si st : Int) (A4 : Option Addr) (c4 : Nat) (l4 : List Int) (A5 : Option Addr) (c5 : Nat) (l5 : List Int) (da : ByteArray) (A7 : Option Addr) (c7 : Nat) (l7 : List S54) (a1 a2 : Int) (A3 : Option Addr) (c3 : Nat) (l3 : List S54) (w : World) (hL : LogIs w A4 c4 l4 A5 c5 l5 A7 c7 l7)
    (hw : wf64 si ∧ wf64 st ∧ ∀ e ∈ l7, entWf e) (h4 : rowSmall l4.length) (h5 : rowSmall l5.length) (h7 : rowFew l7.length) (hs : ∀ e ∈ l7, entSmall e) (h1 : wf64 a1) (hr3 : Kd.C k54 w A3 l3.length l3) (hc3 : l3.length ≤ c3) (hwl : ∀ e ∈ l3, entWf e) (h8 : rowFew l3.length) (hsl : ∀ e ∈ l3, entSmall e) :
    Calls Try.prog 7 #[.agg #[.int .i64 t, .int .i64 v, .int .i64 si, .int .i64 st, .slice A4 l4.length c4, .slice A5 l5.length c5, .string da, .slice A7 l7.length c7], .int .i64 a1, .int .i64 a2, .slice A3 l3.length c3] w fun e w' => e = .returned (.bool true) ∧ Below w.heap.size w w' := by
  obtain ⟨M, hM⟩ := entIn_all l7
  obtain ⟨N, hN⟩ := entIn_all l3
  have h7' : l7.length ≤ 1599289640401 := h7
  have h8' : l3.length ≤ 1599289640401 := h8
  obtain ⟨k, hk⟩ : ∃ k, k = 3 * l7.length + 4 * l3.length + M + N + l4.length + l5.length + 50 := ⟨_, rfl⟩
  obtain ⟨b, hb⟩ := large_some k t v si st l4 l5 da l7 l3 (by omega) (by omega) (by omega)
  cases b with
  | true => exact lawMerge_large t v si st A4 c4 l4 A5 c5 l5 da A7 c7 l7 a1 a2 A3 c3 l3 w hL hr3 hc3 k hb
  | false =>
    have hle := large_bound hb h4 h5 h7 h8
    obtain ⟨m1, m2⟩ := mergeAll_mem si st l7 a1 a2 l3
    refine lawMerge_small t v si st A4 c4 l4 A5 c5 l5 da A7 c7 l7 a1 a2 A3 c3 l3 w hL hr3 hc3 k (mergeAll si st l7 a1 a2 l3).1 (mergeAll si st l7 a1 a2 l3).2.1 (mergeAll si st l7 a1 a2 l3).2.2 hb (ownLog_eq k t v si st l4 l5 da l7 (by omega) h4 h5 h7 hs)
      (ownLog_eq k 0 0 0 0 [] [] ⟨#[]⟩ l3 (by omega) (show (0 : Nat) < _ by decide) (show (0 : Nat) < _ by decide) h8 hsl)
      (merge_eq k t v si st l4 l5 da l7 a1 a2 l3 (by omega) hsl (by omega) (by omega)) (refMerge_eq k t v si st l4 l5 da l7 (by omega) hw.2.2 a1 a2 h1 l3 (by omega) hsl hwl (by omega))
      (records_same k _ (by omega) (N + 1) (fun r hr => ?_) (by omega)) merges_true (same_eq k t v si st l4 l5 da l7 h4 h5 h7 hs M hM (by omega) (by omega) (by omega)) (rows_same k l3 h8 hsl N hN (by omega))
    have z : rowSmall (0 : Nat) := show (0 : Nat) < _ by decide
    obtain ⟨x, hx, rfl | rfl⟩ := m2 r hr
    · exact ⟨⟨z, z⟩, ⟨Nat.succ_pos _, Nat.succ_pos _⟩, z, Nat.succ_pos _, z, Nat.succ_pos _⟩
    · exact ⟨hsl x hx, entIn_le (by omega) (hN x hx), z, Nat.succ_pos _, z, Nat.succ_pos _⟩
end Go.Proofs.Ytbjhjimkljbjlaa.PA
