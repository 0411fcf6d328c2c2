/- Texts put together: CtD, CtE, RefGot, RefGetMachine, Keep, BytesBase, LawWireMachineBytes. -/
import Derived.Test.YtoomcdgnnibjlaaGreatBmc
import Derived.Test.YtoomcdgnnibjlaaGreatBmb
import Derived.Test.YtoomcdgnnibjlaaGreatBma
import Derived.Laws.CopyOwn
import Derived.Deep.Cut
/- The document's reader: tables, objects, a catalog. -/
namespace Go.Proofs.YtoomcdgnnibjlaaGreat.Wr
open Go.RowKit Go.Proofs.YtoomcdgnnibjlaaGreatW.PrintWords Go.Proofs.YtoomcdgnnibjlaaGreatW.PrintLast
set_option linter.unusedVariables false
set_option linter.unusedSimpArgs false

set_option maxRecDepth 100000 in
set_option maxHeartbeats 16000000 in
theorem ct_Table {w0 w : World} {g1 g2 c p0 : Nat} {A : Option Addr} {B : Bs} {b0 : Bool} (h : CAt w0 w g1 g2 A c B p0 b0) :
    Calls Tryz.prog 80 #[.pointer (some ⟨g2, 0, none⟩)] w (CDone dTable (POf kTable w) w0 g1 g2 A c B w p0 b0) := by
  obtain ⟨V1, hV0, hth, hV1, hr0, hx0, hbl⟩ := two_boxes (w := w) (t := 134) (zs := [.string ⟨#[]⟩, .string ⟨#[]⟩, .string ⟨#[]⟩, .slice none 0 0, .slice none 0 0]) rfl
  have HSZ := Lib.hid h.below.size
  have S0 := Lib.hid (h.stays hbl)
  have T0 := Lib.hid (Stp.below (S := SC) hbl)
  have Br := Lib.hid hr0
  have Bx := Lib.hid hx0
  have HV0 := Lib.hid hV0
  have HV1 := Lib.hid hV1
  have HTH0 := Lib.hid hth
  clear h hV0 hth hV1 hr0 hx0 hbl
  go_enter Tryz.func80, Tryz.ntmps80
  have HZ := Lib.hid (all_oneCell_toArray (kTable.K_one (kTable.K_of_M (w := w) (base := 0) (ok := fun _ => True) (mkMTable ((⟨#[]⟩ : ByteArray), (⟨#[]⟩ : ByteArray), (⟨#[]⟩ : ByteArray), [], []) (Kd.R_nil _ _ _ _ _) (Kd.R_nil _ _ _ _ _)))))
  go_wp2_with (((with_reducible refine gate_store (t := 134) rfl ?_); rw [show (w.alloc (.cells #[.string ⟨#[]⟩, .string ⟨#[]⟩, .string ⟨#[]⟩, .slice none 0 0, .slice none 0 0] 134)).alloc (.cells #[.string ⟨#[]⟩, .string ⟨#[]⟩, .string ⟨#[]⟩, .slice none 0 0, .slice none 0 0] 134) = V1 from HV0.out]; refine wpList_store_mid rfl 134 _ _ rfl (w.heap.size + 1) 0 #[.string ⟨#[]⟩, .string ⟨#[]⟩, .string ⟨#[]⟩, .slice none 0 0, .slice none 0 0] rfl rfl HTH0.out (by kernel_rfl) HZ.out ?_; (first | rw [HV1.out] | (erw [HV1.out]))))
  try rw [HV0.out]
  clear HV0 HV1 HTH0 HZ
  refine (ct_text S0.out).mono ?_
  rintro e y1 ⟨_, p1, b1, rfl, ⟨x1, rfl⟩, S', T', hr⟩
  have Br' := T'.keep Br.out (by decide)
  have Bx' := T'.keep Bx.out (by decide)
  clear Br
  have Br := Lib.hid Br'
  clear Br'
  clear Bx
  have Bx := Lib.hid Bx'
  clear Bx'
  have S1 := Lib.hid S'
  have T1 := Lib.hid (T0.out.trans T')
  have L1 := Lib.hid hr
  clear S' T' hr S0 T0
  have hbx := Bx.out
  have q := cell_blk hbx 0 _ rfl
  have fz := frozen_at hbx 0
  obtain ⟨w1, hw, hb2, hst, hbl, hot⟩ := put_one hbx 0 (.string x1)
  have Bx' : w1.heap[w.heap.size + 1]? = some (.cells #[.string x1, .string ⟨#[]⟩, .string ⟨#[]⟩, .slice none 0 0, .slice none 0 0] 134 (0, 0)) := hb2
  have Br' := (hot _ (by omega)).trans Br.out
  clear Br
  have Br := Lib.hid Br'
  clear Br'
  clear Bx
  have Bx := Lib.hid Bx'
  clear Bx'
  have S1' := S1.out.stp hst (by decide) (hbl _ (by have := HSZ.out; omega))
  have T1' := T1.out.then (hbl w.heap.size (by have := HSZ.out; omega))
  have HV := Lib.hid hw
  clear hw hb2 hst hbl hot hbx
  clear S1 T1
  have S1s := Lib.hid S1'
  have T1s := Lib.hid T1'
  clear S1' T1'
  go_wp2_with (fail)
  first | rw [HV.out] | (erw [HV.out])
  clear HV q fz
  refine (ct_text S1s.out).mono ?_
  rintro e y2 ⟨_, p2, b2, rfl, ⟨x2, rfl⟩, S', T', hr⟩
  have Br' := T'.keep Br.out (by decide)
  have Bx' := T'.keep Bx.out (by decide)
  clear Br
  have Br := Lib.hid Br'
  clear Br'
  clear Bx
  have Bx := Lib.hid Bx'
  clear Bx'
  have S2 := Lib.hid S'
  have T2 := Lib.hid (T1s.out.trans T')
  have L2 := Lib.hid hr
  clear S' T' hr S1s T1s
  have hbx := Bx.out
  have q := cell_blk hbx 1 _ rfl
  have fz := frozen_at hbx 1
  obtain ⟨w2, hw, hb2, hst, hbl, hot⟩ := put_one hbx 1 (.string x2)
  have Bx' : w2.heap[w.heap.size + 1]? = some (.cells #[.string x1, .string x2, .string ⟨#[]⟩, .slice none 0 0, .slice none 0 0] 134 (0, 0)) := hb2
  have Br' := (hot _ (by omega)).trans Br.out
  clear Br
  have Br := Lib.hid Br'
  clear Br'
  clear Bx
  have Bx := Lib.hid Bx'
  clear Bx'
  have S2' := S2.out.stp hst (by decide) (hbl _ (by have := HSZ.out; omega))
  have T2' := T2.out.then (hbl w.heap.size (by have := HSZ.out; omega))
  have HV := Lib.hid hw
  clear hw hb2 hst hbl hot hbx
  clear S2 T2
  have S2s := Lib.hid S2'
  have T2s := Lib.hid T2'
  clear S2' T2'
  go_wp2_with (fail)
  first | rw [HV.out] | (erw [HV.out])
  clear HV q fz
  refine (ct_text S2s.out).mono ?_
  rintro e y3 ⟨_, p3, b3, rfl, ⟨x3, rfl⟩, S', T', hr⟩
  have Br' := T'.keep Br.out (by decide)
  have Bx' := T'.keep Bx.out (by decide)
  clear Br
  have Br := Lib.hid Br'
  clear Br'
  clear Bx
  have Bx := Lib.hid Bx'
  clear Bx'
  have S3 := Lib.hid S'
  have T3 := Lib.hid (T2s.out.trans T')
  have L3 := Lib.hid hr
  clear S' T' hr S2s T2s
  have hbx := Bx.out
  have q := cell_blk hbx 2 _ rfl
  have fz := frozen_at hbx 2
  obtain ⟨w3, hw, hb2, hst, hbl, hot⟩ := put_one hbx 2 (.string x3)
  have Bx' : w3.heap[w.heap.size + 1]? = some (.cells #[.string x1, .string x2, .string x3, .slice none 0 0, .slice none 0 0] 134 (0, 0)) := hb2
  have Br' := (hot _ (by omega)).trans Br.out
  clear Br
  have Br := Lib.hid Br'
  clear Br'
  clear Bx
  have Bx := Lib.hid Bx'
  clear Bx'
  have S3' := S3.out.stp hst (by decide) (hbl _ (by have := HSZ.out; omega))
  have T3' := T3.out.then (hbl w.heap.size (by have := HSZ.out; omega))
  have HV := Lib.hid hw
  clear hw hb2 hst hbl hot hbx
  clear S3 T3
  have S3s := Lib.hid S3'
  have T3s := Lib.hid T3'
  clear S3' T3'
  go_wp2_with (fail)
  first | rw [HV.out] | (erw [HV.out])
  clear HV q fz
  refine (ct_columns S3s.out).mono ?_
  rintro e y4 ⟨u, p4, b4, rfl, ⟨x4, hR⟩, S', T', hr⟩
  have Br' := T'.keep Br.out (by decide)
  have Bx' := T'.keep Bx.out (by decide)
  obtain ⟨A4, c4, hu, _, _⟩ := Kd.R_reads hR
  subst hu
  have R4_ := Kd.R_lower hR T3s.out.size
  have R4 := Lib.hid R4_
  clear hR R4_
  clear Br
  have Br := Lib.hid Br'
  clear Br'
  clear Bx
  have Bx := Lib.hid Bx'
  clear Bx'
  have S4 := Lib.hid S'
  have T4 := Lib.hid (T3s.out.trans T')
  have L4 := Lib.hid hr
  clear S' T' hr S3s T3s
  have hbx := Bx.out
  have q := cell_blk hbx 3 _ rfl
  have fz := frozen_at hbx 3
  obtain ⟨w4, hw, hb2, hst, hbl, hot⟩ := put_one hbx 3 (.slice A4 x4.length c4)
  have Bx' : w4.heap[w.heap.size + 1]? = some (.cells #[.string x1, .string x2, .string x3, .slice A4 x4.length c4, .slice none 0 0] 134 (0, 0)) := hb2
  have Br' := (hot _ (by omega)).trans Br.out
  have R4' := hst.R R4.out (by decide)
  clear Br
  have Br := Lib.hid Br'
  clear Br'
  clear Bx
  have Bx := Lib.hid Bx'
  clear Bx'
  clear R4
  have R4 := Lib.hid R4'
  clear R4'
  have S4' := S4.out.stp hst (by decide) (hbl _ (by have := HSZ.out; omega))
  have T4' := T4.out.then (hbl w.heap.size (by have := HSZ.out; omega))
  have HV := Lib.hid hw
  clear hw hb2 hst hbl hot hbx
  clear S4 T4
  have S4s := Lib.hid S4'
  have T4s := Lib.hid T4'
  clear S4' T4'
  go_wp2_with (fail)
  first | rw [HV.out] | (erw [HV.out])
  clear HV q fz
  refine (ct_count S4s.out).mono ?_
  rintro e y5 ⟨n_5, p5, b5, rfl, S', T', hn4_5, hMR⟩
  have Br' := T'.keep Br.out (by decide)
  have Bx' := T'.keep Bx.out (by decide)
  have R4' := T'.R R4.out (by decide)
  clear Br
  have Br := Lib.hid Br'
  clear Br'
  clear Bx
  have Bx := Lib.hid Bx'
  clear Bx'
  clear R4
  have R4 := Lib.hid R4'
  clear R4'
  have S5 := Lib.hid S'
  have T5 := Lib.hid (T4s.out.trans T')
  have HMR5 := Lib.hid hMR
  have HN5 := Lib.hid hn4_5
  clear S' T' hMR S4s T4s
  go_wp2_with (fail)
  go_loopw [5] (fun i wr_5 => ∃ k_5 : Nat, k_5 ≤ n_5 ∧ i = .int .i64 k_5 ∧ ∃ (xs_5 : List TRule) (v_5 : Value) (pr_5 : Nat) (br_5 : Bool), xs_5.length = k_5 ∧ kRule.R 64 wr_5 w.heap.size (fun _ => True) v_5 xs_5 ∧ CAt w0 wr_5 g1 g2 A c B pr_5 br_5 ∧ Stp SC w wr_5 ∧ TRel dRule B p5 b5 n_5 k_5 pr_5 br_5 ∧ wr_5.heap[w.heap.size]? = some (.cells #[.string ⟨#[]⟩, .string ⟨#[]⟩, .string ⟨#[]⟩, .slice none 0 0, .slice none 0 0] 134 (0, 0)) ∧ wr_5.heap[w.heap.size + 1]? = some (.cells #[.string x1, .string x2, .string x3, .slice A4 x4.length c4, v_5] 134 (0, 0)) ∧ kColumn.R 167 wr_5 w.heap.size (fun _ => True) (.slice A4 x4.length c4) x4) (fun i _ => n_5 - (intOf i).toNat)
  case atStart => exact ⟨0, Nat.zero_le _, rfl, [], .slice none 0 0, p5, b5, rfl, Kd.R_nil _ _ _ _ _, S5.out, T5.out, TRel.start _ _ _ _ _, Br.out, Bx.out, R4.out⟩
  case round =>
    obtain ⟨wr_5, hwr⟩ : ∃ z : World, z = wr := ⟨_, rfl⟩
    subst hwr
    obtain ⟨k_5, hk_5, rfl, xs_5, v_5, pr_5, br_5, hxl, hR, hS, hT, hL, hBr, hBx, hR4⟩ := hrel
    obtain ⟨A1_5, c1_5, hv, _, _⟩ := Kd.R_reads hR
    subst hv
    have HX := Lib.hid hxl
    have RX := Lib.hid hR
    have SR_ := Lib.hid hS
    have TR := Lib.hid hT
    have HL := Lib.hid hL
    clear hxl hR hS hT hL S5 T5
    clear Br
    have Br := Lib.hid hBr
    clear hBr
    clear Bx
    have Bx := Lib.hid hBx
    clear hBx
    clear R4
    have R4 := Lib.hid hR4
    clear hR4
    have q1 := cell_blk SR_.out.c2 1 _ rfl
    go_upto_region 8 with (fail)
    go_cut [31] (fun v_5 w' => v_5 = .bool (decide (k_5 < n_5) && !br_5) ∧ w' = wr_5)
    case first =>
      by_cases hlt : k_5 < n_5
      · have hlt' : (k_5 : Int) < (n_5 : Int) := by omega
        cases br_5 with
        | true =>
          go_wp2
          go_meet
          case rel => exact ⟨by simp [hlt], rfl⟩
        | false =>
          go_wp2
          go_meet
          case rel => exact ⟨by simp [hlt], rfl⟩
      · have hlt' : ¬ (k_5 : Int) < (n_5 : Int) := by omega
        go_wp2
        go_meet
        case rel => exact ⟨by simp [hlt], rfl⟩
    case rest =>
      obtain ⟨hb_, hw_⟩ := hcut
      replace hw_ := hw_.symm
      subst hw_
      subst hb_
      clear q1
      by_cases hgo : k_5 < n_5 ∧ br_5 = false
      · obtain ⟨hlt, hbr⟩ := hgo
        subst hbr
        rw [show (decide (k_5 < n_5) && !false) = true by simp [hlt]]
        go_wp2_with (fail)
        refine (ct_Rule SR_.out).mono ?_
        rintro e y6 ⟨_, p6, b6, rfl, ⟨x6, cs, hM, rfl⟩, S', T', hr⟩
        have hE := elem_ok hM (fun k_5 hk_5 => Kd.R_lt RX.out k_5 hk_5) TR.out.size (v := Value.slice A1_5 xs_5.length c1_5)
        have hone := all_oneCell_toArray (kRule.K_one (kRule.K_of_M hM))
        have Br' := T'.keep Br.out (by decide)
        have Bx' := T'.keep Bx.out (by decide)
        have R4' := T'.R R4.out (by decide)
        have RX' := T'.R RX.out (by decide)
        clear Br
        have Br := Lib.hid Br'
        clear Br'
        clear Bx
        have Bx := Lib.hid Bx'
        clear Bx'
        clear R4
        have R4 := Lib.hid R4'
        clear R4'
        clear RX
        have RX := Lib.hid RX'
        clear RX'
        obtain ⟨v6_2, rfl, _⟩ := openMRule hM
        have HE := Lib.hid hE
        have HONE := Lib.hid hone
        clear hE hone hM
        have S6 := Lib.hid S'
        have T6 := Lib.hid (TR.out.trans T')
        have HL6 := Lib.hid (HL.out.step hlt hr)
        clear S' T' hr SR_ TR HL
        obtain ⟨V0, hV0, hth, V1, hV1, hVA, hbx, hbl⟩ := new_box (w := y6) (t := 64) (zs := [.string ⟨#[]⟩, .int .i64 0, .slice none 0 0, .int .i64 0, .int .i64 0, .string ⟨#[]⟩, .string ⟨#[]⟩, .string ⟨#[]⟩]) (cs := [.string x6.1, .int .i64 x6.2.1, v6_2, .int .i64 x6.2.2.2.1, .int .i64 x6.2.2.2.2.1, .string x6.2.2.2.2.2.1, .string x6.2.2.2.2.2.2.1, .string x6.2.2.2.2.2.2.2]) rfl rfl
        have hst : Stp [] y6 V1 := Stp.below hbl
        have Br' := hst.keep Br.out (by decide)
        have Bx' := hst.keep Bx.out (by decide)
        have R4' := hst.R R4.out (by decide)
        have RX' := hst.R RX.out (by decide)
        clear Br
        have Br := Lib.hid Br'
        clear Br'
        clear Bx
        have Bx := Lib.hid Bx'
        clear Bx'
        clear R4
        have R4 := Lib.hid R4'
        clear R4'
        clear RX
        have RX := Lib.hid RX'
        clear RX'
        have HE' := hst.M HE.out (by decide)
        clear HE
        have HE := Lib.hid HE'
        clear HE'
        have S' := S6.out.stays hbl
        have T' := T6.out.trans (Stp.below hbl)
        have HWE := Lib.hid T6.out.size
        have Be := Lib.hid hbx
        have HV0 := Lib.hid hV0
        have HV1 := Lib.hid hV1
        have HVA := Lib.hid hVA
        have HTH0 := Lib.hid hth
        clear hV0 hV1 hVA hth hst hbx hbl S6 T6
        have S7 := Lib.hid S'
        have T7 := Lib.hid T'
        clear S' T'
        go_upto_region 11 with (((with_reducible refine gate_store (t := 64) rfl ?_); rw [show y6.alloc (.cells #[.string ⟨#[]⟩, .int .i64 0, .slice none 0 0, .int .i64 0, .int .i64 0, .string ⟨#[]⟩, .string ⟨#[]⟩, .string ⟨#[]⟩] 64) = V0 from HV0.out]; refine wpList_store_mid rfl 64 _ _ rfl y6.heap.size 0 #[.string x6.1, .int .i64 x6.2.1, v6_2, .int .i64 x6.2.2.2.1, .int .i64 x6.2.2.2.2.1, .string x6.2.2.2.2.2.1, .string x6.2.2.2.2.2.2.1, .string x6.2.2.2.2.2.2.2] rfl rfl HTH0.out (by kernel_rfl) HONE.out ?_; (first | rw [HV1.out] | (erw [HV1.out]))))
        try rw [HVA.out]
        clear HV0 HV1 HVA HTH0 HONE
        have HRG := Lib.hid (range_blk [] [.string x6.1, .int .i64 x6.2.1, v6_2, .int .i64 x6.2.2.2.1, .int .i64 x6.2.2.2.2.1, .string x6.2.2.2.2.2.1, .string x6.2.2.2.2.2.2.1, .string x6.2.2.2.2.2.2.2] [] Be.out)
        have q5 := cell_blk Bx.out 4 _ rfl
        go_wp2_with (first | ((with_reducible refine gate_load (t := 64) rfl ?_); refine wpList_load_mid rfl 64 _ rfl (y6.heap.size) 0 rfl [.string x6.1, .int .i64 x6.2.1, v6_2, .int .i64 x6.2.2.2.1, .int .i64 x6.2.2.2.2.1, .string x6.2.2.2.2.2.1, .string x6.2.2.2.2.2.2.1, .string x6.2.2.2.2.2.2.2] _ HRG.out Tryz.underlying64 rfl (by kernel_rfl) ?_) | ((with_reducible refine gate_builtin (b := .append) (xs := #[.tmp 37, .tmp 39]) rfl ?_); at_builtin; refine Kd.R_append kRule (w0 := V1) w.heap.size rfl (.tmp 37) (.tmp 39) 132 64 (.agg #[.string ⟨#[]⟩, .int .i64 0, .slice none 0 0, .int .i64 0, .int .i64 0, .string ⟨#[]⟩, .string ⟨#[]⟩, .string ⟨#[]⟩]) 112 rfl Tryz.underlying132 info_Rule rfl (by decide) (by decide) (.slice A1_5 xs_5.length c1_5) xs_5 x6 [.string x6.1, .int .i64 x6.2.1, v6_2, .int .i64 x6.2.2.2.1, .int .i64 x6.2.2.2.2.1, .string x6.2.2.2.2.2.1, .string x6.2.2.2.2.2.2.1, .string x6.2.2.2.2.2.2.2] (fun _ => True) (fun k_5 => True ∧ some k_5 ≠ (Value.ownBlock (.slice A1_5 xs_5.length c1_5))) rfl rfl HE.out (fun _ h => h) (fun _ _ => trivial) RX.out (Below.refl _ _) (Nat.le_trans T7.out.size (Nat.le_refl _)) (by have := HX.out; omega) ?_; intro v1 w4 ho hb hg hat; have HB4 := Lib.hid hb; have HG4 := Lib.hid hg; obtain ⟨A2_, c2_, hv2, _, _⟩ := Kd.R_reads ho; subst hv2; rw [show (xs_5 ++ [x6]).length = xs_5.length + 1 from by simp] at ho; have RX4 := Lib.hid ho; clear ho hb hg hat; have q4 := cell_blk ((Stp.row RX.out HG4.out).keep Bx.out (by decide)) 4 _ rfl; have f4 := frozen_at ((Stp.row RX.out HG4.out).keep Bx.out (by decide)) 4))
        clear HRG HE
        try clear q5
        try clear q4
        try clear f4
        clear Be
        have hst := Stp.row RX.out HG4.out
        have Br' := hst.keep Br.out (by decide)
        have Bx' := hst.keep Bx.out (by decide)
        have R4' := hst.R R4.out (by decide)
        have S4' := S7.out.stp hst (by decide) (HB4.out.mono (Nat.le_trans HSZ.out (Nat.le_refl _)))
        have T4' := T7.out.then HB4.out
        clear hst S7 T7
        have S4 := Lib.hid S4'
        have T4 := Lib.hid T4'
        clear S4' T4'
        clear Br
        have Br := Lib.hid Br'
        clear Br'
        clear Bx
        have Bx := Lib.hid Bx'
        clear Bx'
        clear R4
        have R4 := Lib.hid R4'
        clear R4'
        clear RX
        have HX4 := Lib.hid (show (xs_5 ++ [x6]).length = k_5 + 1 by rw [List.length_append, HX.out]; rfl)
        obtain ⟨w5, hw, hb2, hst, hbl, hot⟩ := put_one Bx.out 4 (.slice A2_ (xs_5.length + 1) c2_)
        have Bx' : w5.heap[w.heap.size + 1]? = some (.cells #[.string x1, .string x2, .string x3, .slice A4 x4.length c4, .slice A2_ (xs_5.length + 1) c2_] 134 (0, 0)) := hb2
        have Br' := (hot _ (by omega)).trans Br.out
        have R4' := hst.R R4.out (by decide)
        have RX4' := hst.R RX4.out (by decide)
        have S5 := S4.out.stp hst (by decide) (hbl _ (by have := HSZ.out; omega))
        have T5 := T4.out.then (hbl w.heap.size (by omega))
        first | rw [hw] | (erw [hw])
        go_roundw
        case rel => exact ⟨k_5 + 1, by omega, by simp, _, _, p6, b6, HX4.out, RX4', S5, T5, HL6.out, Br', Bx', R4'⟩
        case measure => simp [intOf]; omega
      · have hbf : (decide (k_5 < n_5) && !br_5) = false := by
          cases br_5 with
          | true => simp
          | false => simpa using hgo
        have HGO := Lib.hid (show k_5 = n_5 ∨ br_5 = true by
          cases br_5 with
          | true => exact .inr rfl
          | false => exact .inl (by have : ¬ (k_5 < n_5) := fun hh => hgo ⟨hh, rfl⟩
                                    omega))
        rw [hbf]
        clear hbf hgo
        have L_5 := Lib.hid (HL.out.done HMR5.out HN5.out HGO.out)
        have RX5 := Lib.hid RX.out
        have S5l := Lib.hid SR_.out
        have T5l := Lib.hid TR.out
        clear HL HGO RX SR_ TR HX HMR5 HN5
        go_upto_region 12 with (fail)
        have HM := Lib.hid (mkMTable (w := wr_5) (base := w.heap.size) (ok := fun _ => True) (x1, x2, x3, x4, xs_5) R4.out RX5.out)
        obtain ⟨WF, hWF, hbF, hst, hblF, hotF⟩ := put_many [] [.string ⟨#[]⟩, .string ⟨#[]⟩, .string ⟨#[]⟩, .slice none 0 0, .slice none 0 0] [.string x1, .string x2, .string x3, .slice A4 x4.length c4, .slice A1_5 xs_5.length c1_5] [] Br.out rfl
        have HF := Lib.hid hWF
        have BF := Lib.hid hbF
        have HFT := Lib.hid (there_blk [] [.string ⟨#[]⟩, .string ⟨#[]⟩, .string ⟨#[]⟩, .slice none 0 0, .slice none 0 0] [] Br.out)
        have HRG := Lib.hid (range_blk [] [.string x1, .string x2, .string x3, .slice A4 x4.length c4, .slice A1_5 xs_5.length c1_5] [] Bx.out)
        have HON := Lib.hid (all_oneCell_toArray (kTable.K_one (kTable.K_of_M HM.out)))
        have HMF := Lib.hid (hst.M HM.out (by decide))
        have SF := Lib.hid (S5l.out.stp hst (by decide) (hblF _ HSZ.out))
        have TF := Lib.hid (T5l.out.then (hblF _ (Nat.le_refl _)))
        clear hWF hbF hst hblF hotF HM Bx Br R4 RX5
        go_wp2_with (first | ((with_reducible refine gate_load (t := 134) rfl ?_); refine wpList_load_mid rfl 134 _ rfl (w.heap.size + 1) 0 rfl [.string x1, .string x2, .string x3, .slice A4 x4.length c4, .slice A1_5 xs_5.length c1_5] _ HRG.out Tryz.underlying134 rfl (by kernel_rfl) ?_) | ((with_reducible refine gate_store (t := 134) rfl ?_); refine wpList_store_mid rfl 134 _ _ rfl w.heap.size 0 #[.string x1, .string x2, .string x3, .slice A4 x4.length c4, .slice A1_5 xs_5.length c1_5] rfl rfl HFT.out (by kernel_rfl) HON.out ?_; (first | rw [HF.out] | (erw [HF.out]))))
        refine bodyPost_ret (v := .agg #[.string x1, .string x2, .string x3, .slice A4 x4.length c4, .slice A1_5 xs_5.length c1_5]) (results_cell_row rfl _ _ w.heap.size 134 #[.string x1, .string x2, .string x3, .slice A4 x4.length c4, .slice A1_5 xs_5.length c1_5] (0, 0) _ rfl BF.out Tryz.underlying134 rfl (by kernel_rfl)) rfl ?_
        exact ⟨_, pr_5, br_5, rfl, ⟨(x1, x2, x3, x4, xs_5), _, HMF.out, rfl⟩, SF.out, TF.out, CRel.seq L1.out (CRel.seq L2.out (CRel.seq L3.out (CRel.seq L4.out (L_5.out))))⟩
set_option maxRecDepth 100000 in
set_option maxHeartbeats 16000000 in
theorem ct_Objects {w0 w : World} {g1 g2 c p0 : Nat} {A : Option Addr} {B : Bs} {b0 : Bool} (h : CAt w0 w g1 g2 A c B p0 b0) :
    Calls Tryz.prog 55 #[.pointer (some ⟨g2, 0, none⟩)] w (CDone dObjects (POf kObjects w) w0 g1 g2 A c B w p0 b0) := by
  obtain ⟨V1, hV0, hth, hV1, hr0, hx0, hbl⟩ := two_boxes (w := w) (t := 27) (zs := [.slice none 0 0, .slice none 0 0]) rfl
  have HSZ := Lib.hid h.below.size
  have S0 := Lib.hid (h.stays hbl)
  have T0 := Lib.hid (Stp.below (S := SC) hbl)
  have Br := Lib.hid hr0
  have Bx := Lib.hid hx0
  have HV0 := Lib.hid hV0
  have HV1 := Lib.hid hV1
  have HTH0 := Lib.hid hth
  clear h hV0 hth hV1 hr0 hx0 hbl
  go_enter Tryz.func55, Tryz.ntmps55
  have HZ := Lib.hid (all_oneCell_toArray (kObjects.K_one (kObjects.K_of_M (w := w) (base := 0) (ok := fun _ => True) (mkMObjects ([], []) (Kd.R_nil _ _ _ _ _) (Kd.R_nil _ _ _ _ _)))))
  go_wp2_with (((with_reducible refine gate_store (t := 27) rfl ?_); rw [show (w.alloc (.cells #[.slice none 0 0, .slice none 0 0] 27)).alloc (.cells #[.slice none 0 0, .slice none 0 0] 27) = V1 from HV0.out]; refine wpList_store_mid rfl 27 _ _ rfl (w.heap.size + 1) 0 #[.slice none 0 0, .slice none 0 0] rfl rfl HTH0.out (by kernel_rfl) HZ.out ?_; (first | rw [HV1.out] | (erw [HV1.out]))))
  try rw [HV0.out]
  clear HV0 HV1 HTH0 HZ
  refine (ct_count S0.out).mono ?_
  rintro e y1 ⟨n_1, p1, b1, rfl, S', T', hn4_1, hMR⟩
  have Br' := T'.keep Br.out (by decide)
  have Bx' := T'.keep Bx.out (by decide)
  clear Br
  have Br := Lib.hid Br'
  clear Br'
  clear Bx
  have Bx := Lib.hid Bx'
  clear Bx'
  have S1 := Lib.hid S'
  have T1 := Lib.hid (T0.out.trans T')
  have HMR1 := Lib.hid hMR
  have HN1 := Lib.hid hn4_1
  clear S' T' hMR S0 T0
  go_wp2_with (fail)
  go_loopw [5] (fun i wr_1 => ∃ k_1 : Nat, k_1 ≤ n_1 ∧ i = .int .i64 k_1 ∧ ∃ (xs_1 : List TSchema) (v_1 : Value) (pr_1 : Nat) (br_1 : Bool), xs_1.length = k_1 ∧ kSchema.R 128 wr_1 w.heap.size (fun _ => True) v_1 xs_1 ∧ CAt w0 wr_1 g1 g2 A c B pr_1 br_1 ∧ Stp SC w wr_1 ∧ TRel dSchema B p1 b1 n_1 k_1 pr_1 br_1 ∧ wr_1.heap[w.heap.size]? = some (.cells #[.slice none 0 0, .slice none 0 0] 27 (0, 0)) ∧ wr_1.heap[w.heap.size + 1]? = some (.cells #[v_1, .slice none 0 0] 27 (0, 0))) (fun i _ => n_1 - (intOf i).toNat)
  case atStart => exact ⟨0, Nat.zero_le _, rfl, [], .slice none 0 0, p1, b1, rfl, Kd.R_nil _ _ _ _ _, S1.out, T1.out, TRel.start _ _ _ _ _, Br.out, Bx.out⟩
  case round =>
    obtain ⟨wr_1, hwr⟩ : ∃ z : World, z = wr := ⟨_, rfl⟩
    subst hwr
    obtain ⟨k_1, hk_1, rfl, xs_1, v_1, pr_1, br_1, hxl, hR, hS, hT, hL, hBr, hBx⟩ := hrel
    obtain ⟨A1_1, c1_1, hv, _, _⟩ := Kd.R_reads hR
    subst hv
    have HX := Lib.hid hxl
    have RX := Lib.hid hR
    have SR_ := Lib.hid hS
    have TR := Lib.hid hT
    have HL := Lib.hid hL
    clear hxl hR hS hT hL S1 T1
    clear Br
    have Br := Lib.hid hBr
    clear hBr
    clear Bx
    have Bx := Lib.hid hBx
    clear hBx
    have q1 := cell_blk SR_.out.c2 1 _ rfl
    go_upto_region 4 with (fail)
    go_cut [21] (fun v_1 w' => v_1 = .bool (decide (k_1 < n_1) && !br_1) ∧ w' = wr_1)
    case first =>
      by_cases hlt : k_1 < n_1
      · have hlt' : (k_1 : Int) < (n_1 : Int) := by omega
        cases br_1 with
        | true =>
          go_wp2
          go_meet
          case rel => exact ⟨by simp [hlt], rfl⟩
        | false =>
          go_wp2
          go_meet
          case rel => exact ⟨by simp [hlt], rfl⟩
      · have hlt' : ¬ (k_1 : Int) < (n_1 : Int) := by omega
        go_wp2
        go_meet
        case rel => exact ⟨by simp [hlt], rfl⟩
    case rest =>
      obtain ⟨hb_, hw_⟩ := hcut
      replace hw_ := hw_.symm
      subst hw_
      subst hb_
      clear q1
      by_cases hgo : k_1 < n_1 ∧ br_1 = false
      · obtain ⟨hlt, hbr⟩ := hgo
        subst hbr
        rw [show (decide (k_1 < n_1) && !false) = true by simp [hlt]]
        have RX' := row_lt RX.out
        clear RX
        have RX := Lib.hid RX'
        clear RX'
        have HZ := Lib.hid (all_oneCell_toArray (kSchema.K_one (kSchema.K_of_M (w := w) (base := 0) (ok := fun _ => True) (mkMSchema ((⟨#[]⟩ : ByteArray), (⟨#[]⟩ : ByteArray)) ))))
        obtain ⟨V0, hV0, hth, V1, hV1, hVA, hbx, hbl⟩ := new_box (w := wr_1) (t := 128) (zs := [.string ⟨#[]⟩, .string ⟨#[]⟩]) (cs := [.string ⟨#[]⟩, .string ⟨#[]⟩]) rfl rfl
        have hst : Stp [] wr_1 V1 := Stp.below hbl
        have Br' := hst.keep Br.out (by decide)
        have Bx' := hst.keep Bx.out (by decide)
        have RX' := hst.R RX.out (by decide)
        clear Br
        have Br := Lib.hid Br'
        clear Br'
        clear Bx
        have Bx := Lib.hid Bx'
        clear Bx'
        clear RX
        have RX := Lib.hid RX'
        clear RX'
        have S' := SR_.out.stays hbl
        have T' := TR.out.trans (Stp.below hbl)
        have HWE := Lib.hid TR.out.size
        have Be := Lib.hid hbx
        have HV0 := Lib.hid hV0
        have HV1 := Lib.hid hV1
        have HVA := Lib.hid hVA
        have HTH0 := Lib.hid hth
        clear hV0 hV1 hVA hth hst hbx hbl SR_ TR
        have S2 := Lib.hid S'
        have T2 := Lib.hid T'
        clear S' T'
        go_wp2_with (((with_reducible refine gate_store (t := 128) rfl ?_); rw [show wr_1.alloc (.cells #[.string ⟨#[]⟩, .string ⟨#[]⟩] 128) = V0 from HV0.out]; refine wpList_store_mid rfl 128 _ _ rfl wr_1.heap.size 0 #[.string ⟨#[]⟩, .string ⟨#[]⟩] rfl rfl HTH0.out (by kernel_rfl) HZ.out ?_; (first | rw [HV1.out] | (erw [HV1.out]))))
        try rw [HVA.out]
        clear HV0 HV1 HVA HTH0 HZ
        refine (ct_text S2.out).mono ?_
        rintro e y3 ⟨_, p3, b3, rfl, ⟨x3, rfl⟩, S', T', hr⟩
        have Br' := T'.keep Br.out (by decide)
        have Bx' := T'.keep Bx.out (by decide)
        have Be' := T'.keep Be.out (by decide)
        have RX' := T'.R RX.out (by decide)
        clear Br
        have Br := Lib.hid Br'
        clear Br'
        clear Bx
        have Bx := Lib.hid Bx'
        clear Bx'
        clear Be
        have Be := Lib.hid Be'
        clear Be'
        clear RX
        have RX := Lib.hid RX'
        clear RX'
        have S3 := Lib.hid S'
        have T3 := Lib.hid (T2.out.trans T')
        have L3 := Lib.hid hr
        clear S' T' hr S2 T2
        have hbx := Be.out
        have q := cell_blk hbx 0 _ rfl
        have fz := frozen_at hbx 0
        obtain ⟨w3, hw, hb2, hst, hbl, hot⟩ := put_one hbx 0 (.string x3)
        have Be' : w3.heap[wr_1.heap.size]? = some (.cells #[.string x3, .string ⟨#[]⟩] 128 (0, 0)) := hb2
        have Br' := hst.keep Br.out (by decide)
        have Bx' := hst.keep Bx.out (by decide)
        have RX' := row_apart RX.out hot
        clear Br
        have Br := Lib.hid Br'
        clear Br'
        clear Bx
        have Bx := Lib.hid Bx'
        clear Bx'
        clear Be
        have Be := Lib.hid Be'
        clear Be'
        clear RX
        have RX := Lib.hid RX'
        clear RX'
        have S3' := S3.out.stp hst (by decide) (hbl _ (by have := HSZ.out; have := HWE.out; omega))
        have T3' := T3.out.then (hbl w.heap.size (by have := HSZ.out; have := HWE.out; omega))
        have HV := Lib.hid hw
        clear hw hb2 hst hbl hot hbx
        clear S3 T3
        have S3s := Lib.hid S3'
        have T3s := Lib.hid T3'
        clear S3' T3'
        go_wp2_with (fail)
        first | rw [HV.out] | (erw [HV.out])
        clear HV q fz
        refine (ct_text S3s.out).mono ?_
        rintro e y4 ⟨_, p4, b4, rfl, ⟨x4, rfl⟩, S', T', hr⟩
        have Br' := T'.keep Br.out (by decide)
        have Bx' := T'.keep Bx.out (by decide)
        have Be' := T'.keep Be.out (by decide)
        have RX' := T'.R RX.out (by decide)
        clear Br
        have Br := Lib.hid Br'
        clear Br'
        clear Bx
        have Bx := Lib.hid Bx'
        clear Bx'
        clear Be
        have Be := Lib.hid Be'
        clear Be'
        clear RX
        have RX := Lib.hid RX'
        clear RX'
        have S4 := Lib.hid S'
        have T4 := Lib.hid (T3s.out.trans T')
        have L4 := Lib.hid hr
        clear S' T' hr S3s T3s
        have hbx := Be.out
        have q := cell_blk hbx 1 _ rfl
        have fz := frozen_at hbx 1
        obtain ⟨w4, hw, hb2, hst, hbl, hot⟩ := put_one hbx 1 (.string x4)
        have Be' : w4.heap[wr_1.heap.size]? = some (.cells #[.string x3, .string x4] 128 (0, 0)) := hb2
        have Br' := hst.keep Br.out (by decide)
        have Bx' := hst.keep Bx.out (by decide)
        have RX' := row_apart RX.out hot
        clear Br
        have Br := Lib.hid Br'
        clear Br'
        clear Bx
        have Bx := Lib.hid Bx'
        clear Bx'
        clear Be
        have Be := Lib.hid Be'
        clear Be'
        clear RX
        have RX := Lib.hid RX'
        clear RX'
        have S4' := S4.out.stp hst (by decide) (hbl _ (by have := HSZ.out; have := HWE.out; omega))
        have T4' := T4.out.then (hbl w.heap.size (by have := HSZ.out; have := HWE.out; omega))
        have HV := Lib.hid hw
        clear hw hb2 hst hbl hot hbx
        clear S4 T4
        have S4s := Lib.hid S4'
        have T4s := Lib.hid T4'
        clear S4' T4'
        go_upto_region 9 with (fail)
        first | rw [HV.out] | (erw [HV.out])
        clear HV q fz
        have RX' := row_all RX.out
        clear RX
        have RX := Lib.hid RX'
        clear RX'
        have HL' := Lib.hid (HL.out.step hlt (CRel.seq L3.out (L4.out)))
        clear HL
        have HE := Lib.hid (elem_ok (mkMSchema (w := w4) (base := w4.heap.size) (ok := fun _ => True) (x3, x4)) (fun k_1 hk_1 => Kd.R_lt RX.out k_1 hk_1) (Nat.le_trans T4s.out.size (Nat.le_refl _)) (v := Value.slice A1_1 xs_1.length c1_1))
        have HRG := Lib.hid (range_blk [] [.string x3, .string x4] [] Be.out)
        have q5 := cell_blk Bx.out 0 _ rfl
        go_wp2_with (first | ((with_reducible refine gate_load (t := 128) rfl ?_); refine wpList_load_mid rfl 128 _ rfl (wr_1.heap.size) 0 rfl [.string x3, .string x4] _ HRG.out Tryz.underlying128 rfl (by kernel_rfl) ?_) | ((with_reducible refine gate_builtin (b := .append) (xs := #[.tmp 32, .tmp 34]) rfl ?_); at_builtin; refine Kd.R_append kSchema (w0 := w4) w.heap.size rfl (.tmp 32) (.tmp 34) 24 128 (.agg #[.string ⟨#[]⟩, .string ⟨#[]⟩]) 32 rfl Tryz.underlying24 info_Schema rfl (by decide) (by decide) (.slice A1_1 xs_1.length c1_1) xs_1 (x3, x4) [.string x3, .string x4] (fun _ => True) (fun k_1 => True ∧ some k_1 ≠ (Value.ownBlock (.slice A1_1 xs_1.length c1_1))) rfl rfl HE.out (fun _ h => h) (fun _ _ => trivial) RX.out (Below.refl _ _) (Nat.le_trans T4s.out.size (Nat.le_refl _)) (by have := HX.out; omega) ?_; intro v1 w4 ho hb hg hat; have HB4 := Lib.hid hb; have HG4 := Lib.hid hg; obtain ⟨A2_, c2_, hv2, _, _⟩ := Kd.R_reads ho; subst hv2; rw [show (xs_1 ++ [(x3, x4)]).length = xs_1.length + 1 from by simp] at ho; have RX4 := Lib.hid ho; clear ho hb hg hat; have q4 := cell_blk ((Stp.row RX.out HG4.out).keep Bx.out (by decide)) 0 _ rfl; have f4 := frozen_at ((Stp.row RX.out HG4.out).keep Bx.out (by decide)) 0))
        clear HRG HE
        try clear q5
        try clear q4
        try clear f4
        clear Be
        have hst := Stp.row RX.out HG4.out
        have Br' := hst.keep Br.out (by decide)
        have Bx' := hst.keep Bx.out (by decide)
        have S4' := S4s.out.stp hst (by decide) (HB4.out.mono (Nat.le_trans HSZ.out (Nat.le_refl _)))
        have T4' := T4s.out.then HB4.out
        clear hst S4s T4s
        have S4 := Lib.hid S4'
        have T4 := Lib.hid T4'
        clear S4' T4'
        clear Br
        have Br := Lib.hid Br'
        clear Br'
        clear Bx
        have Bx := Lib.hid Bx'
        clear Bx'
        clear RX
        have HX4 := Lib.hid (show (xs_1 ++ [(x3, x4)]).length = k_1 + 1 by rw [List.length_append, HX.out]; rfl)
        obtain ⟨w5, hw, hb2, hst, hbl, hot⟩ := put_one Bx.out 0 (.slice A2_ (xs_1.length + 1) c2_)
        have Bx' : w5.heap[w.heap.size + 1]? = some (.cells #[.slice A2_ (xs_1.length + 1) c2_, .slice none 0 0] 27 (0, 0)) := hb2
        have Br' := (hot _ (by omega)).trans Br.out
        have RX4' := hst.R RX4.out (by decide)
        have S5 := S4.out.stp hst (by decide) (hbl _ (by have := HSZ.out; omega))
        have T5 := T4.out.then (hbl w.heap.size (by omega))
        first | rw [hw] | (erw [hw])
        go_roundw
        case rel => exact ⟨k_1 + 1, by omega, by simp, _, _, p4, b4, HX4.out, RX4', S5, T5, HL'.out, Br', Bx'⟩
        case measure => simp [intOf]; omega
      · have hbf : (decide (k_1 < n_1) && !br_1) = false := by
          cases br_1 with
          | true => simp
          | false => simpa using hgo
        have HGO := Lib.hid (show k_1 = n_1 ∨ br_1 = true by
          cases br_1 with
          | true => exact .inr rfl
          | false => exact .inl (by have : ¬ (k_1 < n_1) := fun hh => hgo ⟨hh, rfl⟩
                                    omega))
        rw [hbf]
        clear hbf hgo
        have L_1 := Lib.hid (HL.out.done HMR1.out HN1.out HGO.out)
        have RX1 := Lib.hid RX.out
        have S1l := Lib.hid SR_.out
        have T1l := Lib.hid TR.out
        clear HL HGO RX SR_ TR HX HMR1 HN1
        go_wp2_with (fail)
        refine (ct_count S1l.out).mono ?_
        rintro e y5 ⟨n_5, p5, b5, rfl, S', T', hn4_5, hMR⟩
        have Br' := T'.keep Br.out (by decide)
        have Bx' := T'.keep Bx.out (by decide)
        have RX1' := T'.R RX1.out (by decide)
        clear Br
        have Br := Lib.hid Br'
        clear Br'
        clear Bx
        have Bx := Lib.hid Bx'
        clear Bx'
        clear RX1
        have RX1 := Lib.hid RX1'
        clear RX1'
        have S5 := Lib.hid S'
        have T5 := Lib.hid (T1l.out.trans T')
        have HMR5 := Lib.hid hMR
        have HN5 := Lib.hid hn4_5
        clear S' T' hMR S1l T1l
        go_wp2_with (fail)
        go_loopw [7] (fun i wr_5 => ∃ k_5 : Nat, k_5 ≤ n_5 ∧ i = .int .i64 k_5 ∧ ∃ (xs_5 : List TTable) (v_5 : Value) (pr_5 : Nat) (br_5 : Bool), xs_5.length = k_5 ∧ kTable.R 134 wr_5 w.heap.size (fun _ => True) v_5 xs_5 ∧ CAt w0 wr_5 g1 g2 A c B pr_5 br_5 ∧ Stp SC w wr_5 ∧ TRel dTable B p5 b5 n_5 k_5 pr_5 br_5 ∧ wr_5.heap[w.heap.size]? = some (.cells #[.slice none 0 0, .slice none 0 0] 27 (0, 0)) ∧ wr_5.heap[w.heap.size + 1]? = some (.cells #[.slice A1_1 xs_1.length c1_1, v_5] 27 (0, 0)) ∧ kSchema.R 128 wr_5 w.heap.size (fun _ => True) (.slice A1_1 xs_1.length c1_1) xs_1) (fun i _ => n_5 - (intOf i).toNat)
        case atStart => exact ⟨0, Nat.zero_le _, rfl, [], .slice none 0 0, p5, b5, rfl, Kd.R_nil _ _ _ _ _, S5.out, T5.out, TRel.start _ _ _ _ _, Br.out, Bx.out, RX1.out⟩
        case round =>
          obtain ⟨wr_5, hwr⟩ : ∃ z : World, z = wr := ⟨_, rfl⟩
          subst hwr
          obtain ⟨k_5, hk_5, rfl, xs_5, v_5, pr_5, br_5, hxl, hR, hS, hT, hL, hBr, hBx, hRX1⟩ := hrel
          obtain ⟨A1_5, c1_5, hv, _, _⟩ := Kd.R_reads hR
          subst hv
          have HX := Lib.hid hxl
          have RX := Lib.hid hR
          have SR_ := Lib.hid hS
          have TR := Lib.hid hT
          have HL := Lib.hid hL
          clear hxl hR hS hT hL S5 T5
          clear Br
          have Br := Lib.hid hBr
          clear hBr
          clear Bx
          have Bx := Lib.hid hBx
          clear hBx
          clear RX1
          have RX1 := Lib.hid hRX1
          clear hRX1
          have q1 := cell_blk SR_.out.c2 1 _ rfl
          go_upto_region 12 with (fail)
          go_cut [48] (fun v_5 w' => v_5 = .bool (decide (k_5 < n_5) && !br_5) ∧ w' = wr_5)
          case first =>
            by_cases hlt : k_5 < n_5
            · have hlt' : (k_5 : Int) < (n_5 : Int) := by omega
              cases br_5 with
              | true =>
                go_wp2
                go_meet
                case rel => exact ⟨by simp [hlt], rfl⟩
              | false =>
                go_wp2
                go_meet
                case rel => exact ⟨by simp [hlt], rfl⟩
            · have hlt' : ¬ (k_5 : Int) < (n_5 : Int) := by omega
              go_wp2
              go_meet
              case rel => exact ⟨by simp [hlt], rfl⟩
          case rest =>
            obtain ⟨hb_, hw_⟩ := hcut
            replace hw_ := hw_.symm
            subst hw_
            subst hb_
            clear q1
            by_cases hgo : k_5 < n_5 ∧ br_5 = false
            · obtain ⟨hlt, hbr⟩ := hgo
              subst hbr
              rw [show (decide (k_5 < n_5) && !false) = true by simp [hlt]]
              go_wp2_with (fail)
              refine (ct_Table SR_.out).mono ?_
              rintro e y6 ⟨_, p6, b6, rfl, ⟨x6, cs, hM, rfl⟩, S', T', hr⟩
              have hE := elem_ok hM (fun k_5 hk_5 => Kd.R_lt RX.out k_5 hk_5) TR.out.size (v := Value.slice A1_5 xs_5.length c1_5)
              have hone := all_oneCell_toArray (kTable.K_one (kTable.K_of_M hM))
              have Br' := T'.keep Br.out (by decide)
              have Bx' := T'.keep Bx.out (by decide)
              have RX1' := T'.R RX1.out (by decide)
              have RX' := T'.R RX.out (by decide)
              clear Br
              have Br := Lib.hid Br'
              clear Br'
              clear Bx
              have Bx := Lib.hid Bx'
              clear Bx'
              clear RX1
              have RX1 := Lib.hid RX1'
              clear RX1'
              clear RX
              have RX := Lib.hid RX'
              clear RX'
              obtain ⟨v6_3, v6_4, rfl, _, _⟩ := openMTable hM
              have HE := Lib.hid hE
              have HONE := Lib.hid hone
              clear hE hone hM
              have S6 := Lib.hid S'
              have T6 := Lib.hid (TR.out.trans T')
              have HL6 := Lib.hid (HL.out.step hlt hr)
              clear S' T' hr SR_ TR HL
              obtain ⟨V0, hV0, hth, V1, hV1, hVA, hbx, hbl⟩ := new_box (w := y6) (t := 134) (zs := [.string ⟨#[]⟩, .string ⟨#[]⟩, .string ⟨#[]⟩, .slice none 0 0, .slice none 0 0]) (cs := [.string x6.1, .string x6.2.1, .string x6.2.2.1, v6_3, v6_4]) rfl rfl
              have hst : Stp [] y6 V1 := Stp.below hbl
              have Br' := hst.keep Br.out (by decide)
              have Bx' := hst.keep Bx.out (by decide)
              have RX1' := hst.R RX1.out (by decide)
              have RX' := hst.R RX.out (by decide)
              clear Br
              have Br := Lib.hid Br'
              clear Br'
              clear Bx
              have Bx := Lib.hid Bx'
              clear Bx'
              clear RX1
              have RX1 := Lib.hid RX1'
              clear RX1'
              clear RX
              have RX := Lib.hid RX'
              clear RX'
              have HE' := hst.M HE.out (by decide)
              clear HE
              have HE := Lib.hid HE'
              clear HE'
              have S' := S6.out.stays hbl
              have T' := T6.out.trans (Stp.below hbl)
              have HWE := Lib.hid T6.out.size
              have Be := Lib.hid hbx
              have HV0 := Lib.hid hV0
              have HV1 := Lib.hid hV1
              have HVA := Lib.hid hVA
              have HTH0 := Lib.hid hth
              clear hV0 hV1 hVA hth hst hbx hbl S6 T6
              have S7 := Lib.hid S'
              have T7 := Lib.hid T'
              clear S' T'
              go_upto_region 15 with (((with_reducible refine gate_store (t := 134) rfl ?_); rw [show y6.alloc (.cells #[.string ⟨#[]⟩, .string ⟨#[]⟩, .string ⟨#[]⟩, .slice none 0 0, .slice none 0 0] 134) = V0 from HV0.out]; refine wpList_store_mid rfl 134 _ _ rfl y6.heap.size 0 #[.string x6.1, .string x6.2.1, .string x6.2.2.1, v6_3, v6_4] rfl rfl HTH0.out (by kernel_rfl) HONE.out ?_; (first | rw [HV1.out] | (erw [HV1.out]))))
              try rw [HVA.out]
              clear HV0 HV1 HVA HTH0 HONE
              have HRG := Lib.hid (range_blk [] [.string x6.1, .string x6.2.1, .string x6.2.2.1, v6_3, v6_4] [] Be.out)
              have q5 := cell_blk Bx.out 1 _ rfl
              go_wp2_with (first | ((with_reducible refine gate_load (t := 134) rfl ?_); refine wpList_load_mid rfl 134 _ rfl (y6.heap.size) 0 rfl [.string x6.1, .string x6.2.1, .string x6.2.2.1, v6_3, v6_4] _ HRG.out Tryz.underlying134 rfl (by kernel_rfl) ?_) | ((with_reducible refine gate_builtin (b := .append) (xs := #[.tmp 54, .tmp 56]) rfl ?_); at_builtin; refine Kd.R_append kTable (w0 := V1) w.heap.size rfl (.tmp 54) (.tmp 56) 25 134 (.agg #[.string ⟨#[]⟩, .string ⟨#[]⟩, .string ⟨#[]⟩, .slice none 0 0, .slice none 0 0]) 96 rfl Tryz.underlying25 info_Table rfl (by decide) (by decide) (.slice A1_5 xs_5.length c1_5) xs_5 x6 [.string x6.1, .string x6.2.1, .string x6.2.2.1, v6_3, v6_4] (fun _ => True) (fun k_5 => True ∧ some k_5 ≠ (Value.ownBlock (.slice A1_5 xs_5.length c1_5))) rfl rfl HE.out (fun _ h => h) (fun _ _ => trivial) RX.out (Below.refl _ _) (Nat.le_trans T7.out.size (Nat.le_refl _)) (by have := HX.out; omega) ?_; intro v1 w4 ho hb hg hat; have HB4 := Lib.hid hb; have HG4 := Lib.hid hg; obtain ⟨A2_, c2_, hv2, _, _⟩ := Kd.R_reads ho; subst hv2; rw [show (xs_5 ++ [x6]).length = xs_5.length + 1 from by simp] at ho; have RX4 := Lib.hid ho; clear ho hb hg hat; have q4 := cell_blk ((Stp.row RX.out HG4.out).keep Bx.out (by decide)) 1 _ rfl; have f4 := frozen_at ((Stp.row RX.out HG4.out).keep Bx.out (by decide)) 1))
              clear HRG HE
              try clear q5
              try clear q4
              try clear f4
              clear Be
              have hst := Stp.row RX.out HG4.out
              have Br' := hst.keep Br.out (by decide)
              have Bx' := hst.keep Bx.out (by decide)
              have RX1' := hst.R RX1.out (by decide)
              have S4' := S7.out.stp hst (by decide) (HB4.out.mono (Nat.le_trans HSZ.out (Nat.le_refl _)))
              have T4' := T7.out.then HB4.out
              clear hst S7 T7
              have S4 := Lib.hid S4'
              have T4 := Lib.hid T4'
              clear S4' T4'
              clear Br
              have Br := Lib.hid Br'
              clear Br'
              clear Bx
              have Bx := Lib.hid Bx'
              clear Bx'
              clear RX1
              have RX1 := Lib.hid RX1'
              clear RX1'
              clear RX
              have HX4 := Lib.hid (show (xs_5 ++ [x6]).length = k_5 + 1 by rw [List.length_append, HX.out]; rfl)
              obtain ⟨w5, hw, hb2, hst, hbl, hot⟩ := put_one Bx.out 1 (.slice A2_ (xs_5.length + 1) c2_)
              have Bx' : w5.heap[w.heap.size + 1]? = some (.cells #[.slice A1_1 xs_1.length c1_1, .slice A2_ (xs_5.length + 1) c2_] 27 (0, 0)) := hb2
              have Br' := (hot _ (by omega)).trans Br.out
              have RX1' := hst.R RX1.out (by decide)
              have RX4' := hst.R RX4.out (by decide)
              have S5 := S4.out.stp hst (by decide) (hbl _ (by have := HSZ.out; omega))
              have T5 := T4.out.then (hbl w.heap.size (by omega))
              first | rw [hw] | (erw [hw])
              go_roundw
              case rel => exact ⟨k_5 + 1, by omega, by simp, _, _, p6, b6, HX4.out, RX4', S5, T5, HL6.out, Br', Bx', RX1'⟩
              case measure => simp [intOf]; omega
            · have hbf : (decide (k_5 < n_5) && !br_5) = false := by
                cases br_5 with
                | true => simp
                | false => simpa using hgo
              have HGO := Lib.hid (show k_5 = n_5 ∨ br_5 = true by
                cases br_5 with
                | true => exact .inr rfl
                | false => exact .inl (by have : ¬ (k_5 < n_5) := fun hh => hgo ⟨hh, rfl⟩
                                          omega))
              rw [hbf]
              clear hbf hgo
              have L_5 := Lib.hid (HL.out.done HMR5.out HN5.out HGO.out)
              have RX5 := Lib.hid RX.out
              have S5l := Lib.hid SR_.out
              have T5l := Lib.hid TR.out
              clear HL HGO RX SR_ TR HX HMR5 HN5
              go_upto_region 16 with (fail)
              have HM := Lib.hid (mkMObjects (w := wr_5) (base := w.heap.size) (ok := fun _ => True) (xs_1, xs_5) RX1.out RX5.out)
              obtain ⟨WF, hWF, hbF, hst, hblF, hotF⟩ := put_many [] [.slice none 0 0, .slice none 0 0] [.slice A1_1 xs_1.length c1_1, .slice A1_5 xs_5.length c1_5] [] Br.out rfl
              have HF := Lib.hid hWF
              have BF := Lib.hid hbF
              have HFT := Lib.hid (there_blk [] [.slice none 0 0, .slice none 0 0] [] Br.out)
              have HRG := Lib.hid (range_blk [] [.slice A1_1 xs_1.length c1_1, .slice A1_5 xs_5.length c1_5] [] Bx.out)
              have HON := Lib.hid (all_oneCell_toArray (kObjects.K_one (kObjects.K_of_M HM.out)))
              have HMF := Lib.hid (hst.M HM.out (by decide))
              have SF := Lib.hid (S5l.out.stp hst (by decide) (hblF _ HSZ.out))
              have TF := Lib.hid (T5l.out.then (hblF _ (Nat.le_refl _)))
              clear hWF hbF hst hblF hotF HM Bx Br RX1 RX5
              go_wp2_with (first | ((with_reducible refine gate_load (t := 27) rfl ?_); refine wpList_load_mid rfl 27 _ rfl (w.heap.size + 1) 0 rfl [.slice A1_1 xs_1.length c1_1, .slice A1_5 xs_5.length c1_5] _ HRG.out Tryz.underlying27 rfl (by kernel_rfl) ?_) | ((with_reducible refine gate_store (t := 27) rfl ?_); refine wpList_store_mid rfl 27 _ _ rfl w.heap.size 0 #[.slice A1_1 xs_1.length c1_1, .slice A1_5 xs_5.length c1_5] rfl rfl HFT.out (by kernel_rfl) HON.out ?_; (first | rw [HF.out] | (erw [HF.out]))))
              refine bodyPost_ret (v := .agg #[.slice A1_1 xs_1.length c1_1, .slice A1_5 xs_5.length c1_5]) (results_cell_row rfl _ _ w.heap.size 27 #[.slice A1_1 xs_1.length c1_1, .slice A1_5 xs_5.length c1_5] (0, 0) _ rfl BF.out Tryz.underlying27 rfl (by kernel_rfl)) rfl ?_
              exact ⟨_, pr_5, br_5, rfl, ⟨(xs_1, xs_5), _, HMF.out, rfl⟩, SF.out, TF.out, CRel.seq L_1.out (L_5.out)⟩
set_option maxRecDepth 100000 in
set_option maxHeartbeats 16000000 in
theorem ct_Catalog {w0 w : World} {g1 g2 c p0 : Nat} {A : Option Addr} {B : Bs} {b0 : Bool} (h : CAt w0 w g1 g2 A c B p0 b0) :
    Calls Tryz.prog 31 #[.pointer (some ⟨g2, 0, none⟩)] w (CDone dCatalog (POf kCatalog w) w0 g1 g2 A c B w p0 b0) := by
  obtain ⟨V1, hV0, hth, hV1, hr0, hx0, hbl⟩ := two_boxes (w := w) (t := 34) (zs := [.int .i64 0, .int .i64 0, .slice none 0 0, .slice none 0 0, .slice none 0 0, .slice none 0 0, .slice none 0 0]) rfl
  have HSZ := Lib.hid h.below.size
  have S0 := Lib.hid (h.stays hbl)
  have T0 := Lib.hid (Stp.below (S := SC) hbl)
  have Br := Lib.hid hr0
  have Bx := Lib.hid hx0
  have HV0 := Lib.hid hV0
  have HV1 := Lib.hid hV1
  have HTH0 := Lib.hid hth
  clear h hV0 hth hV1 hr0 hx0 hbl
  go_enter Tryz.func31, Tryz.ntmps31
  have HZ := Lib.hid (all_oneCell_toArray (kCatalog.K_one (kCatalog.K_of_M (w := w) (base := 0) (ok := fun _ => True) (mkMCatalog (0, 0, ([], []), ([], []), []) (Kd.R_nil _ _ _ _ _) (Kd.R_nil _ _ _ _ _) (Kd.R_nil _ _ _ _ _) (Kd.R_nil _ _ _ _ _) (Kd.R_nil _ _ _ _ _)))))
  go_wp2_with (((with_reducible refine gate_store (t := 34) rfl ?_); rw [show (w.alloc (.cells #[.int .i64 0, .int .i64 0, .slice none 0 0, .slice none 0 0, .slice none 0 0, .slice none 0 0, .slice none 0 0] 34)).alloc (.cells #[.int .i64 0, .int .i64 0, .slice none 0 0, .slice none 0 0, .slice none 0 0, .slice none 0 0, .slice none 0 0] 34) = V1 from HV0.out]; refine wpList_store_mid rfl 34 _ _ rfl (w.heap.size + 1) 0 #[.int .i64 0, .int .i64 0, .slice none 0 0, .slice none 0 0, .slice none 0 0, .slice none 0 0, .slice none 0 0] rfl rfl HTH0.out (by kernel_rfl) HZ.out ?_; (first | rw [HV1.out] | (erw [HV1.out]))))
  try rw [HV0.out]
  clear HV0 HV1 HTH0 HZ
  refine (ct_num S0.out).mono ?_
  rintro e y1 ⟨_, p1, b1, rfl, ⟨x1, rfl⟩, S', T', hr⟩
  have Br' := T'.keep Br.out (by decide)
  have Bx' := T'.keep Bx.out (by decide)
  clear Br
  have Br := Lib.hid Br'
  clear Br'
  clear Bx
  have Bx := Lib.hid Bx'
  clear Bx'
  have S1 := Lib.hid S'
  have T1 := Lib.hid (T0.out.trans T')
  have L1 := Lib.hid hr
  clear S' T' hr S0 T0
  have hbx := Bx.out
  have q := cell_blk hbx 0 _ rfl
  have fz := frozen_at hbx 0
  obtain ⟨w1, hw, hb2, hst, hbl, hot⟩ := put_one hbx 0 (.int .i64 x1)
  have Bx' : w1.heap[w.heap.size + 1]? = some (.cells #[.int .i64 x1, .int .i64 0, .slice none 0 0, .slice none 0 0, .slice none 0 0, .slice none 0 0, .slice none 0 0] 34 (0, 0)) := hb2
  have Br' := (hot _ (by omega)).trans Br.out
  clear Br
  have Br := Lib.hid Br'
  clear Br'
  clear Bx
  have Bx := Lib.hid Bx'
  clear Bx'
  have S1' := S1.out.stp hst (by decide) (hbl _ (by have := HSZ.out; omega))
  have T1' := T1.out.then (hbl w.heap.size (by have := HSZ.out; omega))
  have HV := Lib.hid hw
  clear hw hb2 hst hbl hot hbx
  clear S1 T1
  have S1s := Lib.hid S1'
  have T1s := Lib.hid T1'
  clear S1' T1'
  go_wp2_with (fail)
  first | rw [HV.out] | (erw [HV.out])
  clear HV q fz
  refine (ct_num S1s.out).mono ?_
  rintro e y2 ⟨_, p2, b2, rfl, ⟨x2, rfl⟩, S', T', hr⟩
  have Br' := T'.keep Br.out (by decide)
  have Bx' := T'.keep Bx.out (by decide)
  clear Br
  have Br := Lib.hid Br'
  clear Br'
  clear Bx
  have Bx := Lib.hid Bx'
  clear Bx'
  have S2 := Lib.hid S'
  have T2 := Lib.hid (T1s.out.trans T')
  have L2 := Lib.hid hr
  clear S' T' hr S1s T1s
  have hbx := Bx.out
  have q := cell_blk hbx 1 _ rfl
  have fz := frozen_at hbx 1
  obtain ⟨w2, hw, hb2, hst, hbl, hot⟩ := put_one hbx 1 (.int .i64 x2)
  have Bx' : w2.heap[w.heap.size + 1]? = some (.cells #[.int .i64 x1, .int .i64 x2, .slice none 0 0, .slice none 0 0, .slice none 0 0, .slice none 0 0, .slice none 0 0] 34 (0, 0)) := hb2
  have Br' := (hot _ (by omega)).trans Br.out
  clear Br
  have Br := Lib.hid Br'
  clear Br'
  clear Bx
  have Bx := Lib.hid Bx'
  clear Bx'
  have S2' := S2.out.stp hst (by decide) (hbl _ (by have := HSZ.out; omega))
  have T2' := T2.out.then (hbl w.heap.size (by have := HSZ.out; omega))
  have HV := Lib.hid hw
  clear hw hb2 hst hbl hot hbx
  clear S2 T2
  have S2s := Lib.hid S2'
  have T2s := Lib.hid T2'
  clear S2' T2'
  go_wp2_with (fail)
  first | rw [HV.out] | (erw [HV.out])
  clear HV q fz
  refine (ct_Objects S2s.out).mono ?_
  rintro e y3 ⟨_, p3, b3, rfl, ⟨x3, cs, hM, rfl⟩, S', T', hr⟩
  have Br' := T'.keep Br.out (by decide)
  have Bx' := T'.keep Bx.out (by decide)
  have hone := all_oneCell_toArray (kObjects.K_one (kObjects.K_of_M hM))
  have HON3 := Lib.hid hone
  clear hone
  obtain ⟨v3_0, v3_1, rfl, hR3_0, hR3_1⟩ := openMObjects hM
  have R3_0_ := Kd.R_lower hR3_0 T2s.out.size
  have R3_0 := Lib.hid R3_0_
  clear hR3_0 R3_0_
  have R3_1_ := Kd.R_lower hR3_1 T2s.out.size
  have R3_1 := Lib.hid R3_1_
  clear hR3_1 R3_1_
  clear Br
  have Br := Lib.hid Br'
  clear Br'
  clear Bx
  have Bx := Lib.hid Bx'
  clear Bx'
  have S3 := Lib.hid S'
  have T3 := Lib.hid (T2s.out.trans T')
  have L3 := Lib.hid hr
  clear S' T' hr S2s T2s
  have hbx := Bx.out
  have hth := there_blk [.int .i64 x1, .int .i64 x2] [.slice none 0 0, .slice none 0 0] [.slice none 0 0, .slice none 0 0, .slice none 0 0] hbx
  have HTH := Lib.hid hth
  clear hth
  obtain ⟨w3, hw, hb2, hst, hbl, hot⟩ := put_many [.int .i64 x1, .int .i64 x2] [.slice none 0 0, .slice none 0 0] [v3_0, v3_1] [.slice none 0 0, .slice none 0 0, .slice none 0 0] hbx rfl
  have Bx' : w3.heap[w.heap.size + 1]? = some (.cells #[.int .i64 x1, .int .i64 x2, v3_0, v3_1, .slice none 0 0, .slice none 0 0, .slice none 0 0] 34 (0, 0)) := hb2
  have Br' := (hot _ (by omega)).trans Br.out
  have R3_0' := hst.R R3_0.out (by decide)
  have R3_1' := hst.R R3_1.out (by decide)
  clear Br
  have Br := Lib.hid Br'
  clear Br'
  clear Bx
  have Bx := Lib.hid Bx'
  clear Bx'
  clear R3_0
  have R3_0 := Lib.hid R3_0'
  clear R3_0'
  clear R3_1
  have R3_1 := Lib.hid R3_1'
  clear R3_1'
  have S3' := S3.out.stp hst (by decide) (hbl _ (by have := HSZ.out; omega))
  have T3' := T3.out.then (hbl w.heap.size (by have := HSZ.out; omega))
  have HV := Lib.hid hw
  clear hw hb2 hst hbl hot hbx
  clear S3 T3
  have S3s := Lib.hid S3'
  have T3s := Lib.hid T3'
  clear S3' T3'
  go_wp2_with (((with_reducible refine gate_store (t := 27) rfl ?_); refine wpList_store_mid rfl 27 _ _ rfl (w.heap.size + 1) 2 #[v3_0, v3_1] rfl rfl HTH.out (by kernel_rfl) HON3.out ?_))
  first | rw [HV.out] | (erw [HV.out])
  clear HV HTH HON3
  refine (ct_texts S3s.out).mono ?_
  rintro e y4 ⟨u, p4, b4, rfl, ⟨x4, hR⟩, S', T', hr⟩
  have Br' := T'.keep Br.out (by decide)
  have Bx' := T'.keep Bx.out (by decide)
  have R3_0' := T'.R R3_0.out (by decide)
  have R3_1' := T'.R R3_1.out (by decide)
  obtain ⟨A4, c4, hu, _, _⟩ := Kd.R_reads hR
  subst hu
  have R4_ := Kd.R_lower hR T3s.out.size
  have R4 := Lib.hid R4_
  clear hR R4_
  clear Br
  have Br := Lib.hid Br'
  clear Br'
  clear Bx
  have Bx := Lib.hid Bx'
  clear Bx'
  clear R3_0
  have R3_0 := Lib.hid R3_0'
  clear R3_0'
  clear R3_1
  have R3_1 := Lib.hid R3_1'
  clear R3_1'
  have S4 := Lib.hid S'
  have T4 := Lib.hid (T3s.out.trans T')
  have L4 := Lib.hid hr
  clear S' T' hr S3s T3s
  have hbx := Bx.out
  have q := cell_blk hbx 4 _ rfl
  have fz := frozen_at hbx 4
  obtain ⟨w4, hw, hb2, hst, hbl, hot⟩ := put_one hbx 4 (.slice A4 x4.length c4)
  have Bx' : w4.heap[w.heap.size + 1]? = some (.cells #[.int .i64 x1, .int .i64 x2, v3_0, v3_1, .slice A4 x4.length c4, .slice none 0 0, .slice none 0 0] 34 (0, 0)) := hb2
  have Br' := (hot _ (by omega)).trans Br.out
  have R3_0' := hst.R R3_0.out (by decide)
  have R3_1' := hst.R R3_1.out (by decide)
  have R4' := hst.R R4.out (by decide)
  clear Br
  have Br := Lib.hid Br'
  clear Br'
  clear Bx
  have Bx := Lib.hid Bx'
  clear Bx'
  clear R3_0
  have R3_0 := Lib.hid R3_0'
  clear R3_0'
  clear R3_1
  have R3_1 := Lib.hid R3_1'
  clear R3_1'
  clear R4
  have R4 := Lib.hid R4'
  clear R4'
  have S4' := S4.out.stp hst (by decide) (hbl _ (by have := HSZ.out; omega))
  have T4' := T4.out.then (hbl w.heap.size (by have := HSZ.out; omega))
  have HV := Lib.hid hw
  clear hw hb2 hst hbl hot hbx
  clear S4 T4
  have S4s := Lib.hid S4'
  have T4s := Lib.hid T4'
  clear S4' T4'
  go_wp2_with (fail)
  first | rw [HV.out] | (erw [HV.out])
  clear HV q fz
  refine (ct_count S4s.out).mono ?_
  rintro e y5 ⟨n_5, p5, b5, rfl, S', T', hn4_5, hMR⟩
  have Br' := T'.keep Br.out (by decide)
  have Bx' := T'.keep Bx.out (by decide)
  have R3_0' := T'.R R3_0.out (by decide)
  have R3_1' := T'.R R3_1.out (by decide)
  have R4' := T'.R R4.out (by decide)
  clear Br
  have Br := Lib.hid Br'
  clear Br'
  clear Bx
  have Bx := Lib.hid Bx'
  clear Bx'
  clear R3_0
  have R3_0 := Lib.hid R3_0'
  clear R3_0'
  clear R3_1
  have R3_1 := Lib.hid R3_1'
  clear R3_1'
  clear R4
  have R4 := Lib.hid R4'
  clear R4'
  have S5 := Lib.hid S'
  have T5 := Lib.hid (T4s.out.trans T')
  have HMR5 := Lib.hid hMR
  have HN5 := Lib.hid hn4_5
  clear S' T' hMR S4s T4s
  go_wp2_with (fail)
  go_loopw [5] (fun i wr_5 => ∃ k_5 : Nat, k_5 ≤ n_5 ∧ i = .int .i64 k_5 ∧ ∃ (xs_5 : List TMember) (v_5 : Value) (pr_5 : Nat) (br_5 : Bool), xs_5.length = k_5 ∧ kMember.R 142 wr_5 w.heap.size (fun _ => True) v_5 xs_5 ∧ CAt w0 wr_5 g1 g2 A c B pr_5 br_5 ∧ Stp SC w wr_5 ∧ TRel dMember B p5 b5 n_5 k_5 pr_5 br_5 ∧ wr_5.heap[w.heap.size]? = some (.cells #[.int .i64 0, .int .i64 0, .slice none 0 0, .slice none 0 0, .slice none 0 0, .slice none 0 0, .slice none 0 0] 34 (0, 0)) ∧ wr_5.heap[w.heap.size + 1]? = some (.cells #[.int .i64 x1, .int .i64 x2, v3_0, v3_1, .slice A4 x4.length c4, v_5, .slice none 0 0] 34 (0, 0)) ∧ kSchema.R 128 wr_5 w.heap.size (fun _ => True) (v3_0) (x3.1) ∧ kTable.R 134 wr_5 w.heap.size (fun _ => True) (v3_1) (x3.2) ∧ Kd.string.R 9 wr_5 w.heap.size (fun _ => True) (.slice A4 x4.length c4) x4) (fun i _ => n_5 - (intOf i).toNat)
  case atStart => exact ⟨0, Nat.zero_le _, rfl, [], .slice none 0 0, p5, b5, rfl, Kd.R_nil _ _ _ _ _, S5.out, T5.out, TRel.start _ _ _ _ _, Br.out, Bx.out, R3_0.out, R3_1.out, R4.out⟩
  case round =>
    obtain ⟨wr_5, hwr⟩ : ∃ z : World, z = wr := ⟨_, rfl⟩
    subst hwr
    obtain ⟨k_5, hk_5, rfl, xs_5, v_5, pr_5, br_5, hxl, hR, hS, hT, hL, hBr, hBx, hR3_0, hR3_1, hR4⟩ := hrel
    obtain ⟨A1_5, c1_5, hv, _, _⟩ := Kd.R_reads hR
    subst hv
    have HX := Lib.hid hxl
    have RX := Lib.hid hR
    have SR_ := Lib.hid hS
    have TR := Lib.hid hT
    have HL := Lib.hid hL
    clear hxl hR hS hT hL S5 T5
    clear Br
    have Br := Lib.hid hBr
    clear hBr
    clear Bx
    have Bx := Lib.hid hBx
    clear hBx
    clear R3_0
    have R3_0 := Lib.hid hR3_0
    clear hR3_0
    clear R3_1
    have R3_1 := Lib.hid hR3_1
    clear hR3_1
    clear R4
    have R4 := Lib.hid hR4
    clear hR4
    have q1 := cell_blk SR_.out.c2 1 _ rfl
    go_upto_region 8 with (fail)
    go_cut [34] (fun v_5 w' => v_5 = .bool (decide (k_5 < n_5) && !br_5) ∧ w' = wr_5)
    case first =>
      by_cases hlt : k_5 < n_5
      · have hlt' : (k_5 : Int) < (n_5 : Int) := by omega
        cases br_5 with
        | true =>
          go_wp2
          go_meet
          case rel => exact ⟨by simp [hlt], rfl⟩
        | false =>
          go_wp2
          go_meet
          case rel => exact ⟨by simp [hlt], rfl⟩
      · have hlt' : ¬ (k_5 : Int) < (n_5 : Int) := by omega
        go_wp2
        go_meet
        case rel => exact ⟨by simp [hlt], rfl⟩
    case rest =>
      obtain ⟨hb_, hw_⟩ := hcut
      replace hw_ := hw_.symm
      subst hw_
      subst hb_
      clear q1
      by_cases hgo : k_5 < n_5 ∧ br_5 = false
      · obtain ⟨hlt, hbr⟩ := hgo
        subst hbr
        rw [show (decide (k_5 < n_5) && !false) = true by simp [hlt]]
        have RX' := row_lt RX.out
        clear RX
        have RX := Lib.hid RX'
        clear RX'
        have HZ := Lib.hid (all_oneCell_toArray (kMember.K_one (kMember.K_of_M (w := w) (base := 0) (ok := fun _ => True) (mkMMember ((⟨#[]⟩ : ByteArray), (⟨#[]⟩ : ByteArray)) ))))
        obtain ⟨V0, hV0, hth, V1, hV1, hVA, hbx, hbl⟩ := new_box (w := wr_5) (t := 142) (zs := [.string ⟨#[]⟩, .string ⟨#[]⟩]) (cs := [.string ⟨#[]⟩, .string ⟨#[]⟩]) rfl rfl
        have hst : Stp [] wr_5 V1 := Stp.below hbl
        have Br' := hst.keep Br.out (by decide)
        have Bx' := hst.keep Bx.out (by decide)
        have R3_0' := hst.R R3_0.out (by decide)
        have R3_1' := hst.R R3_1.out (by decide)
        have R4' := hst.R R4.out (by decide)
        have RX' := hst.R RX.out (by decide)
        clear Br
        have Br := Lib.hid Br'
        clear Br'
        clear Bx
        have Bx := Lib.hid Bx'
        clear Bx'
        clear R3_0
        have R3_0 := Lib.hid R3_0'
        clear R3_0'
        clear R3_1
        have R3_1 := Lib.hid R3_1'
        clear R3_1'
        clear R4
        have R4 := Lib.hid R4'
        clear R4'
        clear RX
        have RX := Lib.hid RX'
        clear RX'
        have S' := SR_.out.stays hbl
        have T' := TR.out.trans (Stp.below hbl)
        have HWE := Lib.hid TR.out.size
        have Be := Lib.hid hbx
        have HV0 := Lib.hid hV0
        have HV1 := Lib.hid hV1
        have HVA := Lib.hid hVA
        have HTH0 := Lib.hid hth
        clear hV0 hV1 hVA hth hst hbx hbl SR_ TR
        have S6 := Lib.hid S'
        have T6 := Lib.hid T'
        clear S' T'
        go_wp2_with (((with_reducible refine gate_store (t := 142) rfl ?_); rw [show wr_5.alloc (.cells #[.string ⟨#[]⟩, .string ⟨#[]⟩] 142) = V0 from HV0.out]; refine wpList_store_mid rfl 142 _ _ rfl wr_5.heap.size 0 #[.string ⟨#[]⟩, .string ⟨#[]⟩] rfl rfl HTH0.out (by kernel_rfl) HZ.out ?_; (first | rw [HV1.out] | (erw [HV1.out]))))
        try rw [HVA.out]
        clear HV0 HV1 HVA HTH0 HZ
        refine (ct_text S6.out).mono ?_
        rintro e y7 ⟨_, p7, b7, rfl, ⟨x7, rfl⟩, S', T', hr⟩
        have Br' := T'.keep Br.out (by decide)
        have Bx' := T'.keep Bx.out (by decide)
        have Be' := T'.keep Be.out (by decide)
        have R3_0' := T'.R R3_0.out (by decide)
        have R3_1' := T'.R R3_1.out (by decide)
        have R4' := T'.R R4.out (by decide)
        have RX' := T'.R RX.out (by decide)
        clear Br
        have Br := Lib.hid Br'
        clear Br'
        clear Bx
        have Bx := Lib.hid Bx'
        clear Bx'
        clear Be
        have Be := Lib.hid Be'
        clear Be'
        clear R3_0
        have R3_0 := Lib.hid R3_0'
        clear R3_0'
        clear R3_1
        have R3_1 := Lib.hid R3_1'
        clear R3_1'
        clear R4
        have R4 := Lib.hid R4'
        clear R4'
        clear RX
        have RX := Lib.hid RX'
        clear RX'
        have S7 := Lib.hid S'
        have T7 := Lib.hid (T6.out.trans T')
        have L7 := Lib.hid hr
        clear S' T' hr S6 T6
        have hbx := Be.out
        have q := cell_blk hbx 0 _ rfl
        have fz := frozen_at hbx 0
        obtain ⟨w7, hw, hb2, hst, hbl, hot⟩ := put_one hbx 0 (.string x7)
        have Be' : w7.heap[wr_5.heap.size]? = some (.cells #[.string x7, .string ⟨#[]⟩] 142 (0, 0)) := hb2
        have Br' := hst.keep Br.out (by decide)
        have Bx' := hst.keep Bx.out (by decide)
        have R3_0' := hst.R R3_0.out (by decide)
        have R3_1' := hst.R R3_1.out (by decide)
        have R4' := hst.R R4.out (by decide)
        have RX' := row_apart RX.out hot
        clear Br
        have Br := Lib.hid Br'
        clear Br'
        clear Bx
        have Bx := Lib.hid Bx'
        clear Bx'
        clear Be
        have Be := Lib.hid Be'
        clear Be'
        clear R3_0
        have R3_0 := Lib.hid R3_0'
        clear R3_0'
        clear R3_1
        have R3_1 := Lib.hid R3_1'
        clear R3_1'
        clear R4
        have R4 := Lib.hid R4'
        clear R4'
        clear RX
        have RX := Lib.hid RX'
        clear RX'
        have S7' := S7.out.stp hst (by decide) (hbl _ (by have := HSZ.out; have := HWE.out; omega))
        have T7' := T7.out.then (hbl w.heap.size (by have := HSZ.out; have := HWE.out; omega))
        have HV := Lib.hid hw
        clear hw hb2 hst hbl hot hbx
        clear S7 T7
        have S7s := Lib.hid S7'
        have T7s := Lib.hid T7'
        clear S7' T7'
        go_wp2_with (fail)
        first | rw [HV.out] | (erw [HV.out])
        clear HV q fz
        refine (ct_text S7s.out).mono ?_
        rintro e y8 ⟨_, p8, b8, rfl, ⟨x8, rfl⟩, S', T', hr⟩
        have Br' := T'.keep Br.out (by decide)
        have Bx' := T'.keep Bx.out (by decide)
        have Be' := T'.keep Be.out (by decide)
        have R3_0' := T'.R R3_0.out (by decide)
        have R3_1' := T'.R R3_1.out (by decide)
        have R4' := T'.R R4.out (by decide)
        have RX' := T'.R RX.out (by decide)
        clear Br
        have Br := Lib.hid Br'
        clear Br'
        clear Bx
        have Bx := Lib.hid Bx'
        clear Bx'
        clear Be
        have Be := Lib.hid Be'
        clear Be'
        clear R3_0
        have R3_0 := Lib.hid R3_0'
        clear R3_0'
        clear R3_1
        have R3_1 := Lib.hid R3_1'
        clear R3_1'
        clear R4
        have R4 := Lib.hid R4'
        clear R4'
        clear RX
        have RX := Lib.hid RX'
        clear RX'
        have S8 := Lib.hid S'
        have T8 := Lib.hid (T7s.out.trans T')
        have L8 := Lib.hid hr
        clear S' T' hr S7s T7s
        have hbx := Be.out
        have q := cell_blk hbx 1 _ rfl
        have fz := frozen_at hbx 1
        obtain ⟨w8, hw, hb2, hst, hbl, hot⟩ := put_one hbx 1 (.string x8)
        have Be' : w8.heap[wr_5.heap.size]? = some (.cells #[.string x7, .string x8] 142 (0, 0)) := hb2
        have Br' := hst.keep Br.out (by decide)
        have Bx' := hst.keep Bx.out (by decide)
        have R3_0' := hst.R R3_0.out (by decide)
        have R3_1' := hst.R R3_1.out (by decide)
        have R4' := hst.R R4.out (by decide)
        have RX' := row_apart RX.out hot
        clear Br
        have Br := Lib.hid Br'
        clear Br'
        clear Bx
        have Bx := Lib.hid Bx'
        clear Bx'
        clear Be
        have Be := Lib.hid Be'
        clear Be'
        clear R3_0
        have R3_0 := Lib.hid R3_0'
        clear R3_0'
        clear R3_1
        have R3_1 := Lib.hid R3_1'
        clear R3_1'
        clear R4
        have R4 := Lib.hid R4'
        clear R4'
        clear RX
        have RX := Lib.hid RX'
        clear RX'
        have S8' := S8.out.stp hst (by decide) (hbl _ (by have := HSZ.out; have := HWE.out; omega))
        have T8' := T8.out.then (hbl w.heap.size (by have := HSZ.out; have := HWE.out; omega))
        have HV := Lib.hid hw
        clear hw hb2 hst hbl hot hbx
        clear S8 T8
        have S8s := Lib.hid S8'
        have T8s := Lib.hid T8'
        clear S8' T8'
        go_upto_region 13 with (fail)
        first | rw [HV.out] | (erw [HV.out])
        clear HV q fz
        have RX' := row_all RX.out
        clear RX
        have RX := Lib.hid RX'
        clear RX'
        have HL' := Lib.hid (HL.out.step hlt (CRel.seq L7.out (L8.out)))
        clear HL
        have HE := Lib.hid (elem_ok (mkMMember (w := w8) (base := w8.heap.size) (ok := fun _ => True) (x7, x8)) (fun k_5 hk_5 => Kd.R_lt RX.out k_5 hk_5) (Nat.le_trans T8s.out.size (Nat.le_refl _)) (v := Value.slice A1_5 xs_5.length c1_5))
        have HRG := Lib.hid (range_blk [] [.string x7, .string x8] [] Be.out)
        have q5 := cell_blk Bx.out 5 _ rfl
        go_wp2_with (first | ((with_reducible refine gate_load (t := 142) rfl ?_); refine wpList_load_mid rfl 142 _ rfl (wr_5.heap.size) 0 rfl [.string x7, .string x8] _ HRG.out Tryz.underlying142 rfl (by kernel_rfl) ?_) | ((with_reducible refine gate_builtin (b := .append) (xs := #[.tmp 46, .tmp 48]) rfl ?_); at_builtin; refine Kd.R_append kMember (w0 := w8) w.heap.size rfl (.tmp 46) (.tmp 48) 29 142 (.agg #[.string ⟨#[]⟩, .string ⟨#[]⟩]) 32 rfl Tryz.underlying29 info_Member rfl (by decide) (by decide) (.slice A1_5 xs_5.length c1_5) xs_5 (x7, x8) [.string x7, .string x8] (fun _ => True) (fun k_5 => True ∧ some k_5 ≠ (Value.ownBlock (.slice A1_5 xs_5.length c1_5))) rfl rfl HE.out (fun _ h => h) (fun _ _ => trivial) RX.out (Below.refl _ _) (Nat.le_trans T8s.out.size (Nat.le_refl _)) (by have := HX.out; omega) ?_; intro v1 w4 ho hb hg hat; have HB4 := Lib.hid hb; have HG4 := Lib.hid hg; obtain ⟨A2_, c2_, hv2, _, _⟩ := Kd.R_reads ho; subst hv2; rw [show (xs_5 ++ [(x7, x8)]).length = xs_5.length + 1 from by simp] at ho; have RX4 := Lib.hid ho; clear ho hb hg hat; have q4 := cell_blk ((Stp.row RX.out HG4.out).keep Bx.out (by decide)) 5 _ rfl; have f4 := frozen_at ((Stp.row RX.out HG4.out).keep Bx.out (by decide)) 5))
        clear HRG HE
        try clear q5
        try clear q4
        try clear f4
        clear Be
        have hst := Stp.row RX.out HG4.out
        have Br' := hst.keep Br.out (by decide)
        have Bx' := hst.keep Bx.out (by decide)
        have R3_0' := hst.R R3_0.out (by decide)
        have R3_1' := hst.R R3_1.out (by decide)
        have R4' := hst.R R4.out (by decide)
        have S4' := S8s.out.stp hst (by decide) (HB4.out.mono (Nat.le_trans HSZ.out (Nat.le_refl _)))
        have T4' := T8s.out.then HB4.out
        clear hst S8s T8s
        have S4 := Lib.hid S4'
        have T4 := Lib.hid T4'
        clear S4' T4'
        clear Br
        have Br := Lib.hid Br'
        clear Br'
        clear Bx
        have Bx := Lib.hid Bx'
        clear Bx'
        clear R3_0
        have R3_0 := Lib.hid R3_0'
        clear R3_0'
        clear R3_1
        have R3_1 := Lib.hid R3_1'
        clear R3_1'
        clear R4
        have R4 := Lib.hid R4'
        clear R4'
        clear RX
        have HX4 := Lib.hid (show (xs_5 ++ [(x7, x8)]).length = k_5 + 1 by rw [List.length_append, HX.out]; rfl)
        obtain ⟨w5, hw, hb2, hst, hbl, hot⟩ := put_one Bx.out 5 (.slice A2_ (xs_5.length + 1) c2_)
        have Bx' : w5.heap[w.heap.size + 1]? = some (.cells #[.int .i64 x1, .int .i64 x2, v3_0, v3_1, .slice A4 x4.length c4, .slice A2_ (xs_5.length + 1) c2_, .slice none 0 0] 34 (0, 0)) := hb2
        have Br' := (hot _ (by omega)).trans Br.out
        have R3_0' := hst.R R3_0.out (by decide)
        have R3_1' := hst.R R3_1.out (by decide)
        have R4' := hst.R R4.out (by decide)
        have RX4' := hst.R RX4.out (by decide)
        have S5 := S4.out.stp hst (by decide) (hbl _ (by have := HSZ.out; omega))
        have T5 := T4.out.then (hbl w.heap.size (by omega))
        first | rw [hw] | (erw [hw])
        go_roundw
        case rel => exact ⟨k_5 + 1, by omega, by simp, _, _, p8, b8, HX4.out, RX4', S5, T5, HL'.out, Br', Bx', R3_0', R3_1', R4'⟩
        case measure => simp [intOf]; omega
      · have hbf : (decide (k_5 < n_5) && !br_5) = false := by
          cases br_5 with
          | true => simp
          | false => simpa using hgo
        have HGO := Lib.hid (show k_5 = n_5 ∨ br_5 = true by
          cases br_5 with
          | true => exact .inr rfl
          | false => exact .inl (by have : ¬ (k_5 < n_5) := fun hh => hgo ⟨hh, rfl⟩
                                    omega))
        rw [hbf]
        clear hbf hgo
        have L_5 := Lib.hid (HL.out.done HMR5.out HN5.out HGO.out)
        have RX5 := Lib.hid RX.out
        have S5l := Lib.hid SR_.out
        have T5l := Lib.hid TR.out
        clear HL HGO RX SR_ TR HX HMR5 HN5
        go_wp2_with (fail)
        refine (ct_count S5l.out).mono ?_
        rintro e y9 ⟨n_9, p9, b9, rfl, S', T', hn4_9, hMR⟩
        have Br' := T'.keep Br.out (by decide)
        have Bx' := T'.keep Bx.out (by decide)
        have R3_0' := T'.R R3_0.out (by decide)
        have R3_1' := T'.R R3_1.out (by decide)
        have R4' := T'.R R4.out (by decide)
        have RX5' := T'.R RX5.out (by decide)
        clear Br
        have Br := Lib.hid Br'
        clear Br'
        clear Bx
        have Bx := Lib.hid Bx'
        clear Bx'
        clear R3_0
        have R3_0 := Lib.hid R3_0'
        clear R3_0'
        clear R3_1
        have R3_1 := Lib.hid R3_1'
        clear R3_1'
        clear R4
        have R4 := Lib.hid R4'
        clear R4'
        clear RX5
        have RX5 := Lib.hid RX5'
        clear RX5'
        have S9 := Lib.hid S'
        have T9 := Lib.hid (T5l.out.trans T')
        have HMR9 := Lib.hid hMR
        have HN9 := Lib.hid hn4_9
        clear S' T' hMR S5l T5l
        go_wp2_with (fail)
        go_loopw [7] (fun i wr_9 => ∃ k_9 : Nat, k_9 ≤ n_9 ∧ i = .int .i64 k_9 ∧ ∃ (xs_9 : List TGrant) (v_9 : Value) (pr_9 : Nat) (br_9 : Bool), xs_9.length = k_9 ∧ kGrant.R 147 wr_9 w.heap.size (fun _ => True) v_9 xs_9 ∧ CAt w0 wr_9 g1 g2 A c B pr_9 br_9 ∧ Stp SC w wr_9 ∧ TRel dGrant B p9 b9 n_9 k_9 pr_9 br_9 ∧ wr_9.heap[w.heap.size]? = some (.cells #[.int .i64 0, .int .i64 0, .slice none 0 0, .slice none 0 0, .slice none 0 0, .slice none 0 0, .slice none 0 0] 34 (0, 0)) ∧ wr_9.heap[w.heap.size + 1]? = some (.cells #[.int .i64 x1, .int .i64 x2, v3_0, v3_1, .slice A4 x4.length c4, .slice A1_5 xs_5.length c1_5, v_9] 34 (0, 0)) ∧ kSchema.R 128 wr_9 w.heap.size (fun _ => True) (v3_0) (x3.1) ∧ kTable.R 134 wr_9 w.heap.size (fun _ => True) (v3_1) (x3.2) ∧ Kd.string.R 9 wr_9 w.heap.size (fun _ => True) (.slice A4 x4.length c4) x4 ∧ kMember.R 142 wr_9 w.heap.size (fun _ => True) (.slice A1_5 xs_5.length c1_5) xs_5) (fun i _ => n_9 - (intOf i).toNat)
        case atStart => exact ⟨0, Nat.zero_le _, rfl, [], .slice none 0 0, p9, b9, rfl, Kd.R_nil _ _ _ _ _, S9.out, T9.out, TRel.start _ _ _ _ _, Br.out, Bx.out, R3_0.out, R3_1.out, R4.out, RX5.out⟩
        case round =>
          obtain ⟨wr_9, hwr⟩ : ∃ z : World, z = wr := ⟨_, rfl⟩
          subst hwr
          obtain ⟨k_9, hk_9, rfl, xs_9, v_9, pr_9, br_9, hxl, hR, hS, hT, hL, hBr, hBx, hR3_0, hR3_1, hR4, hRX5⟩ := hrel
          obtain ⟨A1_9, c1_9, hv, _, _⟩ := Kd.R_reads hR
          subst hv
          have HX := Lib.hid hxl
          have RX := Lib.hid hR
          have SR_ := Lib.hid hS
          have TR := Lib.hid hT
          have HL := Lib.hid hL
          clear hxl hR hS hT hL S9 T9
          clear Br
          have Br := Lib.hid hBr
          clear hBr
          clear Bx
          have Bx := Lib.hid hBx
          clear hBx
          clear R3_0
          have R3_0 := Lib.hid hR3_0
          clear hR3_0
          clear R3_1
          have R3_1 := Lib.hid hR3_1
          clear hR3_1
          clear R4
          have R4 := Lib.hid hR4
          clear hR4
          clear RX5
          have RX5 := Lib.hid hRX5
          clear hRX5
          have q1 := cell_blk SR_.out.c2 1 _ rfl
          go_upto_region 16 with (fail)
          go_cut [63] (fun v_9 w' => v_9 = .bool (decide (k_9 < n_9) && !br_9) ∧ w' = wr_9)
          case first =>
            by_cases hlt : k_9 < n_9
            · have hlt' : (k_9 : Int) < (n_9 : Int) := by omega
              cases br_9 with
              | true =>
                go_wp2
                go_meet
                case rel => exact ⟨by simp [hlt], rfl⟩
              | false =>
                go_wp2
                go_meet
                case rel => exact ⟨by simp [hlt], rfl⟩
            · have hlt' : ¬ (k_9 : Int) < (n_9 : Int) := by omega
              go_wp2
              go_meet
              case rel => exact ⟨by simp [hlt], rfl⟩
          case rest =>
            obtain ⟨hb_, hw_⟩ := hcut
            replace hw_ := hw_.symm
            subst hw_
            subst hb_
            clear q1
            by_cases hgo : k_9 < n_9 ∧ br_9 = false
            · obtain ⟨hlt, hbr⟩ := hgo
              subst hbr
              rw [show (decide (k_9 < n_9) && !false) = true by simp [hlt]]
              have RX' := row_lt RX.out
              clear RX
              have RX := Lib.hid RX'
              clear RX'
              have HZ := Lib.hid (all_oneCell_toArray (kGrant.K_one (kGrant.K_of_M (w := w) (base := 0) (ok := fun _ => True) (mkMGrant ((⟨#[]⟩ : ByteArray), (⟨#[]⟩ : ByteArray), 0, (⟨#[]⟩ : ByteArray), (⟨#[]⟩ : ByteArray), false) ))))
              obtain ⟨V0, hV0, hth, V1, hV1, hVA, hbx, hbl⟩ := new_box (w := wr_9) (t := 147) (zs := [.string ⟨#[]⟩, .string ⟨#[]⟩, .int .i64 0, .string ⟨#[]⟩, .string ⟨#[]⟩, .bool false]) (cs := [.string ⟨#[]⟩, .string ⟨#[]⟩, .int .i64 0, .string ⟨#[]⟩, .string ⟨#[]⟩, .bool false]) rfl rfl
              have hst : Stp [] wr_9 V1 := Stp.below hbl
              have Br' := hst.keep Br.out (by decide)
              have Bx' := hst.keep Bx.out (by decide)
              have R3_0' := hst.R R3_0.out (by decide)
              have R3_1' := hst.R R3_1.out (by decide)
              have R4' := hst.R R4.out (by decide)
              have RX5' := hst.R RX5.out (by decide)
              have RX' := hst.R RX.out (by decide)
              clear Br
              have Br := Lib.hid Br'
              clear Br'
              clear Bx
              have Bx := Lib.hid Bx'
              clear Bx'
              clear R3_0
              have R3_0 := Lib.hid R3_0'
              clear R3_0'
              clear R3_1
              have R3_1 := Lib.hid R3_1'
              clear R3_1'
              clear R4
              have R4 := Lib.hid R4'
              clear R4'
              clear RX5
              have RX5 := Lib.hid RX5'
              clear RX5'
              clear RX
              have RX := Lib.hid RX'
              clear RX'
              have S' := SR_.out.stays hbl
              have T' := TR.out.trans (Stp.below hbl)
              have HWE := Lib.hid TR.out.size
              have Be := Lib.hid hbx
              have HV0 := Lib.hid hV0
              have HV1 := Lib.hid hV1
              have HVA := Lib.hid hVA
              have HTH0 := Lib.hid hth
              clear hV0 hV1 hVA hth hst hbx hbl SR_ TR
              have S10 := Lib.hid S'
              have T10 := Lib.hid T'
              clear S' T'
              go_wp2_with (((with_reducible refine gate_store (t := 147) rfl ?_); rw [show wr_9.alloc (.cells #[.string ⟨#[]⟩, .string ⟨#[]⟩, .int .i64 0, .string ⟨#[]⟩, .string ⟨#[]⟩, .bool false] 147) = V0 from HV0.out]; refine wpList_store_mid rfl 147 _ _ rfl wr_9.heap.size 0 #[.string ⟨#[]⟩, .string ⟨#[]⟩, .int .i64 0, .string ⟨#[]⟩, .string ⟨#[]⟩, .bool false] rfl rfl HTH0.out (by kernel_rfl) HZ.out ?_; (first | rw [HV1.out] | (erw [HV1.out]))))
              try rw [HVA.out]
              clear HV0 HV1 HVA HTH0 HZ
              refine (ct_text S10.out).mono ?_
              rintro e y11 ⟨_, p11, b11, rfl, ⟨x11, rfl⟩, S', T', hr⟩
              have Br' := T'.keep Br.out (by decide)
              have Bx' := T'.keep Bx.out (by decide)
              have Be' := T'.keep Be.out (by decide)
              have R3_0' := T'.R R3_0.out (by decide)
              have R3_1' := T'.R R3_1.out (by decide)
              have R4' := T'.R R4.out (by decide)
              have RX5' := T'.R RX5.out (by decide)
              have RX' := T'.R RX.out (by decide)
              clear Br
              have Br := Lib.hid Br'
              clear Br'
              clear Bx
              have Bx := Lib.hid Bx'
              clear Bx'
              clear Be
              have Be := Lib.hid Be'
              clear Be'
              clear R3_0
              have R3_0 := Lib.hid R3_0'
              clear R3_0'
              clear R3_1
              have R3_1 := Lib.hid R3_1'
              clear R3_1'
              clear R4
              have R4 := Lib.hid R4'
              clear R4'
              clear RX5
              have RX5 := Lib.hid RX5'
              clear RX5'
              clear RX
              have RX := Lib.hid RX'
              clear RX'
              have S11 := Lib.hid S'
              have T11 := Lib.hid (T10.out.trans T')
              have L11 := Lib.hid hr
              clear S' T' hr S10 T10
              have hbx := Be.out
              have q := cell_blk hbx 0 _ rfl
              have fz := frozen_at hbx 0
              obtain ⟨w11, hw, hb2, hst, hbl, hot⟩ := put_one hbx 0 (.string x11)
              have Be' : w11.heap[wr_9.heap.size]? = some (.cells #[.string x11, .string ⟨#[]⟩, .int .i64 0, .string ⟨#[]⟩, .string ⟨#[]⟩, .bool false] 147 (0, 0)) := hb2
              have Br' := hst.keep Br.out (by decide)
              have Bx' := hst.keep Bx.out (by decide)
              have R3_0' := hst.R R3_0.out (by decide)
              have R3_1' := hst.R R3_1.out (by decide)
              have R4' := hst.R R4.out (by decide)
              have RX5' := hst.R RX5.out (by decide)
              have RX' := row_apart RX.out hot
              clear Br
              have Br := Lib.hid Br'
              clear Br'
              clear Bx
              have Bx := Lib.hid Bx'
              clear Bx'
              clear Be
              have Be := Lib.hid Be'
              clear Be'
              clear R3_0
              have R3_0 := Lib.hid R3_0'
              clear R3_0'
              clear R3_1
              have R3_1 := Lib.hid R3_1'
              clear R3_1'
              clear R4
              have R4 := Lib.hid R4'
              clear R4'
              clear RX5
              have RX5 := Lib.hid RX5'
              clear RX5'
              clear RX
              have RX := Lib.hid RX'
              clear RX'
              have S11' := S11.out.stp hst (by decide) (hbl _ (by have := HSZ.out; have := HWE.out; omega))
              have T11' := T11.out.then (hbl w.heap.size (by have := HSZ.out; have := HWE.out; omega))
              have HV := Lib.hid hw
              clear hw hb2 hst hbl hot hbx
              clear S11 T11
              have S11s := Lib.hid S11'
              have T11s := Lib.hid T11'
              clear S11' T11'
              go_wp2_with (fail)
              first | rw [HV.out] | (erw [HV.out])
              clear HV q fz
              refine (ct_text S11s.out).mono ?_
              rintro e y12 ⟨_, p12, b12, rfl, ⟨x12, rfl⟩, S', T', hr⟩
              have Br' := T'.keep Br.out (by decide)
              have Bx' := T'.keep Bx.out (by decide)
              have Be' := T'.keep Be.out (by decide)
              have R3_0' := T'.R R3_0.out (by decide)
              have R3_1' := T'.R R3_1.out (by decide)
              have R4' := T'.R R4.out (by decide)
              have RX5' := T'.R RX5.out (by decide)
              have RX' := T'.R RX.out (by decide)
              clear Br
              have Br := Lib.hid Br'
              clear Br'
              clear Bx
              have Bx := Lib.hid Bx'
              clear Bx'
              clear Be
              have Be := Lib.hid Be'
              clear Be'
              clear R3_0
              have R3_0 := Lib.hid R3_0'
              clear R3_0'
              clear R3_1
              have R3_1 := Lib.hid R3_1'
              clear R3_1'
              clear R4
              have R4 := Lib.hid R4'
              clear R4'
              clear RX5
              have RX5 := Lib.hid RX5'
              clear RX5'
              clear RX
              have RX := Lib.hid RX'
              clear RX'
              have S12 := Lib.hid S'
              have T12 := Lib.hid (T11s.out.trans T')
              have L12 := Lib.hid hr
              clear S' T' hr S11s T11s
              have hbx := Be.out
              have q := cell_blk hbx 1 _ rfl
              have fz := frozen_at hbx 1
              obtain ⟨w12, hw, hb2, hst, hbl, hot⟩ := put_one hbx 1 (.string x12)
              have Be' : w12.heap[wr_9.heap.size]? = some (.cells #[.string x11, .string x12, .int .i64 0, .string ⟨#[]⟩, .string ⟨#[]⟩, .bool false] 147 (0, 0)) := hb2
              have Br' := hst.keep Br.out (by decide)
              have Bx' := hst.keep Bx.out (by decide)
              have R3_0' := hst.R R3_0.out (by decide)
              have R3_1' := hst.R R3_1.out (by decide)
              have R4' := hst.R R4.out (by decide)
              have RX5' := hst.R RX5.out (by decide)
              have RX' := row_apart RX.out hot
              clear Br
              have Br := Lib.hid Br'
              clear Br'
              clear Bx
              have Bx := Lib.hid Bx'
              clear Bx'
              clear Be
              have Be := Lib.hid Be'
              clear Be'
              clear R3_0
              have R3_0 := Lib.hid R3_0'
              clear R3_0'
              clear R3_1
              have R3_1 := Lib.hid R3_1'
              clear R3_1'
              clear R4
              have R4 := Lib.hid R4'
              clear R4'
              clear RX5
              have RX5 := Lib.hid RX5'
              clear RX5'
              clear RX
              have RX := Lib.hid RX'
              clear RX'
              have S12' := S12.out.stp hst (by decide) (hbl _ (by have := HSZ.out; have := HWE.out; omega))
              have T12' := T12.out.then (hbl w.heap.size (by have := HSZ.out; have := HWE.out; omega))
              have HV := Lib.hid hw
              clear hw hb2 hst hbl hot hbx
              clear S12 T12
              have S12s := Lib.hid S12'
              have T12s := Lib.hid T12'
              clear S12' T12'
              go_wp2_with (fail)
              first | rw [HV.out] | (erw [HV.out])
              clear HV q fz
              refine (ct_num S12s.out).mono ?_
              rintro e y13 ⟨_, p13, b13, rfl, ⟨x13, rfl⟩, S', T', hr⟩
              have Br' := T'.keep Br.out (by decide)
              have Bx' := T'.keep Bx.out (by decide)
              have Be' := T'.keep Be.out (by decide)
              have R3_0' := T'.R R3_0.out (by decide)
              have R3_1' := T'.R R3_1.out (by decide)
              have R4' := T'.R R4.out (by decide)
              have RX5' := T'.R RX5.out (by decide)
              have RX' := T'.R RX.out (by decide)
              clear Br
              have Br := Lib.hid Br'
              clear Br'
              clear Bx
              have Bx := Lib.hid Bx'
              clear Bx'
              clear Be
              have Be := Lib.hid Be'
              clear Be'
              clear R3_0
              have R3_0 := Lib.hid R3_0'
              clear R3_0'
              clear R3_1
              have R3_1 := Lib.hid R3_1'
              clear R3_1'
              clear R4
              have R4 := Lib.hid R4'
              clear R4'
              clear RX5
              have RX5 := Lib.hid RX5'
              clear RX5'
              clear RX
              have RX := Lib.hid RX'
              clear RX'
              have S13 := Lib.hid S'
              have T13 := Lib.hid (T12s.out.trans T')
              have L13 := Lib.hid hr
              clear S' T' hr S12s T12s
              have hbx := Be.out
              have q := cell_blk hbx 2 _ rfl
              have fz := frozen_at hbx 2
              obtain ⟨w13, hw, hb2, hst, hbl, hot⟩ := put_one hbx 2 (.int .i64 x13)
              have Be' : w13.heap[wr_9.heap.size]? = some (.cells #[.string x11, .string x12, .int .i64 x13, .string ⟨#[]⟩, .string ⟨#[]⟩, .bool false] 147 (0, 0)) := hb2
              have Br' := hst.keep Br.out (by decide)
              have Bx' := hst.keep Bx.out (by decide)
              have R3_0' := hst.R R3_0.out (by decide)
              have R3_1' := hst.R R3_1.out (by decide)
              have R4' := hst.R R4.out (by decide)
              have RX5' := hst.R RX5.out (by decide)
              have RX' := row_apart RX.out hot
              clear Br
              have Br := Lib.hid Br'
              clear Br'
              clear Bx
              have Bx := Lib.hid Bx'
              clear Bx'
              clear Be
              have Be := Lib.hid Be'
              clear Be'
              clear R3_0
              have R3_0 := Lib.hid R3_0'
              clear R3_0'
              clear R3_1
              have R3_1 := Lib.hid R3_1'
              clear R3_1'
              clear R4
              have R4 := Lib.hid R4'
              clear R4'
              clear RX5
              have RX5 := Lib.hid RX5'
              clear RX5'
              clear RX
              have RX := Lib.hid RX'
              clear RX'
              have S13' := S13.out.stp hst (by decide) (hbl _ (by have := HSZ.out; have := HWE.out; omega))
              have T13' := T13.out.then (hbl w.heap.size (by have := HSZ.out; have := HWE.out; omega))
              have HV := Lib.hid hw
              clear hw hb2 hst hbl hot hbx
              clear S13 T13
              have S13s := Lib.hid S13'
              have T13s := Lib.hid T13'
              clear S13' T13'
              go_wp2_with (fail)
              first | rw [HV.out] | (erw [HV.out])
              clear HV q fz
              refine (ct_text S13s.out).mono ?_
              rintro e y14 ⟨_, p14, b14, rfl, ⟨x14, rfl⟩, S', T', hr⟩
              have Br' := T'.keep Br.out (by decide)
              have Bx' := T'.keep Bx.out (by decide)
              have Be' := T'.keep Be.out (by decide)
              have R3_0' := T'.R R3_0.out (by decide)
              have R3_1' := T'.R R3_1.out (by decide)
              have R4' := T'.R R4.out (by decide)
              have RX5' := T'.R RX5.out (by decide)
              have RX' := T'.R RX.out (by decide)
              clear Br
              have Br := Lib.hid Br'
              clear Br'
              clear Bx
              have Bx := Lib.hid Bx'
              clear Bx'
              clear Be
              have Be := Lib.hid Be'
              clear Be'
              clear R3_0
              have R3_0 := Lib.hid R3_0'
              clear R3_0'
              clear R3_1
              have R3_1 := Lib.hid R3_1'
              clear R3_1'
              clear R4
              have R4 := Lib.hid R4'
              clear R4'
              clear RX5
              have RX5 := Lib.hid RX5'
              clear RX5'
              clear RX
              have RX := Lib.hid RX'
              clear RX'
              have S14 := Lib.hid S'
              have T14 := Lib.hid (T13s.out.trans T')
              have L14 := Lib.hid hr
              clear S' T' hr S13s T13s
              have hbx := Be.out
              have q := cell_blk hbx 3 _ rfl
              have fz := frozen_at hbx 3
              obtain ⟨w14, hw, hb2, hst, hbl, hot⟩ := put_one hbx 3 (.string x14)
              have Be' : w14.heap[wr_9.heap.size]? = some (.cells #[.string x11, .string x12, .int .i64 x13, .string x14, .string ⟨#[]⟩, .bool false] 147 (0, 0)) := hb2
              have Br' := hst.keep Br.out (by decide)
              have Bx' := hst.keep Bx.out (by decide)
              have R3_0' := hst.R R3_0.out (by decide)
              have R3_1' := hst.R R3_1.out (by decide)
              have R4' := hst.R R4.out (by decide)
              have RX5' := hst.R RX5.out (by decide)
              have RX' := row_apart RX.out hot
              clear Br
              have Br := Lib.hid Br'
              clear Br'
              clear Bx
              have Bx := Lib.hid Bx'
              clear Bx'
              clear Be
              have Be := Lib.hid Be'
              clear Be'
              clear R3_0
              have R3_0 := Lib.hid R3_0'
              clear R3_0'
              clear R3_1
              have R3_1 := Lib.hid R3_1'
              clear R3_1'
              clear R4
              have R4 := Lib.hid R4'
              clear R4'
              clear RX5
              have RX5 := Lib.hid RX5'
              clear RX5'
              clear RX
              have RX := Lib.hid RX'
              clear RX'
              have S14' := S14.out.stp hst (by decide) (hbl _ (by have := HSZ.out; have := HWE.out; omega))
              have T14' := T14.out.then (hbl w.heap.size (by have := HSZ.out; have := HWE.out; omega))
              have HV := Lib.hid hw
              clear hw hb2 hst hbl hot hbx
              clear S14 T14
              have S14s := Lib.hid S14'
              have T14s := Lib.hid T14'
              clear S14' T14'
              go_wp2_with (fail)
              first | rw [HV.out] | (erw [HV.out])
              clear HV q fz
              refine (ct_text S14s.out).mono ?_
              rintro e y15 ⟨_, p15, b15, rfl, ⟨x15, rfl⟩, S', T', hr⟩
              have Br' := T'.keep Br.out (by decide)
              have Bx' := T'.keep Bx.out (by decide)
              have Be' := T'.keep Be.out (by decide)
              have R3_0' := T'.R R3_0.out (by decide)
              have R3_1' := T'.R R3_1.out (by decide)
              have R4' := T'.R R4.out (by decide)
              have RX5' := T'.R RX5.out (by decide)
              have RX' := T'.R RX.out (by decide)
              clear Br
              have Br := Lib.hid Br'
              clear Br'
              clear Bx
              have Bx := Lib.hid Bx'
              clear Bx'
              clear Be
              have Be := Lib.hid Be'
              clear Be'
              clear R3_0
              have R3_0 := Lib.hid R3_0'
              clear R3_0'
              clear R3_1
              have R3_1 := Lib.hid R3_1'
              clear R3_1'
              clear R4
              have R4 := Lib.hid R4'
              clear R4'
              clear RX5
              have RX5 := Lib.hid RX5'
              clear RX5'
              clear RX
              have RX := Lib.hid RX'
              clear RX'
              have S15 := Lib.hid S'
              have T15 := Lib.hid (T14s.out.trans T')
              have L15 := Lib.hid hr
              clear S' T' hr S14s T14s
              have hbx := Be.out
              have q := cell_blk hbx 4 _ rfl
              have fz := frozen_at hbx 4
              obtain ⟨w15, hw, hb2, hst, hbl, hot⟩ := put_one hbx 4 (.string x15)
              have Be' : w15.heap[wr_9.heap.size]? = some (.cells #[.string x11, .string x12, .int .i64 x13, .string x14, .string x15, .bool false] 147 (0, 0)) := hb2
              have Br' := hst.keep Br.out (by decide)
              have Bx' := hst.keep Bx.out (by decide)
              have R3_0' := hst.R R3_0.out (by decide)
              have R3_1' := hst.R R3_1.out (by decide)
              have R4' := hst.R R4.out (by decide)
              have RX5' := hst.R RX5.out (by decide)
              have RX' := row_apart RX.out hot
              clear Br
              have Br := Lib.hid Br'
              clear Br'
              clear Bx
              have Bx := Lib.hid Bx'
              clear Bx'
              clear Be
              have Be := Lib.hid Be'
              clear Be'
              clear R3_0
              have R3_0 := Lib.hid R3_0'
              clear R3_0'
              clear R3_1
              have R3_1 := Lib.hid R3_1'
              clear R3_1'
              clear R4
              have R4 := Lib.hid R4'
              clear R4'
              clear RX5
              have RX5 := Lib.hid RX5'
              clear RX5'
              clear RX
              have RX := Lib.hid RX'
              clear RX'
              have S15' := S15.out.stp hst (by decide) (hbl _ (by have := HSZ.out; have := HWE.out; omega))
              have T15' := T15.out.then (hbl w.heap.size (by have := HSZ.out; have := HWE.out; omega))
              have HV := Lib.hid hw
              clear hw hb2 hst hbl hot hbx
              clear S15 T15
              have S15s := Lib.hid S15'
              have T15s := Lib.hid T15'
              clear S15' T15'
              go_wp2_with (fail)
              first | rw [HV.out] | (erw [HV.out])
              clear HV q fz
              refine (ct_flag S15s.out).mono ?_
              rintro e y16 ⟨_, p16, b16, rfl, ⟨x16, rfl⟩, S', T', hr⟩
              have Br' := T'.keep Br.out (by decide)
              have Bx' := T'.keep Bx.out (by decide)
              have Be' := T'.keep Be.out (by decide)
              have R3_0' := T'.R R3_0.out (by decide)
              have R3_1' := T'.R R3_1.out (by decide)
              have R4' := T'.R R4.out (by decide)
              have RX5' := T'.R RX5.out (by decide)
              have RX' := T'.R RX.out (by decide)
              clear Br
              have Br := Lib.hid Br'
              clear Br'
              clear Bx
              have Bx := Lib.hid Bx'
              clear Bx'
              clear Be
              have Be := Lib.hid Be'
              clear Be'
              clear R3_0
              have R3_0 := Lib.hid R3_0'
              clear R3_0'
              clear R3_1
              have R3_1 := Lib.hid R3_1'
              clear R3_1'
              clear R4
              have R4 := Lib.hid R4'
              clear R4'
              clear RX5
              have RX5 := Lib.hid RX5'
              clear RX5'
              clear RX
              have RX := Lib.hid RX'
              clear RX'
              have S16 := Lib.hid S'
              have T16 := Lib.hid (T15s.out.trans T')
              have L16 := Lib.hid hr
              clear S' T' hr S15s T15s
              have hbx := Be.out
              have q := cell_blk hbx 5 _ rfl
              have fz := frozen_at hbx 5
              obtain ⟨w16, hw, hb2, hst, hbl, hot⟩ := put_one hbx 5 (.bool x16)
              have Be' : w16.heap[wr_9.heap.size]? = some (.cells #[.string x11, .string x12, .int .i64 x13, .string x14, .string x15, .bool x16] 147 (0, 0)) := hb2
              have Br' := hst.keep Br.out (by decide)
              have Bx' := hst.keep Bx.out (by decide)
              have R3_0' := hst.R R3_0.out (by decide)
              have R3_1' := hst.R R3_1.out (by decide)
              have R4' := hst.R R4.out (by decide)
              have RX5' := hst.R RX5.out (by decide)
              have RX' := row_apart RX.out hot
              clear Br
              have Br := Lib.hid Br'
              clear Br'
              clear Bx
              have Bx := Lib.hid Bx'
              clear Bx'
              clear Be
              have Be := Lib.hid Be'
              clear Be'
              clear R3_0
              have R3_0 := Lib.hid R3_0'
              clear R3_0'
              clear R3_1
              have R3_1 := Lib.hid R3_1'
              clear R3_1'
              clear R4
              have R4 := Lib.hid R4'
              clear R4'
              clear RX5
              have RX5 := Lib.hid RX5'
              clear RX5'
              clear RX
              have RX := Lib.hid RX'
              clear RX'
              have S16' := S16.out.stp hst (by decide) (hbl _ (by have := HSZ.out; have := HWE.out; omega))
              have T16' := T16.out.then (hbl w.heap.size (by have := HSZ.out; have := HWE.out; omega))
              have HV := Lib.hid hw
              clear hw hb2 hst hbl hot hbx
              clear S16 T16
              have S16s := Lib.hid S16'
              have T16s := Lib.hid T16'
              clear S16' T16'
              go_upto_region 25 with (fail)
              first | rw [HV.out] | (erw [HV.out])
              clear HV q fz
              have RX' := row_all RX.out
              clear RX
              have RX := Lib.hid RX'
              clear RX'
              have HL' := Lib.hid (HL.out.step hlt (CRel.seq L11.out (CRel.seq L12.out (CRel.seq L13.out (CRel.seq L14.out (CRel.seq L15.out (L16.out)))))))
              clear HL
              have HE := Lib.hid (elem_ok (mkMGrant (w := w16) (base := w16.heap.size) (ok := fun _ => True) (x11, x12, x13, x14, x15, x16)) (fun k_9 hk_9 => Kd.R_lt RX.out k_9 hk_9) (Nat.le_trans T16s.out.size (Nat.le_refl _)) (v := Value.slice A1_9 xs_9.length c1_9))
              have HRG := Lib.hid (range_blk [] [.string x11, .string x12, .int .i64 x13, .string x14, .string x15, .bool x16] [] Be.out)
              have q5 := cell_blk Bx.out 6 _ rfl
              go_wp2_with (first | ((with_reducible refine gate_load (t := 147) rfl ?_); refine wpList_load_mid rfl 147 _ rfl (wr_9.heap.size) 0 rfl [.string x11, .string x12, .int .i64 x13, .string x14, .string x15, .bool x16] _ HRG.out Tryz.underlying147 rfl (by kernel_rfl) ?_) | ((with_reducible refine gate_builtin (b := .append) (xs := #[.tmp 86, .tmp 88]) rfl ?_); at_builtin; refine Kd.R_append kGrant (w0 := w16) w.heap.size rfl (.tmp 86) (.tmp 88) 32 147 (.agg #[.string ⟨#[]⟩, .string ⟨#[]⟩, .int .i64 0, .string ⟨#[]⟩, .string ⟨#[]⟩, .bool false]) 80 rfl Tryz.underlying32 info_Grant rfl (by decide) (by decide) (.slice A1_9 xs_9.length c1_9) xs_9 (x11, x12, x13, x14, x15, x16) [.string x11, .string x12, .int .i64 x13, .string x14, .string x15, .bool x16] (fun _ => True) (fun k_9 => True ∧ some k_9 ≠ (Value.ownBlock (.slice A1_9 xs_9.length c1_9))) rfl rfl HE.out (fun _ h => h) (fun _ _ => trivial) RX.out (Below.refl _ _) (Nat.le_trans T16s.out.size (Nat.le_refl _)) (by have := HX.out; omega) ?_; intro v1 w4 ho hb hg hat; have HB4 := Lib.hid hb; have HG4 := Lib.hid hg; obtain ⟨A2_, c2_, hv2, _, _⟩ := Kd.R_reads ho; subst hv2; rw [show (xs_9 ++ [(x11, x12, x13, x14, x15, x16)]).length = xs_9.length + 1 from by simp] at ho; have RX4 := Lib.hid ho; clear ho hb hg hat; have q4 := cell_blk ((Stp.row RX.out HG4.out).keep Bx.out (by decide)) 6 _ rfl; have f4 := frozen_at ((Stp.row RX.out HG4.out).keep Bx.out (by decide)) 6))
              clear HRG HE
              try clear q5
              try clear q4
              try clear f4
              clear Be
              have hst := Stp.row RX.out HG4.out
              have Br' := hst.keep Br.out (by decide)
              have Bx' := hst.keep Bx.out (by decide)
              have R3_0' := hst.R R3_0.out (by decide)
              have R3_1' := hst.R R3_1.out (by decide)
              have R4' := hst.R R4.out (by decide)
              have RX5' := hst.R RX5.out (by decide)
              have S4' := S16s.out.stp hst (by decide) (HB4.out.mono (Nat.le_trans HSZ.out (Nat.le_refl _)))
              have T4' := T16s.out.then HB4.out
              clear hst S16s T16s
              have S4 := Lib.hid S4'
              have T4 := Lib.hid T4'
              clear S4' T4'
              clear Br
              have Br := Lib.hid Br'
              clear Br'
              clear Bx
              have Bx := Lib.hid Bx'
              clear Bx'
              clear R3_0
              have R3_0 := Lib.hid R3_0'
              clear R3_0'
              clear R3_1
              have R3_1 := Lib.hid R3_1'
              clear R3_1'
              clear R4
              have R4 := Lib.hid R4'
              clear R4'
              clear RX5
              have RX5 := Lib.hid RX5'
              clear RX5'
              clear RX
              have HX4 := Lib.hid (show (xs_9 ++ [(x11, x12, x13, x14, x15, x16)]).length = k_9 + 1 by rw [List.length_append, HX.out]; rfl)
              obtain ⟨w5, hw, hb2, hst, hbl, hot⟩ := put_one Bx.out 6 (.slice A2_ (xs_9.length + 1) c2_)
              have Bx' : w5.heap[w.heap.size + 1]? = some (.cells #[.int .i64 x1, .int .i64 x2, v3_0, v3_1, .slice A4 x4.length c4, .slice A1_5 xs_5.length c1_5, .slice A2_ (xs_9.length + 1) c2_] 34 (0, 0)) := hb2
              have Br' := (hot _ (by omega)).trans Br.out
              have R3_0' := hst.R R3_0.out (by decide)
              have R3_1' := hst.R R3_1.out (by decide)
              have R4' := hst.R R4.out (by decide)
              have RX5' := hst.R RX5.out (by decide)
              have RX4' := hst.R RX4.out (by decide)
              have S5 := S4.out.stp hst (by decide) (hbl _ (by have := HSZ.out; omega))
              have T5 := T4.out.then (hbl w.heap.size (by omega))
              first | rw [hw] | (erw [hw])
              go_roundw
              case rel => exact ⟨k_9 + 1, by omega, by simp, _, _, p16, b16, HX4.out, RX4', S5, T5, HL'.out, Br', Bx', R3_0', R3_1', R4', RX5'⟩
              case measure => simp [intOf]; omega
            · have hbf : (decide (k_9 < n_9) && !br_9) = false := by
                cases br_9 with
                | true => simp
                | false => simpa using hgo
              have HGO := Lib.hid (show k_9 = n_9 ∨ br_9 = true by
                cases br_9 with
                | true => exact .inr rfl
                | false => exact .inl (by have : ¬ (k_9 < n_9) := fun hh => hgo ⟨hh, rfl⟩
                                          omega))
              rw [hbf]
              clear hbf hgo
              have L_9 := Lib.hid (HL.out.done HMR9.out HN9.out HGO.out)
              have RX9 := Lib.hid RX.out
              have S9l := Lib.hid SR_.out
              have T9l := Lib.hid TR.out
              clear HL HGO RX SR_ TR HX HMR9 HN9
              go_upto_region 26 with (fail)
              have HM := Lib.hid (mkMCatalog (w := wr_9) (base := w.heap.size) (ok := fun _ => True) (x1, x2, x3, (x4, xs_5), xs_9) R3_0.out R3_1.out R4.out RX5.out RX9.out)
              obtain ⟨WF, hWF, hbF, hst, hblF, hotF⟩ := put_many [] [.int .i64 0, .int .i64 0, .slice none 0 0, .slice none 0 0, .slice none 0 0, .slice none 0 0, .slice none 0 0] [.int .i64 x1, .int .i64 x2, v3_0, v3_1, .slice A4 x4.length c4, .slice A1_5 xs_5.length c1_5, .slice A1_9 xs_9.length c1_9] [] Br.out rfl
              have HF := Lib.hid hWF
              have BF := Lib.hid hbF
              have HFT := Lib.hid (there_blk [] [.int .i64 0, .int .i64 0, .slice none 0 0, .slice none 0 0, .slice none 0 0, .slice none 0 0, .slice none 0 0] [] Br.out)
              have HRG := Lib.hid (range_blk [] [.int .i64 x1, .int .i64 x2, v3_0, v3_1, .slice A4 x4.length c4, .slice A1_5 xs_5.length c1_5, .slice A1_9 xs_9.length c1_9] [] Bx.out)
              have HON := Lib.hid (all_oneCell_toArray (kCatalog.K_one (kCatalog.K_of_M HM.out)))
              have HMF := Lib.hid (hst.M HM.out (by decide))
              have SF := Lib.hid (S9l.out.stp hst (by decide) (hblF _ HSZ.out))
              have TF := Lib.hid (T9l.out.then (hblF _ (Nat.le_refl _)))
              clear hWF hbF hst hblF hotF HM Bx Br R3_0 R3_1 R4 RX5 RX9
              go_wp2_with (first | ((with_reducible refine gate_load (t := 34) rfl ?_); refine wpList_load_mid rfl 34 _ rfl (w.heap.size + 1) 0 rfl [.int .i64 x1, .int .i64 x2, v3_0, v3_1, .slice A4 x4.length c4, .slice A1_5 xs_5.length c1_5, .slice A1_9 xs_9.length c1_9] _ HRG.out Tryz.underlying34 rfl (by kernel_rfl) ?_) | ((with_reducible refine gate_store (t := 34) rfl ?_); refine wpList_store_mid rfl 34 _ _ rfl w.heap.size 0 #[.int .i64 x1, .int .i64 x2, v3_0, v3_1, .slice A4 x4.length c4, .slice A1_5 xs_5.length c1_5, .slice A1_9 xs_9.length c1_9] rfl rfl HFT.out (by kernel_rfl) HON.out ?_; (first | rw [HF.out] | (erw [HF.out]))))
              refine bodyPost_ret (v := .agg #[.int .i64 x1, .int .i64 x2, v3_0, v3_1, .slice A4 x4.length c4, .slice A1_5 xs_5.length c1_5, .slice A1_9 xs_9.length c1_9]) (results_cell_row rfl _ _ w.heap.size 34 #[.int .i64 x1, .int .i64 x2, v3_0, v3_1, .slice A4 x4.length c4, .slice A1_5 xs_5.length c1_5, .slice A1_9 xs_9.length c1_9] (0, 0) _ rfl BF.out Tryz.underlying34 rfl (by kernel_rfl)) rfl ?_
              exact ⟨_, pr_9, br_9, rfl, ⟨(x1, x2, x3, (x4, xs_5), xs_9), _, HMF.out, rfl⟩, SF.out, TF.out, CRel.seq L1.out (CRel.seq L2.out (CRel.seq L3.out (CRel.seq (CRel.seq L4.out (L_5.out)) (L_9.out))))⟩
end Go.Proofs.YtoomcdgnnibjlaaGreat.Wr
/- The document's reader: a machine. -/
namespace Go.Proofs.YtoomcdgnnibjlaaGreat.Wr
open Go.RowKit Go.Proofs.YtoomcdgnnibjlaaGreatW.PrintWords Go.Proofs.YtoomcdgnnibjlaaGreatW.PrintLast
set_option linter.unusedVariables false
set_option linter.unusedSimpArgs false

set_option maxRecDepth 100000 in
set_option maxHeartbeats 16000000 in
theorem ct_Machine {w0 w : World} {g1 g2 c p0 : Nat} {A : Option Addr} {B : Bs} {b0 : Bool} (h : CAt w0 w g1 g2 A c B p0 b0) :
    Calls Tryz.prog 13 #[.pointer (some ⟨g2, 0, none⟩)] w (CDone dMachine (POf kMachine w) w0 g1 g2 A c B w p0 b0) := by
  obtain ⟨V1, hV0, hth, hV1, hr0, hx0, hbl⟩ := two_boxes (w := w) (t := 38) (zs := [.int .i64 0, .int .i64 0, .slice none 0 0, .slice none 0 0, .slice none 0 0, .slice none 0 0, .slice none 0 0, .slice none 0 0, .slice none 0 0, .int .i64 0]) rfl
  have HSZ := Lib.hid h.below.size
  have S0 := Lib.hid (h.stays hbl)
  have T0 := Lib.hid (Stp.below (S := SC) hbl)
  have Br := Lib.hid hr0
  have Bx := Lib.hid hx0
  have HV0 := Lib.hid hV0
  have HV1 := Lib.hid hV1
  have HTH0 := Lib.hid hth
  clear h hV0 hth hV1 hr0 hx0 hbl
  go_enter Tryz.func13, Tryz.ntmps13
  have HZ := Lib.hid (all_oneCell_toArray (kMachine.K_one (kMachine.K_of_M (w := w) (base := 0) (ok := fun _ => True) (mkMMachine ((0, 0, ([], []), ([], []), []), [], [], 0) (Kd.R_nil _ _ _ _ _) (Kd.R_nil _ _ _ _ _) (Kd.R_nil _ _ _ _ _) (Kd.R_nil _ _ _ _ _) (Kd.R_nil _ _ _ _ _) (Kd.R_nil _ _ _ _ _) (Kd.R_nil _ _ _ _ _)))))
  go_wp2_with (((with_reducible refine gate_store (t := 38) rfl ?_); rw [show (w.alloc (.cells #[.int .i64 0, .int .i64 0, .slice none 0 0, .slice none 0 0, .slice none 0 0, .slice none 0 0, .slice none 0 0, .slice none 0 0, .slice none 0 0, .int .i64 0] 38)).alloc (.cells #[.int .i64 0, .int .i64 0, .slice none 0 0, .slice none 0 0, .slice none 0 0, .slice none 0 0, .slice none 0 0, .slice none 0 0, .slice none 0 0, .int .i64 0] 38) = V1 from HV0.out]; refine wpList_store_mid rfl 38 _ _ rfl (w.heap.size + 1) 0 #[.int .i64 0, .int .i64 0, .slice none 0 0, .slice none 0 0, .slice none 0 0, .slice none 0 0, .slice none 0 0, .slice none 0 0, .slice none 0 0, .int .i64 0] rfl rfl HTH0.out (by kernel_rfl) HZ.out ?_; (first | rw [HV1.out] | (erw [HV1.out]))))
  try rw [HV0.out]
  clear HV0 HV1 HTH0 HZ
  refine (ct_Catalog S0.out).mono ?_
  rintro e y1 ⟨_, p1, b1, rfl, ⟨x1, cs, hM, rfl⟩, S', T', hr⟩
  have Br' := T'.keep Br.out (by decide)
  have Bx' := T'.keep Bx.out (by decide)
  have hone := all_oneCell_toArray (kCatalog.K_one (kCatalog.K_of_M hM))
  have HON1 := Lib.hid hone
  clear hone
  obtain ⟨v1_2, v1_3, v1_4, v1_5, v1_6, rfl, hR1_2, hR1_3, hR1_4, hR1_5, hR1_6⟩ := openMCatalog hM
  have R1_2_ := Kd.R_lower hR1_2 T0.out.size
  have R1_2 := Lib.hid R1_2_
  clear hR1_2 R1_2_
  have R1_3_ := Kd.R_lower hR1_3 T0.out.size
  have R1_3 := Lib.hid R1_3_
  clear hR1_3 R1_3_
  have R1_4_ := Kd.R_lower hR1_4 T0.out.size
  have R1_4 := Lib.hid R1_4_
  clear hR1_4 R1_4_
  have R1_5_ := Kd.R_lower hR1_5 T0.out.size
  have R1_5 := Lib.hid R1_5_
  clear hR1_5 R1_5_
  have R1_6_ := Kd.R_lower hR1_6 T0.out.size
  have R1_6 := Lib.hid R1_6_
  clear hR1_6 R1_6_
  clear Br
  have Br := Lib.hid Br'
  clear Br'
  clear Bx
  have Bx := Lib.hid Bx'
  clear Bx'
  have S1 := Lib.hid S'
  have T1 := Lib.hid (T0.out.trans T')
  have L1 := Lib.hid hr
  clear S' T' hr S0 T0
  have hbx := Bx.out
  have hth := there_blk [] [.int .i64 0, .int .i64 0, .slice none 0 0, .slice none 0 0, .slice none 0 0, .slice none 0 0, .slice none 0 0] [.slice none 0 0, .slice none 0 0, .int .i64 0] hbx
  have HTH := Lib.hid hth
  clear hth
  obtain ⟨w1, hw, hb2, hst, hbl, hot⟩ := put_many [] [.int .i64 0, .int .i64 0, .slice none 0 0, .slice none 0 0, .slice none 0 0, .slice none 0 0, .slice none 0 0] [.int .i64 x1.1, .int .i64 x1.2.1, v1_2, v1_3, v1_4, v1_5, v1_6] [.slice none 0 0, .slice none 0 0, .int .i64 0] hbx rfl
  have Bx' : w1.heap[w.heap.size + 1]? = some (.cells #[.int .i64 x1.1, .int .i64 x1.2.1, v1_2, v1_3, v1_4, v1_5, v1_6, .slice none 0 0, .slice none 0 0, .int .i64 0] 38 (0, 0)) := hb2
  have Br' := (hot _ (by omega)).trans Br.out
  have R1_2' := hst.R R1_2.out (by decide)
  have R1_3' := hst.R R1_3.out (by decide)
  have R1_4' := hst.R R1_4.out (by decide)
  have R1_5' := hst.R R1_5.out (by decide)
  have R1_6' := hst.R R1_6.out (by decide)
  clear Br
  have Br := Lib.hid Br'
  clear Br'
  clear Bx
  have Bx := Lib.hid Bx'
  clear Bx'
  clear R1_2
  have R1_2 := Lib.hid R1_2'
  clear R1_2'
  clear R1_3
  have R1_3 := Lib.hid R1_3'
  clear R1_3'
  clear R1_4
  have R1_4 := Lib.hid R1_4'
  clear R1_4'
  clear R1_5
  have R1_5 := Lib.hid R1_5'
  clear R1_5'
  clear R1_6
  have R1_6 := Lib.hid R1_6'
  clear R1_6'
  have S1' := S1.out.stp hst (by decide) (hbl _ (by have := HSZ.out; omega))
  have T1' := T1.out.then (hbl w.heap.size (by have := HSZ.out; omega))
  have HV := Lib.hid hw
  clear hw hb2 hst hbl hot hbx
  clear S1 T1
  have S1s := Lib.hid S1'
  have T1s := Lib.hid T1'
  clear S1' T1'
  go_wp2_with (((with_reducible refine gate_store (t := 34) rfl ?_); refine wpList_store_mid rfl 34 _ _ rfl (w.heap.size + 1) 0 #[.int .i64 x1.1, .int .i64 x1.2.1, v1_2, v1_3, v1_4, v1_5, v1_6] rfl rfl HTH.out (by kernel_rfl) HON1.out ?_))
  first | rw [HV.out] | (erw [HV.out])
  clear HV HTH HON1
  refine (ct_count S1s.out).mono ?_
  rintro e y2 ⟨n_2, p2, b2, rfl, S', T', hn4_2, hMR⟩
  have Br' := T'.keep Br.out (by decide)
  have Bx' := T'.keep Bx.out (by decide)
  have R1_2' := T'.R R1_2.out (by decide)
  have R1_3' := T'.R R1_3.out (by decide)
  have R1_4' := T'.R R1_4.out (by decide)
  have R1_5' := T'.R R1_5.out (by decide)
  have R1_6' := T'.R R1_6.out (by decide)
  clear Br
  have Br := Lib.hid Br'
  clear Br'
  clear Bx
  have Bx := Lib.hid Bx'
  clear Bx'
  clear R1_2
  have R1_2 := Lib.hid R1_2'
  clear R1_2'
  clear R1_3
  have R1_3 := Lib.hid R1_3'
  clear R1_3'
  clear R1_4
  have R1_4 := Lib.hid R1_4'
  clear R1_4'
  clear R1_5
  have R1_5 := Lib.hid R1_5'
  clear R1_5'
  clear R1_6
  have R1_6 := Lib.hid R1_6'
  clear R1_6'
  have S2 := Lib.hid S'
  have T2 := Lib.hid (T1s.out.trans T')
  have HMR2 := Lib.hid hMR
  have HN2 := Lib.hid hn4_2
  clear S' T' hMR S1s T1s
  go_wp2_with (fail)
  go_loopw [5] (fun i wr_2 => ∃ k_2 : Nat, k_2 ≤ n_2 ∧ i = .int .i64 k_2 ∧ ∃ (xs_2 : List TDone) (v_2 : Value) (pr_2 : Nat) (br_2 : Bool), xs_2.length = k_2 ∧ kDone.R 96 wr_2 w.heap.size (fun _ => True) v_2 xs_2 ∧ CAt w0 wr_2 g1 g2 A c B pr_2 br_2 ∧ Stp SC w wr_2 ∧ TRel dDone B p2 b2 n_2 k_2 pr_2 br_2 ∧ wr_2.heap[w.heap.size]? = some (.cells #[.int .i64 0, .int .i64 0, .slice none 0 0, .slice none 0 0, .slice none 0 0, .slice none 0 0, .slice none 0 0, .slice none 0 0, .slice none 0 0, .int .i64 0] 38 (0, 0)) ∧ wr_2.heap[w.heap.size + 1]? = some (.cells #[.int .i64 x1.1, .int .i64 x1.2.1, v1_2, v1_3, v1_4, v1_5, v1_6, v_2, .slice none 0 0, .int .i64 0] 38 (0, 0)) ∧ kSchema.R 128 wr_2 w.heap.size (fun _ => True) (v1_2) (x1.2.2.1.1) ∧ kTable.R 134 wr_2 w.heap.size (fun _ => True) (v1_3) (x1.2.2.1.2) ∧ Kd.string.R 9 wr_2 w.heap.size (fun _ => True) (v1_4) (x1.2.2.2.1.1) ∧ kMember.R 142 wr_2 w.heap.size (fun _ => True) (v1_5) (x1.2.2.2.1.2) ∧ kGrant.R 147 wr_2 w.heap.size (fun _ => True) (v1_6) (x1.2.2.2.2)) (fun i _ => n_2 - (intOf i).toNat)
  case atStart => exact ⟨0, Nat.zero_le _, rfl, [], .slice none 0 0, p2, b2, rfl, Kd.R_nil _ _ _ _ _, S2.out, T2.out, TRel.start _ _ _ _ _, Br.out, Bx.out, R1_2.out, R1_3.out, R1_4.out, R1_5.out, R1_6.out⟩
  case round =>
    obtain ⟨wr_2, hwr⟩ : ∃ z : World, z = wr := ⟨_, rfl⟩
    subst hwr
    obtain ⟨k_2, hk_2, rfl, xs_2, v_2, pr_2, br_2, hxl, hR, hS, hT, hL, hBr, hBx, hR1_2, hR1_3, hR1_4, hR1_5, hR1_6⟩ := hrel
    obtain ⟨A1_2, c1_2, hv, _, _⟩ := Kd.R_reads hR
    subst hv
    have HX := Lib.hid hxl
    have RX := Lib.hid hR
    have SR_ := Lib.hid hS
    have TR := Lib.hid hT
    have HL := Lib.hid hL
    clear hxl hR hS hT hL S2 T2
    clear Br
    have Br := Lib.hid hBr
    clear hBr
    clear Bx
    have Bx := Lib.hid hBx
    clear hBx
    clear R1_2
    have R1_2 := Lib.hid hR1_2
    clear hR1_2
    clear R1_3
    have R1_3 := Lib.hid hR1_3
    clear hR1_3
    clear R1_4
    have R1_4 := Lib.hid hR1_4
    clear hR1_4
    clear R1_5
    have R1_5 := Lib.hid hR1_5
    clear hR1_5
    clear R1_6
    have R1_6 := Lib.hid hR1_6
    clear hR1_6
    have q1 := cell_blk SR_.out.c2 1 _ rfl
    go_upto_region 5 with (fail)
    go_cut [24] (fun v_2 w' => v_2 = .bool (decide (k_2 < n_2) && !br_2) ∧ w' = wr_2)
    case first =>
      by_cases hlt : k_2 < n_2
      · have hlt' : (k_2 : Int) < (n_2 : Int) := by omega
        cases br_2 with
        | true =>
          go_wp2
          go_meet
          case rel => exact ⟨by simp [hlt], rfl⟩
        | false =>
          go_wp2
          go_meet
          case rel => exact ⟨by simp [hlt], rfl⟩
      · have hlt' : ¬ (k_2 : Int) < (n_2 : Int) := by omega
        go_wp2
        go_meet
        case rel => exact ⟨by simp [hlt], rfl⟩
    case rest =>
      obtain ⟨hb_, hw_⟩ := hcut
      replace hw_ := hw_.symm
      subst hw_
      subst hb_
      clear q1
      by_cases hgo : k_2 < n_2 ∧ br_2 = false
      · obtain ⟨hlt, hbr⟩ := hgo
        subst hbr
        rw [show (decide (k_2 < n_2) && !false) = true by simp [hlt]]
        have RX' := row_lt RX.out
        clear RX
        have RX := Lib.hid RX'
        clear RX'
        have HZ := Lib.hid (all_oneCell_toArray (kDone.K_one (kDone.K_of_M (w := w) (base := 0) (ok := fun _ => True) (mkMDone (0, 0, 0, 0, 0) ))))
        obtain ⟨V0, hV0, hth, V1, hV1, hVA, hbx, hbl⟩ := new_box (w := wr_2) (t := 96) (zs := [.int .i64 0, .int .i64 0, .int .i64 0, .int .i64 0, .int .i64 0]) (cs := [.int .i64 0, .int .i64 0, .int .i64 0, .int .i64 0, .int .i64 0]) rfl rfl
        have hst : Stp [] wr_2 V1 := Stp.below hbl
        have Br' := hst.keep Br.out (by decide)
        have Bx' := hst.keep Bx.out (by decide)
        have R1_2' := hst.R R1_2.out (by decide)
        have R1_3' := hst.R R1_3.out (by decide)
        have R1_4' := hst.R R1_4.out (by decide)
        have R1_5' := hst.R R1_5.out (by decide)
        have R1_6' := hst.R R1_6.out (by decide)
        have RX' := hst.R RX.out (by decide)
        clear Br
        have Br := Lib.hid Br'
        clear Br'
        clear Bx
        have Bx := Lib.hid Bx'
        clear Bx'
        clear R1_2
        have R1_2 := Lib.hid R1_2'
        clear R1_2'
        clear R1_3
        have R1_3 := Lib.hid R1_3'
        clear R1_3'
        clear R1_4
        have R1_4 := Lib.hid R1_4'
        clear R1_4'
        clear R1_5
        have R1_5 := Lib.hid R1_5'
        clear R1_5'
        clear R1_6
        have R1_6 := Lib.hid R1_6'
        clear R1_6'
        clear RX
        have RX := Lib.hid RX'
        clear RX'
        have S' := SR_.out.stays hbl
        have T' := TR.out.trans (Stp.below hbl)
        have HWE := Lib.hid TR.out.size
        have Be := Lib.hid hbx
        have HV0 := Lib.hid hV0
        have HV1 := Lib.hid hV1
        have HVA := Lib.hid hVA
        have HTH0 := Lib.hid hth
        clear hV0 hV1 hVA hth hst hbx hbl SR_ TR
        have S3 := Lib.hid S'
        have T3 := Lib.hid T'
        clear S' T'
        go_wp2_with (((with_reducible refine gate_store (t := 96) rfl ?_); rw [show wr_2.alloc (.cells #[.int .i64 0, .int .i64 0, .int .i64 0, .int .i64 0, .int .i64 0] 96) = V0 from HV0.out]; refine wpList_store_mid rfl 96 _ _ rfl wr_2.heap.size 0 #[.int .i64 0, .int .i64 0, .int .i64 0, .int .i64 0, .int .i64 0] rfl rfl HTH0.out (by kernel_rfl) HZ.out ?_; (first | rw [HV1.out] | (erw [HV1.out]))))
        try rw [HVA.out]
        clear HV0 HV1 HVA HTH0 HZ
        refine (ct_num S3.out).mono ?_
        rintro e y4 ⟨_, p4, b4, rfl, ⟨x4, rfl⟩, S', T', hr⟩
        have Br' := T'.keep Br.out (by decide)
        have Bx' := T'.keep Bx.out (by decide)
        have Be' := T'.keep Be.out (by decide)
        have R1_2' := T'.R R1_2.out (by decide)
        have R1_3' := T'.R R1_3.out (by decide)
        have R1_4' := T'.R R1_4.out (by decide)
        have R1_5' := T'.R R1_5.out (by decide)
        have R1_6' := T'.R R1_6.out (by decide)
        have RX' := T'.R RX.out (by decide)
        clear Br
        have Br := Lib.hid Br'
        clear Br'
        clear Bx
        have Bx := Lib.hid Bx'
        clear Bx'
        clear Be
        have Be := Lib.hid Be'
        clear Be'
        clear R1_2
        have R1_2 := Lib.hid R1_2'
        clear R1_2'
        clear R1_3
        have R1_3 := Lib.hid R1_3'
        clear R1_3'
        clear R1_4
        have R1_4 := Lib.hid R1_4'
        clear R1_4'
        clear R1_5
        have R1_5 := Lib.hid R1_5'
        clear R1_5'
        clear R1_6
        have R1_6 := Lib.hid R1_6'
        clear R1_6'
        clear RX
        have RX := Lib.hid RX'
        clear RX'
        have S4 := Lib.hid S'
        have T4 := Lib.hid (T3.out.trans T')
        have L4 := Lib.hid hr
        clear S' T' hr S3 T3
        have hbx := Be.out
        have q := cell_blk hbx 0 _ rfl
        have fz := frozen_at hbx 0
        obtain ⟨w4, hw, hb2, hst, hbl, hot⟩ := put_one hbx 0 (.int .i64 x4)
        have Be' : w4.heap[wr_2.heap.size]? = some (.cells #[.int .i64 x4, .int .i64 0, .int .i64 0, .int .i64 0, .int .i64 0] 96 (0, 0)) := hb2
        have Br' := hst.keep Br.out (by decide)
        have Bx' := hst.keep Bx.out (by decide)
        have R1_2' := hst.R R1_2.out (by decide)
        have R1_3' := hst.R R1_3.out (by decide)
        have R1_4' := hst.R R1_4.out (by decide)
        have R1_5' := hst.R R1_5.out (by decide)
        have R1_6' := hst.R R1_6.out (by decide)
        have RX' := row_apart RX.out hot
        clear Br
        have Br := Lib.hid Br'
        clear Br'
        clear Bx
        have Bx := Lib.hid Bx'
        clear Bx'
        clear Be
        have Be := Lib.hid Be'
        clear Be'
        clear R1_2
        have R1_2 := Lib.hid R1_2'
        clear R1_2'
        clear R1_3
        have R1_3 := Lib.hid R1_3'
        clear R1_3'
        clear R1_4
        have R1_4 := Lib.hid R1_4'
        clear R1_4'
        clear R1_5
        have R1_5 := Lib.hid R1_5'
        clear R1_5'
        clear R1_6
        have R1_6 := Lib.hid R1_6'
        clear R1_6'
        clear RX
        have RX := Lib.hid RX'
        clear RX'
        have S4' := S4.out.stp hst (by decide) (hbl _ (by have := HSZ.out; have := HWE.out; omega))
        have T4' := T4.out.then (hbl w.heap.size (by have := HSZ.out; have := HWE.out; omega))
        have HV := Lib.hid hw
        clear hw hb2 hst hbl hot hbx
        clear S4 T4
        have S4s := Lib.hid S4'
        have T4s := Lib.hid T4'
        clear S4' T4'
        go_wp2_with (fail)
        first | rw [HV.out] | (erw [HV.out])
        clear HV q fz
        refine (ct_num S4s.out).mono ?_
        rintro e y5 ⟨_, p5, b5, rfl, ⟨x5, rfl⟩, S', T', hr⟩
        have Br' := T'.keep Br.out (by decide)
        have Bx' := T'.keep Bx.out (by decide)
        have Be' := T'.keep Be.out (by decide)
        have R1_2' := T'.R R1_2.out (by decide)
        have R1_3' := T'.R R1_3.out (by decide)
        have R1_4' := T'.R R1_4.out (by decide)
        have R1_5' := T'.R R1_5.out (by decide)
        have R1_6' := T'.R R1_6.out (by decide)
        have RX' := T'.R RX.out (by decide)
        clear Br
        have Br := Lib.hid Br'
        clear Br'
        clear Bx
        have Bx := Lib.hid Bx'
        clear Bx'
        clear Be
        have Be := Lib.hid Be'
        clear Be'
        clear R1_2
        have R1_2 := Lib.hid R1_2'
        clear R1_2'
        clear R1_3
        have R1_3 := Lib.hid R1_3'
        clear R1_3'
        clear R1_4
        have R1_4 := Lib.hid R1_4'
        clear R1_4'
        clear R1_5
        have R1_5 := Lib.hid R1_5'
        clear R1_5'
        clear R1_6
        have R1_6 := Lib.hid R1_6'
        clear R1_6'
        clear RX
        have RX := Lib.hid RX'
        clear RX'
        have S5 := Lib.hid S'
        have T5 := Lib.hid (T4s.out.trans T')
        have L5 := Lib.hid hr
        clear S' T' hr S4s T4s
        have hbx := Be.out
        have q := cell_blk hbx 1 _ rfl
        have fz := frozen_at hbx 1
        obtain ⟨w5, hw, hb2, hst, hbl, hot⟩ := put_one hbx 1 (.int .i64 x5)
        have Be' : w5.heap[wr_2.heap.size]? = some (.cells #[.int .i64 x4, .int .i64 x5, .int .i64 0, .int .i64 0, .int .i64 0] 96 (0, 0)) := hb2
        have Br' := hst.keep Br.out (by decide)
        have Bx' := hst.keep Bx.out (by decide)
        have R1_2' := hst.R R1_2.out (by decide)
        have R1_3' := hst.R R1_3.out (by decide)
        have R1_4' := hst.R R1_4.out (by decide)
        have R1_5' := hst.R R1_5.out (by decide)
        have R1_6' := hst.R R1_6.out (by decide)
        have RX' := row_apart RX.out hot
        clear Br
        have Br := Lib.hid Br'
        clear Br'
        clear Bx
        have Bx := Lib.hid Bx'
        clear Bx'
        clear Be
        have Be := Lib.hid Be'
        clear Be'
        clear R1_2
        have R1_2 := Lib.hid R1_2'
        clear R1_2'
        clear R1_3
        have R1_3 := Lib.hid R1_3'
        clear R1_3'
        clear R1_4
        have R1_4 := Lib.hid R1_4'
        clear R1_4'
        clear R1_5
        have R1_5 := Lib.hid R1_5'
        clear R1_5'
        clear R1_6
        have R1_6 := Lib.hid R1_6'
        clear R1_6'
        clear RX
        have RX := Lib.hid RX'
        clear RX'
        have S5' := S5.out.stp hst (by decide) (hbl _ (by have := HSZ.out; have := HWE.out; omega))
        have T5' := T5.out.then (hbl w.heap.size (by have := HSZ.out; have := HWE.out; omega))
        have HV := Lib.hid hw
        clear hw hb2 hst hbl hot hbx
        clear S5 T5
        have S5s := Lib.hid S5'
        have T5s := Lib.hid T5'
        clear S5' T5'
        go_wp2_with (fail)
        first | rw [HV.out] | (erw [HV.out])
        clear HV q fz
        refine (ct_num S5s.out).mono ?_
        rintro e y6 ⟨_, p6, b6, rfl, ⟨x6, rfl⟩, S', T', hr⟩
        have Br' := T'.keep Br.out (by decide)
        have Bx' := T'.keep Bx.out (by decide)
        have Be' := T'.keep Be.out (by decide)
        have R1_2' := T'.R R1_2.out (by decide)
        have R1_3' := T'.R R1_3.out (by decide)
        have R1_4' := T'.R R1_4.out (by decide)
        have R1_5' := T'.R R1_5.out (by decide)
        have R1_6' := T'.R R1_6.out (by decide)
        have RX' := T'.R RX.out (by decide)
        clear Br
        have Br := Lib.hid Br'
        clear Br'
        clear Bx
        have Bx := Lib.hid Bx'
        clear Bx'
        clear Be
        have Be := Lib.hid Be'
        clear Be'
        clear R1_2
        have R1_2 := Lib.hid R1_2'
        clear R1_2'
        clear R1_3
        have R1_3 := Lib.hid R1_3'
        clear R1_3'
        clear R1_4
        have R1_4 := Lib.hid R1_4'
        clear R1_4'
        clear R1_5
        have R1_5 := Lib.hid R1_5'
        clear R1_5'
        clear R1_6
        have R1_6 := Lib.hid R1_6'
        clear R1_6'
        clear RX
        have RX := Lib.hid RX'
        clear RX'
        have S6 := Lib.hid S'
        have T6 := Lib.hid (T5s.out.trans T')
        have L6 := Lib.hid hr
        clear S' T' hr S5s T5s
        have hbx := Be.out
        have q := cell_blk hbx 2 _ rfl
        have fz := frozen_at hbx 2
        obtain ⟨w6, hw, hb2, hst, hbl, hot⟩ := put_one hbx 2 (.int .i64 x6)
        have Be' : w6.heap[wr_2.heap.size]? = some (.cells #[.int .i64 x4, .int .i64 x5, .int .i64 x6, .int .i64 0, .int .i64 0] 96 (0, 0)) := hb2
        have Br' := hst.keep Br.out (by decide)
        have Bx' := hst.keep Bx.out (by decide)
        have R1_2' := hst.R R1_2.out (by decide)
        have R1_3' := hst.R R1_3.out (by decide)
        have R1_4' := hst.R R1_4.out (by decide)
        have R1_5' := hst.R R1_5.out (by decide)
        have R1_6' := hst.R R1_6.out (by decide)
        have RX' := row_apart RX.out hot
        clear Br
        have Br := Lib.hid Br'
        clear Br'
        clear Bx
        have Bx := Lib.hid Bx'
        clear Bx'
        clear Be
        have Be := Lib.hid Be'
        clear Be'
        clear R1_2
        have R1_2 := Lib.hid R1_2'
        clear R1_2'
        clear R1_3
        have R1_3 := Lib.hid R1_3'
        clear R1_3'
        clear R1_4
        have R1_4 := Lib.hid R1_4'
        clear R1_4'
        clear R1_5
        have R1_5 := Lib.hid R1_5'
        clear R1_5'
        clear R1_6
        have R1_6 := Lib.hid R1_6'
        clear R1_6'
        clear RX
        have RX := Lib.hid RX'
        clear RX'
        have S6' := S6.out.stp hst (by decide) (hbl _ (by have := HSZ.out; have := HWE.out; omega))
        have T6' := T6.out.then (hbl w.heap.size (by have := HSZ.out; have := HWE.out; omega))
        have HV := Lib.hid hw
        clear hw hb2 hst hbl hot hbx
        clear S6 T6
        have S6s := Lib.hid S6'
        have T6s := Lib.hid T6'
        clear S6' T6'
        go_wp2_with (fail)
        first | rw [HV.out] | (erw [HV.out])
        clear HV q fz
        refine (ct_num S6s.out).mono ?_
        rintro e y7 ⟨_, p7, b7, rfl, ⟨x7, rfl⟩, S', T', hr⟩
        have Br' := T'.keep Br.out (by decide)
        have Bx' := T'.keep Bx.out (by decide)
        have Be' := T'.keep Be.out (by decide)
        have R1_2' := T'.R R1_2.out (by decide)
        have R1_3' := T'.R R1_3.out (by decide)
        have R1_4' := T'.R R1_4.out (by decide)
        have R1_5' := T'.R R1_5.out (by decide)
        have R1_6' := T'.R R1_6.out (by decide)
        have RX' := T'.R RX.out (by decide)
        clear Br
        have Br := Lib.hid Br'
        clear Br'
        clear Bx
        have Bx := Lib.hid Bx'
        clear Bx'
        clear Be
        have Be := Lib.hid Be'
        clear Be'
        clear R1_2
        have R1_2 := Lib.hid R1_2'
        clear R1_2'
        clear R1_3
        have R1_3 := Lib.hid R1_3'
        clear R1_3'
        clear R1_4
        have R1_4 := Lib.hid R1_4'
        clear R1_4'
        clear R1_5
        have R1_5 := Lib.hid R1_5'
        clear R1_5'
        clear R1_6
        have R1_6 := Lib.hid R1_6'
        clear R1_6'
        clear RX
        have RX := Lib.hid RX'
        clear RX'
        have S7 := Lib.hid S'
        have T7 := Lib.hid (T6s.out.trans T')
        have L7 := Lib.hid hr
        clear S' T' hr S6s T6s
        have hbx := Be.out
        have q := cell_blk hbx 3 _ rfl
        have fz := frozen_at hbx 3
        obtain ⟨w7, hw, hb2, hst, hbl, hot⟩ := put_one hbx 3 (.int .i64 x7)
        have Be' : w7.heap[wr_2.heap.size]? = some (.cells #[.int .i64 x4, .int .i64 x5, .int .i64 x6, .int .i64 x7, .int .i64 0] 96 (0, 0)) := hb2
        have Br' := hst.keep Br.out (by decide)
        have Bx' := hst.keep Bx.out (by decide)
        have R1_2' := hst.R R1_2.out (by decide)
        have R1_3' := hst.R R1_3.out (by decide)
        have R1_4' := hst.R R1_4.out (by decide)
        have R1_5' := hst.R R1_5.out (by decide)
        have R1_6' := hst.R R1_6.out (by decide)
        have RX' := row_apart RX.out hot
        clear Br
        have Br := Lib.hid Br'
        clear Br'
        clear Bx
        have Bx := Lib.hid Bx'
        clear Bx'
        clear Be
        have Be := Lib.hid Be'
        clear Be'
        clear R1_2
        have R1_2 := Lib.hid R1_2'
        clear R1_2'
        clear R1_3
        have R1_3 := Lib.hid R1_3'
        clear R1_3'
        clear R1_4
        have R1_4 := Lib.hid R1_4'
        clear R1_4'
        clear R1_5
        have R1_5 := Lib.hid R1_5'
        clear R1_5'
        clear R1_6
        have R1_6 := Lib.hid R1_6'
        clear R1_6'
        clear RX
        have RX := Lib.hid RX'
        clear RX'
        have S7' := S7.out.stp hst (by decide) (hbl _ (by have := HSZ.out; have := HWE.out; omega))
        have T7' := T7.out.then (hbl w.heap.size (by have := HSZ.out; have := HWE.out; omega))
        have HV := Lib.hid hw
        clear hw hb2 hst hbl hot hbx
        clear S7 T7
        have S7s := Lib.hid S7'
        have T7s := Lib.hid T7'
        clear S7' T7'
        go_wp2_with (fail)
        first | rw [HV.out] | (erw [HV.out])
        clear HV q fz
        refine (ct_num S7s.out).mono ?_
        rintro e y8 ⟨_, p8, b8, rfl, ⟨x8, rfl⟩, S', T', hr⟩
        have Br' := T'.keep Br.out (by decide)
        have Bx' := T'.keep Bx.out (by decide)
        have Be' := T'.keep Be.out (by decide)
        have R1_2' := T'.R R1_2.out (by decide)
        have R1_3' := T'.R R1_3.out (by decide)
        have R1_4' := T'.R R1_4.out (by decide)
        have R1_5' := T'.R R1_5.out (by decide)
        have R1_6' := T'.R R1_6.out (by decide)
        have RX' := T'.R RX.out (by decide)
        clear Br
        have Br := Lib.hid Br'
        clear Br'
        clear Bx
        have Bx := Lib.hid Bx'
        clear Bx'
        clear Be
        have Be := Lib.hid Be'
        clear Be'
        clear R1_2
        have R1_2 := Lib.hid R1_2'
        clear R1_2'
        clear R1_3
        have R1_3 := Lib.hid R1_3'
        clear R1_3'
        clear R1_4
        have R1_4 := Lib.hid R1_4'
        clear R1_4'
        clear R1_5
        have R1_5 := Lib.hid R1_5'
        clear R1_5'
        clear R1_6
        have R1_6 := Lib.hid R1_6'
        clear R1_6'
        clear RX
        have RX := Lib.hid RX'
        clear RX'
        have S8 := Lib.hid S'
        have T8 := Lib.hid (T7s.out.trans T')
        have L8 := Lib.hid hr
        clear S' T' hr S7s T7s
        have hbx := Be.out
        have q := cell_blk hbx 4 _ rfl
        have fz := frozen_at hbx 4
        obtain ⟨w8, hw, hb2, hst, hbl, hot⟩ := put_one hbx 4 (.int .i64 x8)
        have Be' : w8.heap[wr_2.heap.size]? = some (.cells #[.int .i64 x4, .int .i64 x5, .int .i64 x6, .int .i64 x7, .int .i64 x8] 96 (0, 0)) := hb2
        have Br' := hst.keep Br.out (by decide)
        have Bx' := hst.keep Bx.out (by decide)
        have R1_2' := hst.R R1_2.out (by decide)
        have R1_3' := hst.R R1_3.out (by decide)
        have R1_4' := hst.R R1_4.out (by decide)
        have R1_5' := hst.R R1_5.out (by decide)
        have R1_6' := hst.R R1_6.out (by decide)
        have RX' := row_apart RX.out hot
        clear Br
        have Br := Lib.hid Br'
        clear Br'
        clear Bx
        have Bx := Lib.hid Bx'
        clear Bx'
        clear Be
        have Be := Lib.hid Be'
        clear Be'
        clear R1_2
        have R1_2 := Lib.hid R1_2'
        clear R1_2'
        clear R1_3
        have R1_3 := Lib.hid R1_3'
        clear R1_3'
        clear R1_4
        have R1_4 := Lib.hid R1_4'
        clear R1_4'
        clear R1_5
        have R1_5 := Lib.hid R1_5'
        clear R1_5'
        clear R1_6
        have R1_6 := Lib.hid R1_6'
        clear R1_6'
        clear RX
        have RX := Lib.hid RX'
        clear RX'
        have S8' := S8.out.stp hst (by decide) (hbl _ (by have := HSZ.out; have := HWE.out; omega))
        have T8' := T8.out.then (hbl w.heap.size (by have := HSZ.out; have := HWE.out; omega))
        have HV := Lib.hid hw
        clear hw hb2 hst hbl hot hbx
        clear S8 T8
        have S8s := Lib.hid S8'
        have T8s := Lib.hid T8'
        clear S8' T8'
        go_upto_region 13 with (fail)
        first | rw [HV.out] | (erw [HV.out])
        clear HV q fz
        have RX' := row_all RX.out
        clear RX
        have RX := Lib.hid RX'
        clear RX'
        have HL' := Lib.hid (HL.out.step hlt (CRel.seq L4.out (CRel.seq L5.out (CRel.seq L6.out (CRel.seq L7.out (L8.out))))))
        clear HL
        have HE := Lib.hid (elem_ok (mkMDone (w := w8) (base := w8.heap.size) (ok := fun _ => True) (x4, x5, x6, x7, x8)) (fun k_2 hk_2 => Kd.R_lt RX.out k_2 hk_2) (Nat.le_trans T8s.out.size (Nat.le_refl _)) (v := Value.slice A1_2 xs_2.length c1_2))
        have HRG := Lib.hid (range_blk [] [.int .i64 x4, .int .i64 x5, .int .i64 x6, .int .i64 x7, .int .i64 x8] [] Be.out)
        have q5 := cell_blk Bx.out 7 _ rfl
        go_wp2_with (first | ((with_reducible refine gate_load (t := 96) rfl ?_); refine wpList_load_mid rfl 96 _ rfl (wr_2.heap.size) 0 rfl [.int .i64 x4, .int .i64 x5, .int .i64 x6, .int .i64 x7, .int .i64 x8] _ HRG.out Tryz.underlying96 rfl (by kernel_rfl) ?_) | ((with_reducible refine gate_builtin (b := .append) (xs := #[.tmp 44, .tmp 46]) rfl ?_); at_builtin; refine Kd.R_append kDone (w0 := w8) w.heap.size rfl (.tmp 44) (.tmp 46) 35 96 (.agg #[.int .i64 0, .int .i64 0, .int .i64 0, .int .i64 0, .int .i64 0]) 40 rfl Tryz.underlying35 info_Done rfl (by decide) (by decide) (.slice A1_2 xs_2.length c1_2) xs_2 (x4, x5, x6, x7, x8) [.int .i64 x4, .int .i64 x5, .int .i64 x6, .int .i64 x7, .int .i64 x8] (fun _ => True) (fun k_2 => True ∧ some k_2 ≠ (Value.ownBlock (.slice A1_2 xs_2.length c1_2))) rfl rfl HE.out (fun _ h => h) (fun _ _ => trivial) RX.out (Below.refl _ _) (Nat.le_trans T8s.out.size (Nat.le_refl _)) (by have := HX.out; omega) ?_; intro v1 w4 ho hb hg hat; have HB4 := Lib.hid hb; have HG4 := Lib.hid hg; obtain ⟨A2_, c2_, hv2, _, _⟩ := Kd.R_reads ho; subst hv2; rw [show (xs_2 ++ [(x4, x5, x6, x7, x8)]).length = xs_2.length + 1 from by simp] at ho; have RX4 := Lib.hid ho; clear ho hb hg hat; have q4 := cell_blk ((Stp.row RX.out HG4.out).keep Bx.out (by decide)) 7 _ rfl; have f4 := frozen_at ((Stp.row RX.out HG4.out).keep Bx.out (by decide)) 7))
        clear HRG HE
        try clear q5
        try clear q4
        try clear f4
        clear Be
        have hst := Stp.row RX.out HG4.out
        have Br' := hst.keep Br.out (by decide)
        have Bx' := hst.keep Bx.out (by decide)
        have R1_2' := hst.R R1_2.out (by decide)
        have R1_3' := hst.R R1_3.out (by decide)
        have R1_4' := hst.R R1_4.out (by decide)
        have R1_5' := hst.R R1_5.out (by decide)
        have R1_6' := hst.R R1_6.out (by decide)
        have S4' := S8s.out.stp hst (by decide) (HB4.out.mono (Nat.le_trans HSZ.out (Nat.le_refl _)))
        have T4' := T8s.out.then HB4.out
        clear hst S8s T8s
        have S4 := Lib.hid S4'
        have T4 := Lib.hid T4'
        clear S4' T4'
        clear Br
        have Br := Lib.hid Br'
        clear Br'
        clear Bx
        have Bx := Lib.hid Bx'
        clear Bx'
        clear R1_2
        have R1_2 := Lib.hid R1_2'
        clear R1_2'
        clear R1_3
        have R1_3 := Lib.hid R1_3'
        clear R1_3'
        clear R1_4
        have R1_4 := Lib.hid R1_4'
        clear R1_4'
        clear R1_5
        have R1_5 := Lib.hid R1_5'
        clear R1_5'
        clear R1_6
        have R1_6 := Lib.hid R1_6'
        clear R1_6'
        clear RX
        have HX4 := Lib.hid (show (xs_2 ++ [(x4, x5, x6, x7, x8)]).length = k_2 + 1 by rw [List.length_append, HX.out]; rfl)
        obtain ⟨w5, hw, hb2, hst, hbl, hot⟩ := put_one Bx.out 7 (.slice A2_ (xs_2.length + 1) c2_)
        have Bx' : w5.heap[w.heap.size + 1]? = some (.cells #[.int .i64 x1.1, .int .i64 x1.2.1, v1_2, v1_3, v1_4, v1_5, v1_6, .slice A2_ (xs_2.length + 1) c2_, .slice none 0 0, .int .i64 0] 38 (0, 0)) := hb2
        have Br' := (hot _ (by omega)).trans Br.out
        have R1_2' := hst.R R1_2.out (by decide)
        have R1_3' := hst.R R1_3.out (by decide)
        have R1_4' := hst.R R1_4.out (by decide)
        have R1_5' := hst.R R1_5.out (by decide)
        have R1_6' := hst.R R1_6.out (by decide)
        have RX4' := hst.R RX4.out (by decide)
        have S5 := S4.out.stp hst (by decide) (hbl _ (by have := HSZ.out; omega))
        have T5 := T4.out.then (hbl w.heap.size (by omega))
        first | rw [hw] | (erw [hw])
        go_roundw
        case rel => exact ⟨k_2 + 1, by omega, by simp, _, _, p8, b8, HX4.out, RX4', S5, T5, HL'.out, Br', Bx', R1_2', R1_3', R1_4', R1_5', R1_6'⟩
        case measure => simp [intOf]; omega
      · have hbf : (decide (k_2 < n_2) && !br_2) = false := by
          cases br_2 with
          | true => simp
          | false => simpa using hgo
        have HGO := Lib.hid (show k_2 = n_2 ∨ br_2 = true by
          cases br_2 with
          | true => exact .inr rfl
          | false => exact .inl (by have : ¬ (k_2 < n_2) := fun hh => hgo ⟨hh, rfl⟩
                                    omega))
        rw [hbf]
        clear hbf hgo
        have L_2 := Lib.hid (HL.out.done HMR2.out HN2.out HGO.out)
        have RX2 := Lib.hid RX.out
        have S2l := Lib.hid SR_.out
        have T2l := Lib.hid TR.out
        clear HL HGO RX SR_ TR HX HMR2 HN2
        go_wp2_with (fail)
        refine (ct_count S2l.out).mono ?_
        rintro e y9 ⟨n_9, p9, b9, rfl, S', T', hn4_9, hMR⟩
        have Br' := T'.keep Br.out (by decide)
        have Bx' := T'.keep Bx.out (by decide)
        have R1_2' := T'.R R1_2.out (by decide)
        have R1_3' := T'.R R1_3.out (by decide)
        have R1_4' := T'.R R1_4.out (by decide)
        have R1_5' := T'.R R1_5.out (by decide)
        have R1_6' := T'.R R1_6.out (by decide)
        have RX2' := T'.R RX2.out (by decide)
        clear Br
        have Br := Lib.hid Br'
        clear Br'
        clear Bx
        have Bx := Lib.hid Bx'
        clear Bx'
        clear R1_2
        have R1_2 := Lib.hid R1_2'
        clear R1_2'
        clear R1_3
        have R1_3 := Lib.hid R1_3'
        clear R1_3'
        clear R1_4
        have R1_4 := Lib.hid R1_4'
        clear R1_4'
        clear R1_5
        have R1_5 := Lib.hid R1_5'
        clear R1_5'
        clear R1_6
        have R1_6 := Lib.hid R1_6'
        clear R1_6'
        clear RX2
        have RX2 := Lib.hid RX2'
        clear RX2'
        have S9 := Lib.hid S'
        have T9 := Lib.hid (T2l.out.trans T')
        have HMR9 := Lib.hid hMR
        have HN9 := Lib.hid hn4_9
        clear S' T' hMR S2l T2l
        go_wp2_with (fail)
        go_loopw [7] (fun i wr_9 => ∃ k_9 : Nat, k_9 ≤ n_9 ∧ i = .int .i64 k_9 ∧ ∃ (xs_9 : List TLease) (v_9 : Value) (pr_9 : Nat) (br_9 : Bool), xs_9.length = k_9 ∧ kLease.R 101 wr_9 w.heap.size (fun _ => True) v_9 xs_9 ∧ CAt w0 wr_9 g1 g2 A c B pr_9 br_9 ∧ Stp SC w wr_9 ∧ TRel dLease B p9 b9 n_9 k_9 pr_9 br_9 ∧ wr_9.heap[w.heap.size]? = some (.cells #[.int .i64 0, .int .i64 0, .slice none 0 0, .slice none 0 0, .slice none 0 0, .slice none 0 0, .slice none 0 0, .slice none 0 0, .slice none 0 0, .int .i64 0] 38 (0, 0)) ∧ wr_9.heap[w.heap.size + 1]? = some (.cells #[.int .i64 x1.1, .int .i64 x1.2.1, v1_2, v1_3, v1_4, v1_5, v1_6, .slice A1_2 xs_2.length c1_2, v_9, .int .i64 0] 38 (0, 0)) ∧ kSchema.R 128 wr_9 w.heap.size (fun _ => True) (v1_2) (x1.2.2.1.1) ∧ kTable.R 134 wr_9 w.heap.size (fun _ => True) (v1_3) (x1.2.2.1.2) ∧ Kd.string.R 9 wr_9 w.heap.size (fun _ => True) (v1_4) (x1.2.2.2.1.1) ∧ kMember.R 142 wr_9 w.heap.size (fun _ => True) (v1_5) (x1.2.2.2.1.2) ∧ kGrant.R 147 wr_9 w.heap.size (fun _ => True) (v1_6) (x1.2.2.2.2) ∧ kDone.R 96 wr_9 w.heap.size (fun _ => True) (.slice A1_2 xs_2.length c1_2) xs_2) (fun i _ => n_9 - (intOf i).toNat)
        case atStart => exact ⟨0, Nat.zero_le _, rfl, [], .slice none 0 0, p9, b9, rfl, Kd.R_nil _ _ _ _ _, S9.out, T9.out, TRel.start _ _ _ _ _, Br.out, Bx.out, R1_2.out, R1_3.out, R1_4.out, R1_5.out, R1_6.out, RX2.out⟩
        case round =>
          obtain ⟨wr_9, hwr⟩ : ∃ z : World, z = wr := ⟨_, rfl⟩
          subst hwr
          obtain ⟨k_9, hk_9, rfl, xs_9, v_9, pr_9, br_9, hxl, hR, hS, hT, hL, hBr, hBx, hR1_2, hR1_3, hR1_4, hR1_5, hR1_6, hRX2⟩ := hrel
          obtain ⟨A1_9, c1_9, hv, _, _⟩ := Kd.R_reads hR
          subst hv
          have HX := Lib.hid hxl
          have RX := Lib.hid hR
          have SR_ := Lib.hid hS
          have TR := Lib.hid hT
          have HL := Lib.hid hL
          clear hxl hR hS hT hL S9 T9
          clear Br
          have Br := Lib.hid hBr
          clear hBr
          clear Bx
          have Bx := Lib.hid hBx
          clear hBx
          clear R1_2
          have R1_2 := Lib.hid hR1_2
          clear hR1_2
          clear R1_3
          have R1_3 := Lib.hid hR1_3
          clear hR1_3
          clear R1_4
          have R1_4 := Lib.hid hR1_4
          clear hR1_4
          clear R1_5
          have R1_5 := Lib.hid hR1_5
          clear hR1_5
          clear R1_6
          have R1_6 := Lib.hid hR1_6
          clear hR1_6
          clear RX2
          have RX2 := Lib.hid hRX2
          clear hRX2
          have q1 := cell_blk SR_.out.c2 1 _ rfl
          go_upto_region 16 with (fail)
          go_cut [60] (fun v_9 w' => v_9 = .bool (decide (k_9 < n_9) && !br_9) ∧ w' = wr_9)
          case first =>
            by_cases hlt : k_9 < n_9
            · have hlt' : (k_9 : Int) < (n_9 : Int) := by omega
              cases br_9 with
              | true =>
                go_wp2
                go_meet
                case rel => exact ⟨by simp [hlt], rfl⟩
              | false =>
                go_wp2
                go_meet
                case rel => exact ⟨by simp [hlt], rfl⟩
            · have hlt' : ¬ (k_9 : Int) < (n_9 : Int) := by omega
              go_wp2
              go_meet
              case rel => exact ⟨by simp [hlt], rfl⟩
          case rest =>
            obtain ⟨hb_, hw_⟩ := hcut
            replace hw_ := hw_.symm
            subst hw_
            subst hb_
            clear q1
            by_cases hgo : k_9 < n_9 ∧ br_9 = false
            · obtain ⟨hlt, hbr⟩ := hgo
              subst hbr
              rw [show (decide (k_9 < n_9) && !false) = true by simp [hlt]]
              have RX' := row_lt RX.out
              clear RX
              have RX := Lib.hid RX'
              clear RX'
              have HZ := Lib.hid (all_oneCell_toArray (kLease.K_one (kLease.K_of_M (w := w) (base := 0) (ok := fun _ => True) (mkMLease (0, 0, 0, 0) ))))
              obtain ⟨V0, hV0, hth, V1, hV1, hVA, hbx, hbl⟩ := new_box (w := wr_9) (t := 101) (zs := [.int .i64 0, .int .i64 0, .int .i64 0, .int .i64 0]) (cs := [.int .i64 0, .int .i64 0, .int .i64 0, .int .i64 0]) rfl rfl
              have hst : Stp [] wr_9 V1 := Stp.below hbl
              have Br' := hst.keep Br.out (by decide)
              have Bx' := hst.keep Bx.out (by decide)
              have R1_2' := hst.R R1_2.out (by decide)
              have R1_3' := hst.R R1_3.out (by decide)
              have R1_4' := hst.R R1_4.out (by decide)
              have R1_5' := hst.R R1_5.out (by decide)
              have R1_6' := hst.R R1_6.out (by decide)
              have RX2' := hst.R RX2.out (by decide)
              have RX' := hst.R RX.out (by decide)
              clear Br
              have Br := Lib.hid Br'
              clear Br'
              clear Bx
              have Bx := Lib.hid Bx'
              clear Bx'
              clear R1_2
              have R1_2 := Lib.hid R1_2'
              clear R1_2'
              clear R1_3
              have R1_3 := Lib.hid R1_3'
              clear R1_3'
              clear R1_4
              have R1_4 := Lib.hid R1_4'
              clear R1_4'
              clear R1_5
              have R1_5 := Lib.hid R1_5'
              clear R1_5'
              clear R1_6
              have R1_6 := Lib.hid R1_6'
              clear R1_6'
              clear RX2
              have RX2 := Lib.hid RX2'
              clear RX2'
              clear RX
              have RX := Lib.hid RX'
              clear RX'
              have S' := SR_.out.stays hbl
              have T' := TR.out.trans (Stp.below hbl)
              have HWE := Lib.hid TR.out.size
              have Be := Lib.hid hbx
              have HV0 := Lib.hid hV0
              have HV1 := Lib.hid hV1
              have HVA := Lib.hid hVA
              have HTH0 := Lib.hid hth
              clear hV0 hV1 hVA hth hst hbx hbl SR_ TR
              have S10 := Lib.hid S'
              have T10 := Lib.hid T'
              clear S' T'
              go_wp2_with (((with_reducible refine gate_store (t := 101) rfl ?_); rw [show wr_9.alloc (.cells #[.int .i64 0, .int .i64 0, .int .i64 0, .int .i64 0] 101) = V0 from HV0.out]; refine wpList_store_mid rfl 101 _ _ rfl wr_9.heap.size 0 #[.int .i64 0, .int .i64 0, .int .i64 0, .int .i64 0] rfl rfl HTH0.out (by kernel_rfl) HZ.out ?_; (first | rw [HV1.out] | (erw [HV1.out]))))
              try rw [HVA.out]
              clear HV0 HV1 HVA HTH0 HZ
              refine (ct_num S10.out).mono ?_
              rintro e y11 ⟨_, p11, b11, rfl, ⟨x11, rfl⟩, S', T', hr⟩
              have Br' := T'.keep Br.out (by decide)
              have Bx' := T'.keep Bx.out (by decide)
              have Be' := T'.keep Be.out (by decide)
              have R1_2' := T'.R R1_2.out (by decide)
              have R1_3' := T'.R R1_3.out (by decide)
              have R1_4' := T'.R R1_4.out (by decide)
              have R1_5' := T'.R R1_5.out (by decide)
              have R1_6' := T'.R R1_6.out (by decide)
              have RX2' := T'.R RX2.out (by decide)
              have RX' := T'.R RX.out (by decide)
              clear Br
              have Br := Lib.hid Br'
              clear Br'
              clear Bx
              have Bx := Lib.hid Bx'
              clear Bx'
              clear Be
              have Be := Lib.hid Be'
              clear Be'
              clear R1_2
              have R1_2 := Lib.hid R1_2'
              clear R1_2'
              clear R1_3
              have R1_3 := Lib.hid R1_3'
              clear R1_3'
              clear R1_4
              have R1_4 := Lib.hid R1_4'
              clear R1_4'
              clear R1_5
              have R1_5 := Lib.hid R1_5'
              clear R1_5'
              clear R1_6
              have R1_6 := Lib.hid R1_6'
              clear R1_6'
              clear RX2
              have RX2 := Lib.hid RX2'
              clear RX2'
              clear RX
              have RX := Lib.hid RX'
              clear RX'
              have S11 := Lib.hid S'
              have T11 := Lib.hid (T10.out.trans T')
              have L11 := Lib.hid hr
              clear S' T' hr S10 T10
              have hbx := Be.out
              have q := cell_blk hbx 0 _ rfl
              have fz := frozen_at hbx 0
              obtain ⟨w11, hw, hb2, hst, hbl, hot⟩ := put_one hbx 0 (.int .i64 x11)
              have Be' : w11.heap[wr_9.heap.size]? = some (.cells #[.int .i64 x11, .int .i64 0, .int .i64 0, .int .i64 0] 101 (0, 0)) := hb2
              have Br' := hst.keep Br.out (by decide)
              have Bx' := hst.keep Bx.out (by decide)
              have R1_2' := hst.R R1_2.out (by decide)
              have R1_3' := hst.R R1_3.out (by decide)
              have R1_4' := hst.R R1_4.out (by decide)
              have R1_5' := hst.R R1_5.out (by decide)
              have R1_6' := hst.R R1_6.out (by decide)
              have RX2' := hst.R RX2.out (by decide)
              have RX' := row_apart RX.out hot
              clear Br
              have Br := Lib.hid Br'
              clear Br'
              clear Bx
              have Bx := Lib.hid Bx'
              clear Bx'
              clear Be
              have Be := Lib.hid Be'
              clear Be'
              clear R1_2
              have R1_2 := Lib.hid R1_2'
              clear R1_2'
              clear R1_3
              have R1_3 := Lib.hid R1_3'
              clear R1_3'
              clear R1_4
              have R1_4 := Lib.hid R1_4'
              clear R1_4'
              clear R1_5
              have R1_5 := Lib.hid R1_5'
              clear R1_5'
              clear R1_6
              have R1_6 := Lib.hid R1_6'
              clear R1_6'
              clear RX2
              have RX2 := Lib.hid RX2'
              clear RX2'
              clear RX
              have RX := Lib.hid RX'
              clear RX'
              have S11' := S11.out.stp hst (by decide) (hbl _ (by have := HSZ.out; have := HWE.out; omega))
              have T11' := T11.out.then (hbl w.heap.size (by have := HSZ.out; have := HWE.out; omega))
              have HV := Lib.hid hw
              clear hw hb2 hst hbl hot hbx
              clear S11 T11
              have S11s := Lib.hid S11'
              have T11s := Lib.hid T11'
              clear S11' T11'
              go_wp2_with (fail)
              first | rw [HV.out] | (erw [HV.out])
              clear HV q fz
              refine (ct_num S11s.out).mono ?_
              rintro e y12 ⟨_, p12, b12, rfl, ⟨x12, rfl⟩, S', T', hr⟩
              have Br' := T'.keep Br.out (by decide)
              have Bx' := T'.keep Bx.out (by decide)
              have Be' := T'.keep Be.out (by decide)
              have R1_2' := T'.R R1_2.out (by decide)
              have R1_3' := T'.R R1_3.out (by decide)
              have R1_4' := T'.R R1_4.out (by decide)
              have R1_5' := T'.R R1_5.out (by decide)
              have R1_6' := T'.R R1_6.out (by decide)
              have RX2' := T'.R RX2.out (by decide)
              have RX' := T'.R RX.out (by decide)
              clear Br
              have Br := Lib.hid Br'
              clear Br'
              clear Bx
              have Bx := Lib.hid Bx'
              clear Bx'
              clear Be
              have Be := Lib.hid Be'
              clear Be'
              clear R1_2
              have R1_2 := Lib.hid R1_2'
              clear R1_2'
              clear R1_3
              have R1_3 := Lib.hid R1_3'
              clear R1_3'
              clear R1_4
              have R1_4 := Lib.hid R1_4'
              clear R1_4'
              clear R1_5
              have R1_5 := Lib.hid R1_5'
              clear R1_5'
              clear R1_6
              have R1_6 := Lib.hid R1_6'
              clear R1_6'
              clear RX2
              have RX2 := Lib.hid RX2'
              clear RX2'
              clear RX
              have RX := Lib.hid RX'
              clear RX'
              have S12 := Lib.hid S'
              have T12 := Lib.hid (T11s.out.trans T')
              have L12 := Lib.hid hr
              clear S' T' hr S11s T11s
              have hbx := Be.out
              have q := cell_blk hbx 1 _ rfl
              have fz := frozen_at hbx 1
              obtain ⟨w12, hw, hb2, hst, hbl, hot⟩ := put_one hbx 1 (.int .i64 x12)
              have Be' : w12.heap[wr_9.heap.size]? = some (.cells #[.int .i64 x11, .int .i64 x12, .int .i64 0, .int .i64 0] 101 (0, 0)) := hb2
              have Br' := hst.keep Br.out (by decide)
              have Bx' := hst.keep Bx.out (by decide)
              have R1_2' := hst.R R1_2.out (by decide)
              have R1_3' := hst.R R1_3.out (by decide)
              have R1_4' := hst.R R1_4.out (by decide)
              have R1_5' := hst.R R1_5.out (by decide)
              have R1_6' := hst.R R1_6.out (by decide)
              have RX2' := hst.R RX2.out (by decide)
              have RX' := row_apart RX.out hot
              clear Br
              have Br := Lib.hid Br'
              clear Br'
              clear Bx
              have Bx := Lib.hid Bx'
              clear Bx'
              clear Be
              have Be := Lib.hid Be'
              clear Be'
              clear R1_2
              have R1_2 := Lib.hid R1_2'
              clear R1_2'
              clear R1_3
              have R1_3 := Lib.hid R1_3'
              clear R1_3'
              clear R1_4
              have R1_4 := Lib.hid R1_4'
              clear R1_4'
              clear R1_5
              have R1_5 := Lib.hid R1_5'
              clear R1_5'
              clear R1_6
              have R1_6 := Lib.hid R1_6'
              clear R1_6'
              clear RX2
              have RX2 := Lib.hid RX2'
              clear RX2'
              clear RX
              have RX := Lib.hid RX'
              clear RX'
              have S12' := S12.out.stp hst (by decide) (hbl _ (by have := HSZ.out; have := HWE.out; omega))
              have T12' := T12.out.then (hbl w.heap.size (by have := HSZ.out; have := HWE.out; omega))
              have HV := Lib.hid hw
              clear hw hb2 hst hbl hot hbx
              clear S12 T12
              have S12s := Lib.hid S12'
              have T12s := Lib.hid T12'
              clear S12' T12'
              go_wp2_with (fail)
              first | rw [HV.out] | (erw [HV.out])
              clear HV q fz
              refine (ct_num S12s.out).mono ?_
              rintro e y13 ⟨_, p13, b13, rfl, ⟨x13, rfl⟩, S', T', hr⟩
              have Br' := T'.keep Br.out (by decide)
              have Bx' := T'.keep Bx.out (by decide)
              have Be' := T'.keep Be.out (by decide)
              have R1_2' := T'.R R1_2.out (by decide)
              have R1_3' := T'.R R1_3.out (by decide)
              have R1_4' := T'.R R1_4.out (by decide)
              have R1_5' := T'.R R1_5.out (by decide)
              have R1_6' := T'.R R1_6.out (by decide)
              have RX2' := T'.R RX2.out (by decide)
              have RX' := T'.R RX.out (by decide)
              clear Br
              have Br := Lib.hid Br'
              clear Br'
              clear Bx
              have Bx := Lib.hid Bx'
              clear Bx'
              clear Be
              have Be := Lib.hid Be'
              clear Be'
              clear R1_2
              have R1_2 := Lib.hid R1_2'
              clear R1_2'
              clear R1_3
              have R1_3 := Lib.hid R1_3'
              clear R1_3'
              clear R1_4
              have R1_4 := Lib.hid R1_4'
              clear R1_4'
              clear R1_5
              have R1_5 := Lib.hid R1_5'
              clear R1_5'
              clear R1_6
              have R1_6 := Lib.hid R1_6'
              clear R1_6'
              clear RX2
              have RX2 := Lib.hid RX2'
              clear RX2'
              clear RX
              have RX := Lib.hid RX'
              clear RX'
              have S13 := Lib.hid S'
              have T13 := Lib.hid (T12s.out.trans T')
              have L13 := Lib.hid hr
              clear S' T' hr S12s T12s
              have hbx := Be.out
              have q := cell_blk hbx 2 _ rfl
              have fz := frozen_at hbx 2
              obtain ⟨w13, hw, hb2, hst, hbl, hot⟩ := put_one hbx 2 (.int .i64 x13)
              have Be' : w13.heap[wr_9.heap.size]? = some (.cells #[.int .i64 x11, .int .i64 x12, .int .i64 x13, .int .i64 0] 101 (0, 0)) := hb2
              have Br' := hst.keep Br.out (by decide)
              have Bx' := hst.keep Bx.out (by decide)
              have R1_2' := hst.R R1_2.out (by decide)
              have R1_3' := hst.R R1_3.out (by decide)
              have R1_4' := hst.R R1_4.out (by decide)
              have R1_5' := hst.R R1_5.out (by decide)
              have R1_6' := hst.R R1_6.out (by decide)
              have RX2' := hst.R RX2.out (by decide)
              have RX' := row_apart RX.out hot
              clear Br
              have Br := Lib.hid Br'
              clear Br'
              clear Bx
              have Bx := Lib.hid Bx'
              clear Bx'
              clear Be
              have Be := Lib.hid Be'
              clear Be'
              clear R1_2
              have R1_2 := Lib.hid R1_2'
              clear R1_2'
              clear R1_3
              have R1_3 := Lib.hid R1_3'
              clear R1_3'
              clear R1_4
              have R1_4 := Lib.hid R1_4'
              clear R1_4'
              clear R1_5
              have R1_5 := Lib.hid R1_5'
              clear R1_5'
              clear R1_6
              have R1_6 := Lib.hid R1_6'
              clear R1_6'
              clear RX2
              have RX2 := Lib.hid RX2'
              clear RX2'
              clear RX
              have RX := Lib.hid RX'
              clear RX'
              have S13' := S13.out.stp hst (by decide) (hbl _ (by have := HSZ.out; have := HWE.out; omega))
              have T13' := T13.out.then (hbl w.heap.size (by have := HSZ.out; have := HWE.out; omega))
              have HV := Lib.hid hw
              clear hw hb2 hst hbl hot hbx
              clear S13 T13
              have S13s := Lib.hid S13'
              have T13s := Lib.hid T13'
              clear S13' T13'
              go_wp2_with (fail)
              first | rw [HV.out] | (erw [HV.out])
              clear HV q fz
              refine (ct_num S13s.out).mono ?_
              rintro e y14 ⟨_, p14, b14, rfl, ⟨x14, rfl⟩, S', T', hr⟩
              have Br' := T'.keep Br.out (by decide)
              have Bx' := T'.keep Bx.out (by decide)
              have Be' := T'.keep Be.out (by decide)
              have R1_2' := T'.R R1_2.out (by decide)
              have R1_3' := T'.R R1_3.out (by decide)
              have R1_4' := T'.R R1_4.out (by decide)
              have R1_5' := T'.R R1_5.out (by decide)
              have R1_6' := T'.R R1_6.out (by decide)
              have RX2' := T'.R RX2.out (by decide)
              have RX' := T'.R RX.out (by decide)
              clear Br
              have Br := Lib.hid Br'
              clear Br'
              clear Bx
              have Bx := Lib.hid Bx'
              clear Bx'
              clear Be
              have Be := Lib.hid Be'
              clear Be'
              clear R1_2
              have R1_2 := Lib.hid R1_2'
              clear R1_2'
              clear R1_3
              have R1_3 := Lib.hid R1_3'
              clear R1_3'
              clear R1_4
              have R1_4 := Lib.hid R1_4'
              clear R1_4'
              clear R1_5
              have R1_5 := Lib.hid R1_5'
              clear R1_5'
              clear R1_6
              have R1_6 := Lib.hid R1_6'
              clear R1_6'
              clear RX2
              have RX2 := Lib.hid RX2'
              clear RX2'
              clear RX
              have RX := Lib.hid RX'
              clear RX'
              have S14 := Lib.hid S'
              have T14 := Lib.hid (T13s.out.trans T')
              have L14 := Lib.hid hr
              clear S' T' hr S13s T13s
              have hbx := Be.out
              have q := cell_blk hbx 3 _ rfl
              have fz := frozen_at hbx 3
              obtain ⟨w14, hw, hb2, hst, hbl, hot⟩ := put_one hbx 3 (.int .i64 x14)
              have Be' : w14.heap[wr_9.heap.size]? = some (.cells #[.int .i64 x11, .int .i64 x12, .int .i64 x13, .int .i64 x14] 101 (0, 0)) := hb2
              have Br' := hst.keep Br.out (by decide)
              have Bx' := hst.keep Bx.out (by decide)
              have R1_2' := hst.R R1_2.out (by decide)
              have R1_3' := hst.R R1_3.out (by decide)
              have R1_4' := hst.R R1_4.out (by decide)
              have R1_5' := hst.R R1_5.out (by decide)
              have R1_6' := hst.R R1_6.out (by decide)
              have RX2' := hst.R RX2.out (by decide)
              have RX' := row_apart RX.out hot
              clear Br
              have Br := Lib.hid Br'
              clear Br'
              clear Bx
              have Bx := Lib.hid Bx'
              clear Bx'
              clear Be
              have Be := Lib.hid Be'
              clear Be'
              clear R1_2
              have R1_2 := Lib.hid R1_2'
              clear R1_2'
              clear R1_3
              have R1_3 := Lib.hid R1_3'
              clear R1_3'
              clear R1_4
              have R1_4 := Lib.hid R1_4'
              clear R1_4'
              clear R1_5
              have R1_5 := Lib.hid R1_5'
              clear R1_5'
              clear R1_6
              have R1_6 := Lib.hid R1_6'
              clear R1_6'
              clear RX2
              have RX2 := Lib.hid RX2'
              clear RX2'
              clear RX
              have RX := Lib.hid RX'
              clear RX'
              have S14' := S14.out.stp hst (by decide) (hbl _ (by have := HSZ.out; have := HWE.out; omega))
              have T14' := T14.out.then (hbl w.heap.size (by have := HSZ.out; have := HWE.out; omega))
              have HV := Lib.hid hw
              clear hw hb2 hst hbl hot hbx
              clear S14 T14
              have S14s := Lib.hid S14'
              have T14s := Lib.hid T14'
              clear S14' T14'
              go_upto_region 23 with (fail)
              first | rw [HV.out] | (erw [HV.out])
              clear HV q fz
              have RX' := row_all RX.out
              clear RX
              have RX := Lib.hid RX'
              clear RX'
              have HL' := Lib.hid (HL.out.step hlt (CRel.seq L11.out (CRel.seq L12.out (CRel.seq L13.out (L14.out)))))
              clear HL
              have HE := Lib.hid (elem_ok (mkMLease (w := w14) (base := w14.heap.size) (ok := fun _ => True) (x11, x12, x13, x14)) (fun k_9 hk_9 => Kd.R_lt RX.out k_9 hk_9) (Nat.le_trans T14s.out.size (Nat.le_refl _)) (v := Value.slice A1_9 xs_9.length c1_9))
              have HRG := Lib.hid (range_blk [] [.int .i64 x11, .int .i64 x12, .int .i64 x13, .int .i64 x14] [] Be.out)
              have q5 := cell_blk Bx.out 8 _ rfl
              go_wp2_with (first | ((with_reducible refine gate_load (t := 101) rfl ?_); refine wpList_load_mid rfl 101 _ rfl (wr_9.heap.size) 0 rfl [.int .i64 x11, .int .i64 x12, .int .i64 x13, .int .i64 x14] _ HRG.out Tryz.underlying101 rfl (by kernel_rfl) ?_) | ((with_reducible refine gate_builtin (b := .append) (xs := #[.tmp 77, .tmp 79]) rfl ?_); at_builtin; refine Kd.R_append kLease (w0 := w14) w.heap.size rfl (.tmp 77) (.tmp 79) 36 101 (.agg #[.int .i64 0, .int .i64 0, .int .i64 0, .int .i64 0]) 32 rfl Tryz.underlying36 info_Lease rfl (by decide) (by decide) (.slice A1_9 xs_9.length c1_9) xs_9 (x11, x12, x13, x14) [.int .i64 x11, .int .i64 x12, .int .i64 x13, .int .i64 x14] (fun _ => True) (fun k_9 => True ∧ some k_9 ≠ (Value.ownBlock (.slice A1_9 xs_9.length c1_9))) rfl rfl HE.out (fun _ h => h) (fun _ _ => trivial) RX.out (Below.refl _ _) (Nat.le_trans T14s.out.size (Nat.le_refl _)) (by have := HX.out; omega) ?_; intro v1 w4 ho hb hg hat; have HB4 := Lib.hid hb; have HG4 := Lib.hid hg; obtain ⟨A2_, c2_, hv2, _, _⟩ := Kd.R_reads ho; subst hv2; rw [show (xs_9 ++ [(x11, x12, x13, x14)]).length = xs_9.length + 1 from by simp] at ho; have RX4 := Lib.hid ho; clear ho hb hg hat; have q4 := cell_blk ((Stp.row RX.out HG4.out).keep Bx.out (by decide)) 8 _ rfl; have f4 := frozen_at ((Stp.row RX.out HG4.out).keep Bx.out (by decide)) 8))
              clear HRG HE
              try clear q5
              try clear q4
              try clear f4
              clear Be
              have hst := Stp.row RX.out HG4.out
              have Br' := hst.keep Br.out (by decide)
              have Bx' := hst.keep Bx.out (by decide)
              have R1_2' := hst.R R1_2.out (by decide)
              have R1_3' := hst.R R1_3.out (by decide)
              have R1_4' := hst.R R1_4.out (by decide)
              have R1_5' := hst.R R1_5.out (by decide)
              have R1_6' := hst.R R1_6.out (by decide)
              have RX2' := hst.R RX2.out (by decide)
              have S4' := S14s.out.stp hst (by decide) (HB4.out.mono (Nat.le_trans HSZ.out (Nat.le_refl _)))
              have T4' := T14s.out.then HB4.out
              clear hst S14s T14s
              have S4 := Lib.hid S4'
              have T4 := Lib.hid T4'
              clear S4' T4'
              clear Br
              have Br := Lib.hid Br'
              clear Br'
              clear Bx
              have Bx := Lib.hid Bx'
              clear Bx'
              clear R1_2
              have R1_2 := Lib.hid R1_2'
              clear R1_2'
              clear R1_3
              have R1_3 := Lib.hid R1_3'
              clear R1_3'
              clear R1_4
              have R1_4 := Lib.hid R1_4'
              clear R1_4'
              clear R1_5
              have R1_5 := Lib.hid R1_5'
              clear R1_5'
              clear R1_6
              have R1_6 := Lib.hid R1_6'
              clear R1_6'
              clear RX2
              have RX2 := Lib.hid RX2'
              clear RX2'
              clear RX
              have HX4 := Lib.hid (show (xs_9 ++ [(x11, x12, x13, x14)]).length = k_9 + 1 by rw [List.length_append, HX.out]; rfl)
              obtain ⟨w5, hw, hb2, hst, hbl, hot⟩ := put_one Bx.out 8 (.slice A2_ (xs_9.length + 1) c2_)
              have Bx' : w5.heap[w.heap.size + 1]? = some (.cells #[.int .i64 x1.1, .int .i64 x1.2.1, v1_2, v1_3, v1_4, v1_5, v1_6, .slice A1_2 xs_2.length c1_2, .slice A2_ (xs_9.length + 1) c2_, .int .i64 0] 38 (0, 0)) := hb2
              have Br' := (hot _ (by omega)).trans Br.out
              have R1_2' := hst.R R1_2.out (by decide)
              have R1_3' := hst.R R1_3.out (by decide)
              have R1_4' := hst.R R1_4.out (by decide)
              have R1_5' := hst.R R1_5.out (by decide)
              have R1_6' := hst.R R1_6.out (by decide)
              have RX2' := hst.R RX2.out (by decide)
              have RX4' := hst.R RX4.out (by decide)
              have S5 := S4.out.stp hst (by decide) (hbl _ (by have := HSZ.out; omega))
              have T5 := T4.out.then (hbl w.heap.size (by omega))
              first | rw [hw] | (erw [hw])
              go_roundw
              case rel => exact ⟨k_9 + 1, by omega, by simp, _, _, p14, b14, HX4.out, RX4', S5, T5, HL'.out, Br', Bx', R1_2', R1_3', R1_4', R1_5', R1_6', RX2'⟩
              case measure => simp [intOf]; omega
            · have hbf : (decide (k_9 < n_9) && !br_9) = false := by
                cases br_9 with
                | true => simp
                | false => simpa using hgo
              have HGO := Lib.hid (show k_9 = n_9 ∨ br_9 = true by
                cases br_9 with
                | true => exact .inr rfl
                | false => exact .inl (by have : ¬ (k_9 < n_9) := fun hh => hgo ⟨hh, rfl⟩
                                          omega))
              rw [hbf]
              clear hbf hgo
              have L_9 := Lib.hid (HL.out.done HMR9.out HN9.out HGO.out)
              have RX9 := Lib.hid RX.out
              have S9l := Lib.hid SR_.out
              have T9l := Lib.hid TR.out
              clear HL HGO RX SR_ TR HX HMR9 HN9
              go_wp2_with (fail)
              refine (ct_num S9l.out).mono ?_
              rintro e y15 ⟨_, p15, b15, rfl, ⟨x15, rfl⟩, S', T', hr⟩
              have Br' := T'.keep Br.out (by decide)
              have Bx' := T'.keep Bx.out (by decide)
              have R1_2' := T'.R R1_2.out (by decide)
              have R1_3' := T'.R R1_3.out (by decide)
              have R1_4' := T'.R R1_4.out (by decide)
              have R1_5' := T'.R R1_5.out (by decide)
              have R1_6' := T'.R R1_6.out (by decide)
              have RX2' := T'.R RX2.out (by decide)
              have RX9' := T'.R RX9.out (by decide)
              clear Br
              have Br := Lib.hid Br'
              clear Br'
              clear Bx
              have Bx := Lib.hid Bx'
              clear Bx'
              clear R1_2
              have R1_2 := Lib.hid R1_2'
              clear R1_2'
              clear R1_3
              have R1_3 := Lib.hid R1_3'
              clear R1_3'
              clear R1_4
              have R1_4 := Lib.hid R1_4'
              clear R1_4'
              clear R1_5
              have R1_5 := Lib.hid R1_5'
              clear R1_5'
              clear R1_6
              have R1_6 := Lib.hid R1_6'
              clear R1_6'
              clear RX2
              have RX2 := Lib.hid RX2'
              clear RX2'
              clear RX9
              have RX9 := Lib.hid RX9'
              clear RX9'
              have S15 := Lib.hid S'
              have T15 := Lib.hid (T9l.out.trans T')
              have L15 := Lib.hid hr
              clear S' T' hr S9l T9l
              have hbx := Bx.out
              have q := cell_blk hbx 9 _ rfl
              have fz := frozen_at hbx 9
              obtain ⟨w15, hw, hb2, hst, hbl, hot⟩ := put_one hbx 9 (.int .i64 x15)
              have Bx' : w15.heap[w.heap.size + 1]? = some (.cells #[.int .i64 x1.1, .int .i64 x1.2.1, v1_2, v1_3, v1_4, v1_5, v1_6, .slice A1_2 xs_2.length c1_2, .slice A1_9 xs_9.length c1_9, .int .i64 x15] 38 (0, 0)) := hb2
              have Br' := (hot _ (by omega)).trans Br.out
              have R1_2' := hst.R R1_2.out (by decide)
              have R1_3' := hst.R R1_3.out (by decide)
              have R1_4' := hst.R R1_4.out (by decide)
              have R1_5' := hst.R R1_5.out (by decide)
              have R1_6' := hst.R R1_6.out (by decide)
              have RX2' := hst.R RX2.out (by decide)
              have RX9' := hst.R RX9.out (by decide)
              clear Br
              have Br := Lib.hid Br'
              clear Br'
              clear Bx
              have Bx := Lib.hid Bx'
              clear Bx'
              clear R1_2
              have R1_2 := Lib.hid R1_2'
              clear R1_2'
              clear R1_3
              have R1_3 := Lib.hid R1_3'
              clear R1_3'
              clear R1_4
              have R1_4 := Lib.hid R1_4'
              clear R1_4'
              clear R1_5
              have R1_5 := Lib.hid R1_5'
              clear R1_5'
              clear R1_6
              have R1_6 := Lib.hid R1_6'
              clear R1_6'
              clear RX2
              have RX2 := Lib.hid RX2'
              clear RX2'
              clear RX9
              have RX9 := Lib.hid RX9'
              clear RX9'
              have S15' := S15.out.stp hst (by decide) (hbl _ (by have := HSZ.out; omega))
              have T15' := T15.out.then (hbl w.heap.size (by have := HSZ.out; omega))
              have HV := Lib.hid hw
              clear hw hb2 hst hbl hot hbx
              clear S15 T15
              have S15s := Lib.hid S15'
              have T15s := Lib.hid T15'
              clear S15' T15'
              go_upto_region 25 with (fail)
              first | rw [HV.out] | (erw [HV.out])
              clear HV q fz
              have HM := Lib.hid (mkMMachine (w := w15) (base := w.heap.size) (ok := fun _ => True) (x1, xs_2, xs_9, x15) R1_2.out R1_3.out R1_4.out R1_5.out R1_6.out RX2.out RX9.out)
              obtain ⟨WF, hWF, hbF, hst, hblF, hotF⟩ := put_many [] [.int .i64 0, .int .i64 0, .slice none 0 0, .slice none 0 0, .slice none 0 0, .slice none 0 0, .slice none 0 0, .slice none 0 0, .slice none 0 0, .int .i64 0] [.int .i64 x1.1, .int .i64 x1.2.1, v1_2, v1_3, v1_4, v1_5, v1_6, .slice A1_2 xs_2.length c1_2, .slice A1_9 xs_9.length c1_9, .int .i64 x15] [] Br.out rfl
              have HF := Lib.hid hWF
              have BF := Lib.hid hbF
              have HFT := Lib.hid (there_blk [] [.int .i64 0, .int .i64 0, .slice none 0 0, .slice none 0 0, .slice none 0 0, .slice none 0 0, .slice none 0 0, .slice none 0 0, .slice none 0 0, .int .i64 0] [] Br.out)
              have HRG := Lib.hid (range_blk [] [.int .i64 x1.1, .int .i64 x1.2.1, v1_2, v1_3, v1_4, v1_5, v1_6, .slice A1_2 xs_2.length c1_2, .slice A1_9 xs_9.length c1_9, .int .i64 x15] [] Bx.out)
              have HON := Lib.hid (all_oneCell_toArray (kMachine.K_one (kMachine.K_of_M HM.out)))
              have HMF := Lib.hid (hst.M HM.out (by decide))
              have SF := Lib.hid (S15s.out.stp hst (by decide) (hblF _ HSZ.out))
              have TF := Lib.hid (T15s.out.then (hblF _ (Nat.le_refl _)))
              clear hWF hbF hst hblF hotF HM Bx Br R1_2 R1_3 R1_4 R1_5 R1_6 RX2 RX9
              go_wp2_with (first | ((with_reducible refine gate_load (t := 38) rfl ?_); refine wpList_load_mid rfl 38 _ rfl (w.heap.size + 1) 0 rfl [.int .i64 x1.1, .int .i64 x1.2.1, v1_2, v1_3, v1_4, v1_5, v1_6, .slice A1_2 xs_2.length c1_2, .slice A1_9 xs_9.length c1_9, .int .i64 x15] _ HRG.out Tryz.underlying38 rfl (by kernel_rfl) ?_) | ((with_reducible refine gate_store (t := 38) rfl ?_); refine wpList_store_mid rfl 38 _ _ rfl w.heap.size 0 #[.int .i64 x1.1, .int .i64 x1.2.1, v1_2, v1_3, v1_4, v1_5, v1_6, .slice A1_2 xs_2.length c1_2, .slice A1_9 xs_9.length c1_9, .int .i64 x15] rfl rfl HFT.out (by kernel_rfl) HON.out ?_; (first | rw [HF.out] | (erw [HF.out]))))
              refine bodyPost_ret (v := .agg #[.int .i64 x1.1, .int .i64 x1.2.1, v1_2, v1_3, v1_4, v1_5, v1_6, .slice A1_2 xs_2.length c1_2, .slice A1_9 xs_9.length c1_9, .int .i64 x15]) (results_cell_row rfl _ _ w.heap.size 38 #[.int .i64 x1.1, .int .i64 x1.2.1, v1_2, v1_3, v1_4, v1_5, v1_6, .slice A1_2 xs_2.length c1_2, .slice A1_9 xs_9.length c1_9, .int .i64 x15] (0, 0) _ rfl BF.out Tryz.underlying38 rfl (by kernel_rfl)) rfl ?_
              exact ⟨_, p15, b15, rfl, ⟨(x1, xs_2, xs_9, x15), _, HMF.out, rfl⟩, SF.out, TF.out, CRel.seq L1.out (CRel.seq L_2.out (CRel.seq L_9.out (L15.out)))⟩
end Go.Proofs.YtoomcdgnnibjlaaGreat.Wr
/- The document's reader: what is told of all bytes. -/
namespace Go.Proofs.YtoomcdgnnibjlaaGreat.Wr
open Go.RowKit Go.Proofs.YtoomcdgnnibjlaaGreatW.PrintWords Go.Proofs.YtoomcdgnnibjlaaGreatW.PrintLast
set_option linter.unusedVariables false
set_option linter.unusedSimpArgs false

theorem CRel.whole {α : Type} {d : Dc α} {B : Bs} {p : Nat} {b : Bool} (h : CRel d B 0 false p b) :
    ((!b && decide (B.drop p = [])) = true → ∃ x, d B = some (x, [])) ∧ ((!b && decide (B.drop p = [])) = false → ∀ x, d B ≠ some (x, [])) := by
  have h0 : B.drop 0 = B := rfl
  refine ⟨fun hw => ?_, fun hw x hx => ?_⟩
  · cases b with
    | true => simp at hw
    | false =>
      obtain ⟨_, x, h1⟩ := h.2 rfl
      have h2 : B.drop p = [] := by simpa using hw
      exact ⟨x, by rw [h0] at h1; rw [h1, h2]⟩
  · cases b with
    | true =>
      rcases h.1 rfl with h1 | h1
      · cases h1
      · rw [h0, hx] at h1; cases h1
    | false =>
      obtain ⟨_, y, h1⟩ := h.2 rfl
      rw [h0, hx] at h1
      simp only [Option.some.injEq, Prod.mk.injEq] at h1
      rw [← h1.2] at hw
      simp at hw
/-- What the document's Get does. -/
def RefGot {α : Type} (d : Dc α) (n : Nat) (w : World) (B : Bs) : Ending → World → Prop :=
  fun e w' => ∃ (cs : List Value) (k : Int), e = .returned (.tuple #[.agg cs.toArray, .int .i64 k]) ∧ cs.length = n ∧ (cs.toArray.all fun x => x.oneCell') = true ∧ Below w.heap.size w w' ∧ (k = 0 ∧ (∃ x, d B = some (x, [])) ∨ k = 11 ∧ ∀ x, d B ≠ some (x, []))
end Go.Proofs.YtoomcdgnnibjlaaGreat.Wr
/- The document's reading of bytes as a machine. -/
namespace Go.Proofs.YtoomcdgnnibjlaaGreat.Wr
open Go.RowKit Go.Proofs.YtoomcdgnnibjlaaGreatW.PrintWords Go.Proofs.YtoomcdgnnibjlaaGreatW.PrintLast
set_option linter.unusedVariables false
set_option linter.unusedSimpArgs false

set_option maxRecDepth 100000 in
set_option maxHeartbeats 16000000 in
theorem ref_GetMachine (A : Option Addr) (c : Nat) {B : Bs} (w : World) (hA : (Kd.int .u8).C w A B.length B) (hc : B.length ≤ c) (hB : IsB B) :
    Calls Tryz.prog 7 #[.slice A B.length c] w (RefGot dMachine 10 w B) := by
  have hb0 : Below w.heap.size w (w.alloc (.cells #[.int .i64 0, .int .i64 0, .slice none 0 0, .slice none 0 0, .slice none 0 0, .slice none 0 0, .slice none 0 0, .slice none 0 0, .slice none 0 0, .int .i64 0] 38)) := (Below.refl _ _).alloc (Nat.le_refl _) _
  have hx0 := blk_new w (.cells #[.int .i64 0, .int .i64 0, .slice none 0 0, .slice none 0 0, .slice none 0 0, .slice none 0 0, .slice none 0 0, .slice none 0 0, .slice none 0 0, .int .i64 0] 38)
  obtain ⟨W0, hW0⟩ : ∃ W0, w.alloc (.cells #[.int .i64 0, .int .i64 0, .slice none 0 0, .slice none 0 0, .slice none 0 0, .slice none 0 0, .slice none 0 0, .slice none 0 0, .slice none 0 0, .int .i64 0] 38) = W0 := ⟨_, rfl⟩
  rw [hW0] at hb0 hx0
  have C1 := Lib.hid (ct_new W0 (Kd.C_below hA hb0) hc hB)
  have HW := Lib.hid hW0
  have HB0 := Lib.hid hb0
  have HX0 := Lib.hid hx0
  have HZ := Lib.hid (all_oneCell_toArray (kMachine.K_one (kMachine.K_of_M (w := w) (base := 0) (ok := fun _ => True) (mkMMachine ((0, 0, ([], []), ([], []), []), [], [], 0) (Kd.R_nil _ _ _ _ _) (Kd.R_nil _ _ _ _ _) (Kd.R_nil _ _ _ _ _) (Kd.R_nil _ _ _ _ _) (Kd.R_nil _ _ _ _ _) (Kd.R_nil _ _ _ _ _) (Kd.R_nil _ _ _ _ _)))))
  clear hA hB hb0 hx0 hW0
  go_enter Tryz.func7, Tryz.ntmps7
  go_wp2_with fail
  rw [HW.out]
  refine C1.out.mono ?_
  rintro e w1 ⟨g1, g2, rfl, hS⟩
  have C2 := Lib.hid (ct_Machine hS)
  have HX1 := Lib.hid ((hS.below.block _ (blk_lt HX0.out)).trans HX0.out)
  have HB1 := Lib.hid (HB0.out.trans (hS.below.mono HB0.out.size))
  clear C1 hS HW
  go_wp2_with fail
  refine C2.out.mono ?_
  rintro e w2 ⟨_, p, b, rfl, ⟨x, cs, hM, rfl⟩, S', T', hr⟩
  have hln : cs.length = 10 := kMachine.K_len (kMachine.K_of_M hM)
  have hone := all_oneCell_toArray (kMachine.K_one (kMachine.K_of_M hM))
  have hx2 := T'.keep HX1.out (by decide)
  obtain ⟨V0, hV0, hth, V1, hV1, hVA, hbx, hbl⟩ := new_box (w := w2) (t := 38) (zs := [.int .i64 0, .int .i64 0, .slice none 0 0, .slice none 0 0, .slice none 0 0, .slice none 0 0, .slice none 0 0, .slice none 0 0, .slice none 0 0, .int .i64 0]) (cs := cs) rfl hln
  have hS2 := S'.stays hbl
  have C3 := Lib.hid (ct_whole_end hS2)
  have HR := Lib.hid hr.whole
  have HXV := Lib.hid ((hbl.block _ (blk_lt hx2)).trans hx2)
  have HBV := Lib.hid (HB0.out.trans (hS2.below.mono HB0.out.size))
  have HBX := Lib.hid hbx
  have HV0 := Lib.hid hV0
  have HV1 := Lib.hid hV1
  have HVA := Lib.hid hVA
  have HTH := Lib.hid hth
  have HLN := Lib.hid hln
  have HON := Lib.hid hone
  have HINF := Lib.hid (show (Tryz.prog.info? 38).map (·.size) = some cs.toArray.size from by rw [List.size_toArray, hln]; kernel_rfl)
  clear hM hln hone hx2 hV0 hth hV1 hVA hbx hbl hS2 S' T' hr C2 HX1 HB1 HX0
  go_upto_region 3 with (((with_reducible refine gate_store (t := 38) rfl ?_); rw [show w2.alloc (.cells #[.int .i64 0, .int .i64 0, .slice none 0 0, .slice none 0 0, .slice none 0 0, .slice none 0 0, .slice none 0 0, .slice none 0 0, .slice none 0 0, .int .i64 0] 38) = V0 from HV0.out]; refine wpList_store_mid rfl 38 _ _ rfl w2.heap.size 0 cs.toArray rfl rfl HTH.out HINF.out HON.out ?_; (first | rw [HV1.out] | (erw [HV1.out]))))
  try rw [HVA.out]
  clear HV0 HV1 HVA HTH
  go_wp2_with fail
  refine C3.out.mono ?_
  rintro e w3 ⟨rfl, hb3⟩
  have hx3 := (hb3.block _ (blk_lt HXV.out)).trans HXV.out
  have hy3 := (hb3.block _ (blk_lt HBX.out)).trans HBX.out
  have HB3 := Lib.hid (HBV.out.trans (hb3.mono HBV.out.size))
  obtain ⟨ok, hok⟩ : ∃ ok, (!b && decide (B.drop p = [])) = ok := ⟨_, rfl⟩
  rw [hok] at HR
  rw [hok]
  clear hok C3 hb3 HXV HBX HBV HB0
  cases ok with
  | false =>
    have HQ := Lib.hid (HR.out.2 rfl)
    obtain ⟨W4, hW4, hx4, _, hbl, _⟩ := put_many [] [.int .i64 0, .int .i64 0, .slice none 0 0, .slice none 0 0, .slice none 0 0, .slice none 0 0, .slice none 0 0, .slice none 0 0, .slice none 0 0, .int .i64 0] [.int .i64 0, .int .i64 0, .slice none 0 0, .slice none 0 0, .slice none 0 0, .slice none 0 0, .slice none 0 0, .slice none 0 0, .slice none 0 0, .int .i64 0] [] hx3 rfl
    have HTH := Lib.hid (show w3.there w.heap.size 0 (#[.int .i64 0, .int .i64 0, .slice none 0 0, .slice none 0 0, .slice none 0 0, .slice none 0 0, .slice none 0 0, .slice none 0 0, .slice none 0 0, .int .i64 0] : Array Value).size from there_blk [] [.int .i64 0, .int .i64 0, .slice none 0 0, .slice none 0 0, .slice none 0 0, .slice none 0 0, .slice none 0 0, .slice none 0 0, .slice none 0 0, .int .i64 0] [] hx3)
    have HW4 := Lib.hid hW4
    have HX4 := Lib.hid hx4
    have HBL := Lib.hid (hbl w.heap.size (Nat.le_refl _))
    clear hx3 hy3 hW4 hx4 hbl
    go_wp2_with ((with_reducible refine gate_store (t := 38) rfl ?_); refine wpList_store_mid rfl 38 _ _ rfl w.heap.size 0 #[.int .i64 0, .int .i64 0, .slice none 0 0, .slice none 0 0, .slice none 0 0, .slice none 0 0, .slice none 0 0, .slice none 0 0, .slice none 0 0, .int .i64 0] rfl rfl HTH.out (by kernel_rfl) HZ.out ?_; (first | rw [HW4.out] | (erw [HW4.out])))
    refine bodyPost_ret (v := .tuple #[.agg #[.int .i64 0, .int .i64 0, .slice none 0 0, .slice none 0 0, .slice none 0 0, .slice none 0 0, .slice none 0 0, .slice none 0 0, .slice none 0 0, .int .i64 0], .int .i64 11]) (results_ct (p := 2) (u := 3) rfl _ _ w.heap.size 38 #[.int .i64 0, .int .i64 0, .slice none 0 0, .slice none 0 0, .slice none 0 0, .slice none 0 0, .slice none 0 0, .slice none 0 0, .slice none 0 0, .int .i64 0] (0, 0) _ rfl HX4.out Tryz.underlying38 rfl (by kernel_rfl)) rfl ?_
    exact ⟨[.int .i64 0, .int .i64 0, .slice none 0 0, .slice none 0 0, .slice none 0 0, .slice none 0 0, .slice none 0 0, .slice none 0 0, .slice none 0 0, .int .i64 0], 11, rfl, rfl, HZ.out, HB3.out.trans HBL.out, .inr ⟨rfl, HQ.out⟩⟩
  | true =>
    have HQ := Lib.hid (HR.out.1 rfl)
    obtain ⟨W4, hW4, hx4, _, hbl, _⟩ := put_many [] [.int .i64 0, .int .i64 0, .slice none 0 0, .slice none 0 0, .slice none 0 0, .slice none 0 0, .slice none 0 0, .slice none 0 0, .slice none 0 0, .int .i64 0] cs [] hx3 (by rw [HLN.out]; rfl)
    have hth : w3.there w.heap.size 0 cs.toArray.size := by
      have h8 := there_blk [] [.int .i64 0, .int .i64 0, .slice none 0 0, .slice none 0 0, .slice none 0 0, .slice none 0 0, .slice none 0 0, .slice none 0 0, .slice none 0 0, .int .i64 0] [] hx3
      have h9 : cs.toArray.size = 10 := by simpa using HLN.out
      rw [h9]
      exact h8
    have HTH := Lib.hid hth
    clear hth
    have HRG := Lib.hid (range_blk [] cs [] (by simpa using hy3))
    have HINL := Lib.hid (show (Tryz.prog.info? 38).map (·.size) = some cs.length from by rw [HLN.out]; kernel_rfl)
    have HW4 := Lib.hid hW4
    have HX4 := Lib.hid (show W4.heap[w.heap.size]? = some (.cells cs.toArray 38 (0, 0)) from by simpa using hx4)
    have HBL := Lib.hid (hbl w.heap.size (Nat.le_refl _))
    clear hx3 hy3 hW4 hx4 hbl
    go_wp2_with (first | ((with_reducible refine gate_load (t := 38) rfl ?_); refine wpList_load_mid rfl 38 _ rfl w2.heap.size 0 rfl cs _ HRG.out Tryz.underlying38 rfl HINL.out ?_) | ((with_reducible refine gate_store (t := 38) rfl ?_); refine wpList_store_mid rfl 38 _ _ rfl w.heap.size 0 cs.toArray rfl rfl HTH.out HINF.out HON.out ?_; (first | rw [HW4.out] | (erw [HW4.out]))))
    refine bodyPost_ret (v := .tuple #[.agg cs.toArray, .int .i64 0]) (results_ct (p := 2) (u := 3) rfl _ _ w.heap.size 38 cs.toArray (0, 0) _ rfl HX4.out Tryz.underlying38 rfl HINF.out) rfl ?_
    exact ⟨cs, 0, rfl, HLN.out, HON.out, HB3.out.trans HBL.out, .inl ⟨rfl, HQ.out⟩⟩
end Go.Proofs.YtoomcdgnnibjlaaGreat.Wr
/- Bytes that are lent and taken back. -/
namespace Go.Proofs.YtoomcdgnnibjlaaGreat.Wr
open Go.RowKit Go.Proofs.YtoomcdgnnibjlaaGreatW.PrintWords Go.Proofs.YtoomcdgnnibjlaaGreatW.PrintLast
set_option linter.unusedVariables false
set_option linter.unusedSimpArgs false
theorem lend_cells {cur : List Value} {B : Bs} (h : cur.length = B.length + 2) :
    ((splice cur 0 (nums .u8 B)).toArray.setIfInBounds B.length (.int .u8 165)).setIfInBounds (B.length + 1) (.int .u8 90) = (nums .u8 (B ++ [165, 90])).toArray := by
  obtain ⟨x, y, hxy⟩ : ∃ x y, cur.drop B.length = [x, y] := by
    have hl : (cur.drop B.length).length = 2 := by rw [List.length_drop]; omega
    match hd : cur.drop B.length, hl with
    | [x, y], _ => exact ⟨x, y, rfl⟩
  have hs : splice cur 0 (nums .u8 B) = nums .u8 B ++ [x, y] := by
    simp [splice, nums_length, hxy]
  rw [hs]
  have hn : (nums .u8 B).length = B.length := nums_length _ _
  rw [← hn]
  simp [nums, List.set_append]
theorem blk_row {w : World} {g t : Nat} {B C : Bs} {fr : Nat × Nat} (h : w.heap[g]? = some (.cells (nums .u8 (B ++ C)).toArray t fr)) (hx : B.length ≤ 9223372036854775807) : (Kd.int .u8).C w (some ⟨g, 0, none⟩) B.length B := by
  refine ⟨rfl, hx, fun _ => ⟨_, rfl, fun j p hj => ⟨[.int .u8 p], rfl, rfl, fun i u hu => ?_⟩⟩⟩
  have hi : i = 0 := by
    cases i with
    | zero => rfl
    | succ i => simp at hu
  subst hi
  have hu' : u = .int .u8 p := by simpa using hu.symm
  subst hu'
  have hjl : j < B.length := (List.getElem?_eq_some_iff.1 hj).1
  have e : ((⟨g, 0, none⟩ : Addr).add (j * (Kd.int IntKind.u8).sz + 0)) = ⟨g, j, none⟩ := by
    simp [Addr.add, show (Kd.int IntKind.u8).sz = 1 from rfl]
    intro h
    exact h.symm
  rw [e]
  refine cell_blk h j _ ?_
  simp only [nums, List.getElem?_toArray, List.getElem?_map]
  rw [List.getElem?_append_left hjl, hj]
  rfl
set_option maxRecDepth 100000 in
set_option maxHeartbeats 8000000 in
theorem keep_lend (A : Option Addr) (c : Nat) {B : Bs} (w : World) (hA : (Kd.int .u8).C w A B.length B) (hc : B.length ≤ c) (hl : B.length ≤ 262144) :
    Calls Tryz.prog 4 #[.slice A B.length c] w fun e w' => e = .returned (.slice (some ⟨w.heap.size, 0, none⟩) B.length (B.length + 2)) ∧ Below w.heap.size w w' ∧ w'.heap[w.heap.size]? = some (.cells (nums .u8 (B ++ [165, 90])).toArray 5 (0, 0)) := by
  have HA := Lib.hid hA
  clear hA
  have hw : wrap64 ((B.length : Int) + 2) = ((B.length + 2 : Nat) : Int) := by unfold wrap64; omega
  have hw1 : wrap64 ((B.length : Int) + 1) = (B.length : Int) + 1 := by unfold wrap64; omega
  go_enter Tryz.func4, Tryz.ntmps4
  go_upto_region 2 with (refine wp_make_bytes rfl 22 (.tmp 6) (.tmp 6) rfl (B.length + 2) ((B.length + 2 : Nat) : Int) rfl (by first | rfl | simp [hw]) (by first | rfl | simp [hw]) 5 Tryz.underlying22 infoB (by omega) ?_; intro w1 g cur hcur hg hv1 hb1; have HW1 := Lib.hid hv1; have HB1 := Lib.hid hb1; have HG := Lib.hid hg; have HC := Lib.hid hcur; clear hv1 hb1 hg hcur)
  go_upto_region 3 with (refine wpList_copy_splice rfl (.tmp 8) (.tmp 9) 22 22 rfl 5 Tryz.underlying22 (by kernel_rfl) (some ⟨g, 0, none⟩) A (B.length + 2) (B.length + 2) B.length c (by rfl) (by rfl) g 0 cur 5 HW1.out (nums .u8 B) ((nums_length _ _).trans (Nat.min_eq_left (Nat.le_add_right _ _)).symm) (fun hp => ⟨rfl, src_cells HA.out HB1.out (by rwa [nums_length] at hp)⟩) (by rw [nums_length, HC.out]; omega) (by intro u hu; simp only [nums, List.mem_map] at hu; obtain ⟨x, _, rfl⟩ := hu; rfl) w.heap.size w HB1.out (Nat.le_of_eq HG.out) ?_; intro w2 HW2 hb2; have HB2 := Lib.hid hb2; clear hb2)
  have hlen : (splice cur 0 (nums .u8 B)).toArray.size = B.length + 2 := by
    have h1 := HC.out
    simp [splice, nums_length]
    omega
  have r1 := blk_put HW2.out B.length (.int .u8 165) rfl
  have r2 := blk_put r1 (B.length + 1) (.int .u8 90) (lend_cells HC.out)
  have q1 : w2.cell? ⟨g, B.length, none⟩ = some (splice cur 0 (nums .u8 B)).toArray[B.length] := cell_blk HW2.out _ _ (Array.getElem?_eq_getElem (by omega))
  have q2 : w2.cell? ⟨g, B.length + 1, none⟩ = some (splice cur 0 (nums .u8 B)).toArray[B.length + 1] := cell_blk HW2.out _ _ (Array.getElem?_eq_getElem (by omega))
  obtain ⟨z1, hz1⟩ : ∃ z, (splice cur 0 (nums .u8 B)).toArray[B.length] = z := ⟨_, rfl⟩
  obtain ⟨z2, hz2⟩ : ∃ z, (splice cur 0 (nums .u8 B)).toArray[B.length + 1] = z := ⟨_, rfl⟩
  rw [hz1] at q1
  rw [hz2] at q2
  have f1 := frozen_blk HW2.out B.length
  have f2 := frozen_blk HW2.out (B.length + 1)
  have HR2 := Lib.hid r2
  have HBF := Lib.hid ((HB2.out.setCell (p := ⟨g, B.length, none⟩) (Nat.le_of_eq HG.out) (.int .u8 165)).setCell (p := ⟨g, B.length + 1, none⟩) (Nat.le_of_eq HG.out) (.int .u8 90))
  have hn0 : (0 : Int) ≤ (B.length : Int) := by omega
  have hn1 : (B.length : Int) < (B.length : Int) + 2 := by omega
  have hn2 : (B.length : Int) + 1 < (B.length : Int) + 2 := by omega
  have hn3 : (0 : Int) ≤ (B.length : Int) + 1 := by omega
  clear r1 r2 hz1 hz2 hlen
  go_wp2
  go_ret
  subst_vars
  exact ⟨rfl, HBF.out, HR2.out⟩
/-- Only block g has turned. -/
structure But (g : Nat) (w w' : World) : Prop where
  os : w'.os = w.os
  tape : w'.tape = w.tape
  output : w'.output = w.output
  size : w'.heap.size = w.heap.size
  block : ∀ k, k ≠ g → w'.heap[k]? = w.heap[k]?
theorem But.refl (g : Nat) (w : World) : But g w w := ⟨rfl, rfl, rfl, rfl, fun _ _ => rfl⟩
theorem But.set {g i : Nat} {w w' : World} (h : But g w w') (v : Value) : But g w (w'.setCell ⟨g, i, none⟩ v) :=
  ⟨h.os, h.tape, h.output, by simp [World.setCell, h.size], fun k hk => (Below.heap_setCell w' ⟨g, i, none⟩ v k hk).trans (h.block k hk)⟩
theorem nums_set (ys : Bs) (k : Nat) (x : Int) : (nums .u8 ys).toArray.setIfInBounds k (.int .u8 x) = (nums .u8 (ys.set k x)).toArray := by
  simp [nums]
theorem row_put {w : World} {g t n k : Nat} {ys : Bs} {x : Int} (h : w.heap[g]? = some (.cells (nums .u8 ys).toArray t (0, 0))) (hn : ys.length = n) : ∃ zs : Bs, zs.length = n ∧ (w.setCell ⟨g, k, none⟩ (.int .u8 x)).heap[g]? = some (.cells (nums .u8 zs).toArray t (0, 0)) :=
  ⟨ys.set k x, by rw [List.length_set]; exact hn, by rw [blk_set h, nums_set]⟩
set_option maxRecDepth 100000 in
set_option maxHeartbeats 8000000 in
theorem keep_back (g : Nat) (A : Option Addr) (c : Nat) {B : Bs} (w : World) (hg : w.heap[g]? = some (.cells (nums .u8 (B ++ [165, 90])).toArray 5 (0, 0))) (hA : (Kd.int .u8).C w A B.length B) (hc : B.length ≤ c) (hl : B.length ≤ 262144) :
    Calls Tryz.prog 6 #[.slice (some ⟨g, 0, none⟩) B.length (B.length + 2), .slice A B.length c] w fun e w' => e = .returned (.bool true) ∧ But g w w' := by
  have hw : wrap64 ((B.length : Int) + 2) = ((B.length : Int) + 2) := by unfold wrap64; omega
  have hw1 : wrap64 ((B.length : Int) + 1) = (B.length : Int) + 1 := by unfold wrap64; omega
  have s1 := Kd.C_string (c := B.length + 2) Tryz.underlying22 Tryz.underlying5 Tryz.underlying9 (blk_row hg (by omega))
  have s2 := Kd.C_string (c := c) Tryz.underlying22 Tryz.underlying5 Tryz.underlying9 hA
  have q1 : w.cell? ⟨g, B.length, none⟩ = some (.int .u8 165) := cell_blk hg _ _ (by simp [nums])
  have q2 : w.cell? ⟨g, B.length + 1, none⟩ = some (.int .u8 90) := cell_blk hg _ _ (by simp [nums])
  have hn0 : (0 : Int) ≤ (B.length : Int) := by omega
  have hn1 : (B.length : Int) < (B.length : Int) + 2 := by omega
  have hn2 : (B.length : Int) + 1 < (B.length : Int) + 2 := by omega
  have hn3 : (0 : Int) ≤ (B.length : Int) + 1 := by omega
  have hn4 : (0 : Int) ≤ (B.length : Int) + 2 := by omega
  have hn5 : (B.length : Int) + 2 ≤ ((B.length + 2 : Nat) : Int) := by omega
  obtain ⟨Z, hZ, HZ0⟩ : ∃ Z, Z = B ++ [165, 90] ∧ Z.length = B.length + 2 := ⟨_, rfl, by simp⟩
  rw [← hZ] at hg
  have HG := Lib.hid hg
  clear hg hA hZ
  go_enter Tryz.func6, Tryz.ntmps6
  go_upto_region 3 with (fail)
  clear q1 q2 s1 s2 hw hw1 hn1 hn2 hn3 hn4 hn5
  go_wp2_with fail
  go_loopw [7] (fun i wr => ∃ k : Nat, k ≤ B.length + 2 ∧ i = .int .i64 k ∧ But g w wr ∧ ∃ ys : Bs, ys.length = B.length + 2 ∧ wr.heap[g]? = some (.cells (nums .u8 ys).toArray 5 (0, 0))) (fun i _ => B.length + 2 - (intOf i).toNat)
  case atStart => exact ⟨0, Nat.zero_le _, rfl, But.refl _ _, Z, HZ0, HG.out⟩
  case round =>
    obtain ⟨k, hk, rfl, hB, ys, hy, hb⟩ := hrel
    have HB := Lib.hid hB
    have HY := Lib.hid hy
    have HBL := Lib.hid hb
    clear hB
    by_cases hlt : k < B.length + 2
    · have hlt' : (k : Int) < (B.length : Int) + 2 := by omega
      have hk0 : (0 : Int) ≤ (k : Int) := by omega
      have hkl : k < ys.length := by omega
      obtain ⟨z, hz⟩ : ∃ z, ys[k] = z := ⟨_, rfl⟩
      have q1 : wr.cell? ⟨g, k, none⟩ = some (.int .u8 ys[k]) := cell_blk hb _ _ (by simp [nums, List.getElem?_eq_getElem (show k < ys.length by omega)])
      have f1 := frozen_blk hb k
      rw [hz] at q1
      clear hz hkl
      clear hy hb
      go_wp2
      go_roundw
      case rel => exact ⟨k + 1, by omega, by simp, HB.out.set _, row_put HBL.out HY.out⟩
      case measure => simp [intOf]; omega
    · have hlt' : ¬ (k : Int) < (B.length : Int) + 2 := by omega
      go_wp2
      go_ret
      exact ⟨rfl, HB.out⟩
end Go.Proofs.YtoomcdgnnibjlaaGreat.Wr
/- What holds of a thing that was read, when other memory has turned. -/
namespace Go.Proofs.YtoomcdgnnibjlaaGreat.Wr
open Go.RowKit Go.Proofs.YtoomcdgnnibjlaaGreatW.PrintWords Go.Proofs.YtoomcdgnnibjlaaGreatW.PrintLast
set_option linter.unusedVariables false
set_option linter.unusedSimpArgs false

theorem M_but {α : Type} {d : Kd α} {base g : Nat} {w W : World} {x : α} {cs : List Value} (h : d.M w base (fun _ => True) x cs) (hb : But g w W) (hg : g < base) : d.M W base (fun _ => True) x cs :=
  d.M_mono (fun _ _ => trivial) (d.M_move (fun k hk => hb.block k (fun e => by have := hk.2.1; omega)) (d.M_bound h))
theorem R_but {α : Type} {d : Kd α} {e base g : Nat} {w W : World} {v : Value} {xs : List α} (h : d.R e w base (fun _ => True) v xs) (hb : But g w W) (hg : g < base) : d.R e W base (fun _ => True) v xs :=
  Kd.R_mono (Kd.R_move (Kd.R_bound h) (fun k hk => hb.block k (fun e => by have := hk.2.1; omega))) (fun _ _ => trivial)
theorem But.below {g : Nat} {w W : World} (h : But g w W) : Below g w W := ⟨h.os, h.tape, h.output, Nat.le_of_eq h.size.symm, fun k hk => h.block k (Nat.ne_of_lt hk)⟩
theorem M_below {α : Type} {d : Kd α} {base : Nat} {ok : Nat → Prop} {w W : World} {x : α} {cs : List Value} (h : d.M w base ok x cs) (hb : Below w.heap.size w W) : d.M W base ok x cs :=
  d.M_mono (fun _ hk => hk.1) (d.M_move (fun k hk => hb.block k hk.2.2.1) (d.M_bound h))
theorem back_res {α : Type} {e : α → Er} {d : Dc α} {w : α → Nat} {V : α → Prop} (hc : Cod e d w V) {B : Bs} {x : α} (hB : IsB B) (h : d B = some (x, [])) : e x = .ok B ∧ w x = B.length := by
  obtain ⟨b, h1, h2⟩ := hc.back _ _ _ hB h
  rw [List.append_nil] at h2
  subst h2
  exact ⟨h1, (hc.len _ _ h1).symm⟩
end Go.Proofs.YtoomcdgnnibjlaaGreat.Wr
/- The law WireMachineBytes, walked. -/
namespace Go.Proofs.YtoomcdgnnibjlaaGreat.Wr
open Go.RowKit Go.Proofs.YtoomcdgnnibjlaaGreatW.PrintWords Go.Proofs.YtoomcdgnnibjlaaGreatW.PrintLast
set_option linter.unusedVariables false
set_option linter.unusedSimpArgs false

set_option maxRecDepth 100000 in
set_option maxHeartbeats 16000000 in
theorem law_WireMachineBytes (A : Option Addr) (c : Nat) {B : Bs} (w : World) (hA : (Kd.int .u8).C w A B.length B) (hc : B.length ≤ c) (hB : IsB B) :
    Calls Tryz.prog 3 #[.slice A B.length c] w fun e w' => e = .returned (.bool true) ∧ Below w.heap.size w w' := by
  by_cases hbig : 262144 < B.length
  · have hbig' : (262144 : Int) < (B.length : Int) := by omega
    go_enter Tryz.func3, Tryz.ntmps3
    go_wp2
    refine bodyPost_ret (v := .bool true) (by rw [results_tmp Tryz.results3]; rfl) rfl ⟨rfl, Below.refl _ _⟩
  have hdec : decide ((262144 : Int) < (B.length : Int)) = false := decide_eq_false (by omega)
  have hl : B.length ≤ 262144 := by omega
  have C1 := Lib.hid (keep_lend A c w hA hc hl)
  have HA := Lib.hid hA
  have HZ := Lib.hid (all_oneCell_toArray (kMachine.K_one (kMachine.K_of_M (w := w) (base := 0) (ok := fun _ => True) (mkMMachine ((0, 0, ([], []), ([], []), []), [], [], 0) (Kd.R_nil _ _ _ _ _) (Kd.R_nil _ _ _ _ _) (Kd.R_nil _ _ _ _ _) (Kd.R_nil _ _ _ _ _) (Kd.R_nil _ _ _ _ _) (Kd.R_nil _ _ _ _ _) (Kd.R_nil _ _ _ _ _)))))
  clear hA hbig
  go_enter Tryz.func3, Tryz.ntmps3
  go_wp2_with fail
  refine C1.out.mono ?_
  rintro e w1 ⟨rfl, hb1, hg1⟩
  have hlt1 : w.heap.size < w1.heap.size := blk_lt hg1
  have C2 := Lib.hid (wire_GetMachine (some ⟨w.heap.size, 0, none⟩) (B.length + 2) w1 (blk_row hg1 (by omega)) (by omega) hB (by omega))
  have HB1 := Lib.hid hb1
  have HG1 := Lib.hid hg1
  clear hb1 hg1 C1 hdec
  go_wp2_with fail
  refine C2.out.mono ?_
  rintro e w2 ⟨y, cs, k, rfl, hM, hb2, hh⟩
  have hone := all_oneCell_toArray (kMachine.K_one (kMachine.K_of_M hM))
  obtain ⟨v2, v3, v4, v5, v6, v7, v8, rfl, r2, r3, r4, r5, r6, r7, r8⟩ := openMMachine hM
  obtain ⟨A2, c2, hv, l2, _⟩ := Kd.R_reads r2
  subst hv
  obtain ⟨A3, c3, hv, l3, _⟩ := Kd.R_reads r3
  subst hv
  obtain ⟨A4, c4, hv, l4, _⟩ := Kd.R_reads r4
  subst hv
  obtain ⟨A5, c5, hv, l5, _⟩ := Kd.R_reads r5
  subst hv
  obtain ⟨A6, c6, hv, l6, _⟩ := Kd.R_reads r6
  subst hv
  obtain ⟨A7, c7, hv, l7, _⟩ := Kd.R_reads r7
  subst hv
  obtain ⟨A8, c8, hv, l8, _⟩ := Kd.R_reads r8
  subst hv
  obtain ⟨V0, hV0, hth, V1, hV1, hVA, hbx, hbl⟩ := new_box (w := w2) (t := 38) (zs := [.int .i64 0, .int .i64 0, .slice none 0 0, .slice none 0 0, .slice none 0 0, .slice none 0 0, .slice none 0 0, .slice none 0 0, .slice none 0 0, .int .i64 0]) (cs := [.int .i64 y.1.1, .int .i64 y.1.2.1, .slice A2 (y.1.2.2.1.1).length c2, .slice A3 (y.1.2.2.1.2).length c3, .slice A4 (y.1.2.2.2.1.1).length c4, .slice A5 (y.1.2.2.2.1.2).length c5, .slice A6 (y.1.2.2.2.2).length c6, .slice A7 (y.2.1).length c7, .slice A8 (y.2.2.1).length c8, .int .i64 y.2.2.2]) rfl rfl
  have hb3 := hb2.trans (hbl.mono hb2.size)
  have hg3 := (hb3.block _ (blk_lt HG1.out)).trans HG1.out
  have hbw := HB1.out.trans (hb3.mono HB1.out.size)
  have C3 := Lib.hid (keep_back w.heap.size A c V1 hg3 (Kd.C_below HA.out hbw) hc hl)
  have R2 := Lib.hid (Kd.R_below r2 hbl)
  have R3 := Lib.hid (Kd.R_below r3 hbl)
  have R4 := Lib.hid (Kd.R_below r4 hbl)
  have R5 := Lib.hid (Kd.R_below r5 hbl)
  have R6 := Lib.hid (Kd.R_below r6 hbl)
  have R7 := Lib.hid (Kd.R_below r7 hbl)
  have R8 := Lib.hid (Kd.R_below r8 hbl)
  have HBW := Lib.hid hbw
  have HBX := Lib.hid hbx
  have HV0 := Lib.hid hV0
  have HV1 := Lib.hid hV1
  have HVA := Lib.hid hVA
  have HTH := Lib.hid hth
  have HON := Lib.hid hone
  have HH := Lib.hid hh
  have hsz2 : w1.heap.size ≤ w2.heap.size := hb2.size
  clear hM hone hb2 hh hV0 hth hV1 hVA hbx hbl hb3 hg3 hbw HB1 HG1 C2 r2 l2 r3 l3 r4 l4 r5 l5 r6 l6 r7 l7 r8 l8
  go_upto_region 5 with (((with_reducible refine gate_store (t := 38) rfl ?_); rw [show w2.alloc (.cells #[.int .i64 0, .int .i64 0, .slice none 0 0, .slice none 0 0, .slice none 0 0, .slice none 0 0, .slice none 0 0, .slice none 0 0, .slice none 0 0, .int .i64 0] 38) = V0 from HV0.out]; refine wpList_store_mid rfl 38 _ _ rfl w2.heap.size 0 #[.int .i64 y.1.1, .int .i64 y.1.2.1, .slice A2 (y.1.2.2.1.1).length c2, .slice A3 (y.1.2.2.1.2).length c3, .slice A4 (y.1.2.2.2.1.1).length c4, .slice A5 (y.1.2.2.2.1.2).length c5, .slice A6 (y.1.2.2.2.2).length c6, .slice A7 (y.2.1).length c7, .slice A8 (y.2.2.1).length c8, .int .i64 y.2.2.2] rfl rfl HTH.out (by kernel_rfl) HON.out ?_; (first | rw [HV1.out] | (erw [HV1.out]))))
  try rw [HVA.out]
  clear HV0 HV1 HVA HTH HON
  go_wp2_with fail
  refine C3.out.mono ?_
  rintro e w3 ⟨rfl, hbut⟩
  have hx3 := (hbut.block _ (by omega)).trans HBX.out
  have hb3 := HBW.out.trans hbut.below
  have C4 := Lib.hid (ref_GetMachine A c w3 (Kd.C_below HA.out hb3) hc hB)
  have R2' := Lib.hid (R_but R2.out hbut hlt1)
  have R3' := Lib.hid (R_but R3.out hbut hlt1)
  have R4' := Lib.hid (R_but R4.out hbut hlt1)
  have R5' := Lib.hid (R_but R5.out hbut hlt1)
  have R6' := Lib.hid (R_but R6.out hbut hlt1)
  have R7' := Lib.hid (R_but R7.out hbut hlt1)
  have R8' := Lib.hid (R_but R8.out hbut hlt1)
  have HX3 := Lib.hid hx3
  have HB3 := Lib.hid hb3
  clear hbut hx3 hb3 C3 HBX HBW R2 R3 R4 R5 R6 R7 R8
  go_wp2_with fail
  refine C4.out.mono ?_
  rintro e w4 ⟨ds, k2, rfl, hln, hon2, hb4, hr⟩
  obtain ⟨V2, hV2, hth, V3, hV3, hVA, hbx, hbl⟩ := new_box (w := w4) (t := 38) (zs := [.int .i64 0, .int .i64 0, .slice none 0 0, .slice none 0 0, .slice none 0 0, .slice none 0 0, .slice none 0 0, .slice none 0 0, .slice none 0 0, .int .i64 0]) (cs := ds) rfl hln
  have hb5 := hb4.trans (hbl.mono hb4.size)
  have hx5 := (hb5.block _ (blk_lt HX3.out)).trans HX3.out
  have hbw5 := HB3.out.trans (hb5.mono HB3.out.size)
  have hyw : wMachine y ≤ 262144 ∧ (k2 = 0 ∧ k = 0 ∧ eMachine y = .ok B ∨ k2 = 11 ∧ k = 11 ∧ y = ((0, 0, ([], []), ([], []), []), [], [], 0)) := by
    rcases hr with ⟨h0, x, hx⟩ | ⟨h0, hno⟩
    · rcases HH.out with ⟨h1, h2⟩ | ⟨_, _, h3⟩
      · have h4 := back_res codMachine hB h2
        exact ⟨by omega, .inl ⟨h0, h1, h4.1⟩⟩
      · exact absurd hx (h3 x)
    · rcases HH.out with ⟨h1, h2⟩ | ⟨h1, h2, _⟩
      · exact absurd h2 (hno _)
      · exact ⟨by rw [h2]; decide, .inr ⟨h0, h1, h2⟩⟩
  obtain ⟨_, _, C2'⟩ := Kd.R_reads' (Kd.R_below R2'.out hb5)
  obtain ⟨_, _, C3'⟩ := Kd.R_reads' (Kd.R_below R3'.out hb5)
  obtain ⟨_, _, C4'⟩ := Kd.R_reads' (Kd.R_below R4'.out hb5)
  obtain ⟨_, _, C5'⟩ := Kd.R_reads' (Kd.R_below R5'.out hb5)
  obtain ⟨_, _, C6'⟩ := Kd.R_reads' (Kd.R_below R6'.out hb5)
  obtain ⟨_, _, C7'⟩ := Kd.R_reads' (Kd.R_below R7'.out hb5)
  obtain ⟨_, _, C8'⟩ := Kd.R_reads' (Kd.R_below R8'.out hb5)
  have C5 := Lib.hid (ref_PutMachine y A2 c2 A3 c3 A4 c4 A5 c5 A6 c6 A7 c7 A8 c8 V3 C2' C3' C4' C5' C6' C7' C8' (by omega))
  have HR5 := Lib.hid (range_blk [] [.int .i64 y.1.1, .int .i64 y.1.2.1, .slice A2 (y.1.2.2.1.1).length c2, .slice A3 (y.1.2.2.1.2).length c3, .slice A4 (y.1.2.2.2.1.1).length c4, .slice A5 (y.1.2.2.2.1.2).length c5, .slice A6 (y.1.2.2.2.2).length c6, .slice A7 (y.2.1).length c7, .slice A8 (y.2.2.1).length c8, .int .i64 y.2.2.2] [] hx5)
  have HINF := Lib.hid (show (Tryz.prog.info? 38).map (·.size) = some ds.toArray.size from by rw [List.size_toArray, hln]; kernel_rfl)
  have HON2 := Lib.hid hon2
  have HB5 := Lib.hid hbw5
  have HYW := Lib.hid hyw.2
  have HV2 := Lib.hid hV2
  have HV3 := Lib.hid hV3
  have HVA := Lib.hid hVA
  have HTH := Lib.hid hth
  clear hln hon2 hb4 hr hV2 hth hV3 hVA hbx hbl hb5 hx5 hbw5 hyw HX3 HB3 C4 HH R2' C2' R3' C3' R4' C4' R5' C5' R6' C6' R7' C7' R8' C8'
  go_upto_region 7 with (((with_reducible refine gate_store (t := 38) rfl ?_); rw [show w4.alloc (.cells #[.int .i64 0, .int .i64 0, .slice none 0 0, .slice none 0 0, .slice none 0 0, .slice none 0 0, .slice none 0 0, .slice none 0 0, .slice none 0 0, .int .i64 0] 38) = V2 from HV2.out]; refine wpList_store_mid rfl 38 _ _ rfl w4.heap.size 0 ds.toArray rfl rfl HTH.out HINF.out HON2.out ?_; (first | rw [HV3.out] | (erw [HV3.out]))))
  try rw [HVA.out]
  clear HV2 HV3 HVA HTH HINF HON2
  go_wp2_with (((with_reducible refine gate_load (t := 38) rfl ?_); refine wpList_load_mid rfl 38 _ rfl w2.heap.size 0 rfl [.int .i64 y.1.1, .int .i64 y.1.2.1, .slice A2 (y.1.2.2.1.1).length c2, .slice A3 (y.1.2.2.1.2).length c3, .slice A4 (y.1.2.2.2.1.1).length c4, .slice A5 (y.1.2.2.2.1.2).length c5, .slice A6 (y.1.2.2.2.2).length c6, .slice A7 (y.2.1).length c7, .slice A8 (y.2.2.1).length c8, .int .i64 y.2.2.2] _ HR5.out Tryz.underlying38 rfl (by kernel_rfl) ?_))
  refine C5.out.mono ?_
  rintro e w5 ⟨v1, rfl, R1', hb6⟩
  clear HR5 C5
  obtain ⟨B1, d1, rfl, _, hC1⟩ := Kd.R_reads R1'
  have HB6 := Lib.hid (HB5.out.trans (hb6.mono HB5.out.size))
  have hA6 := Kd.C_below HA.out HB6.out
  rcases HYW.out with ⟨rfl, rfl, hy⟩ | ⟨rfl, rfl, hy⟩
  · have hC1' : (Kd.int .u8).C w5 B1 B.length B := by
      have := hC1
      rw [hy] at this
      exact this
    have h1 : resE (eMachine y) = 0 := by rw [hy]; rfl
    have h2 : (resB (eMachine y)).length = B.length := by rw [hy]; rfl
    rw [h1, h2]
    have C6 := Lib.hid (awake_true w5)
    have HC1 := Lib.hid hC1'
    have HA6 := Lib.hid hA6
    clear hC1 hC1' R1' hb6 HB5 HYW hA6 HA hy h1 h2
    go_wp2_with fail
    refine C6.out.mono ?_
    rintro e w6 ⟨rfl, hb7⟩
    have s1 := Kd.C_string (c := d1) Tryz.underlying22 Tryz.underlying5 Tryz.underlying9 (Kd.C_below HC1.out hb7)
    have s2 := Kd.C_string (c := c) Tryz.underlying22 Tryz.underlying5 Tryz.underlying9 (Kd.C_below HA6.out hb7)
    have HB7 := Lib.hid (HB6.out.trans (hb7.mono HB6.out.size))
    clear HC1 HA6 hb7 C6 HB6
    go_wp2
    refine bodyPost_ret (v := .bool true) (by rw [results_tmp Tryz.results3]; simp) rfl ⟨rfl, HB7.out⟩
  · have C6 := Lib.hid (ref_PutMachine ((0, 0, ([], []), ([], []), []), [], [], 0) none 0 none 0 none 0 none 0 none 0 none 0 none 0 w5 (Kd.C_nil _ _) (Kd.C_nil _ _) (Kd.C_nil _ _) (Kd.C_nil _ _) (Kd.C_nil _ _) (Kd.C_nil _ _) (Kd.C_nil _ _) (by decide))
    rw [hy] at hC1
    rw [hy]
    have HC1 := Lib.hid hC1
    clear hC1 R1' hb6 HB5 HYW hA6 HA hy
    go_wp2_with fail
    refine (show Calls Tryz.prog 8 #[.agg #[.int .i64 0, .int .i64 0, .slice none 0 0, .slice none 0 0, .slice none 0 0, .slice none 0 0, .slice none 0 0, .slice none 0 0, .slice none 0 0, .int .i64 0]] w5 (PutTold w5 (eMachine ((0, 0, ([], []), ([], []), []), [], [], 0))) from C6.out).mono ?_
    rintro e w6 ⟨v2, rfl, R2', hb7⟩
    obtain ⟨B2, d2, rfl, _, hC2⟩ := Kd.R_reads R2'
    have C7 := Lib.hid (awake_true w6)
    have HC2 := Lib.hid hC2
    have HC1' := Lib.hid (Kd.C_below HC1.out hb7)
    have HB7 := Lib.hid (HB6.out.trans (hb7.mono HB6.out.size))
    clear hC2 R2' hb7 C6 HC1 HB6
    go_wp2_with fail
    refine C7.out.mono ?_
    rintro e w7 ⟨rfl, hb8⟩
    have s1 := Kd.C_string (c := d1) Tryz.underlying22 Tryz.underlying5 Tryz.underlying9 (Kd.C_below HC1'.out hb8)
    have s2 := Kd.C_string (c := d2) Tryz.underlying22 Tryz.underlying5 Tryz.underlying9 (Kd.C_below HC2.out hb8)
    have HB8 := Lib.hid (HB7.out.trans (hb8.mono HB7.out.size))
    clear HC1' HC2 hb8 C7 HB7
    go_wp2
    refine bodyPost_ret (v := .bool true) (by rw [results_tmp Tryz.results3]; simp) rfl ⟨rfl, HB8.out⟩
end Go.Proofs.YtoomcdgnnibjlaaGreat.Wr
