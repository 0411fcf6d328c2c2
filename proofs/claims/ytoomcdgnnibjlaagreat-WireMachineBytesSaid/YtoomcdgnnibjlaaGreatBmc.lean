/- Texts put together: RrE, RrF, GetMachine, PAx38, CutPrim, CutRead, CutText, CutRead2, CutMany, CutNew, CutFlag, CutList, CtA, CtB. -/
import Derived.Test.YtoomcdgnnibjlaaGreatBmb
import Derived.Test.YtoomcdgnnibjlaaGreatBma
import Derived.Deep.Cut
import Derived.Deep.DeepCutAuto
/- The program's reader. -/
namespace Go.Proofs.YtoomcdgnnibjlaaGreat.Wr
open Go.RowKit Go.Proofs.YtoomcdgnnibjlaaGreatW.PrintWords Go.Proofs.YtoomcdgnnibjlaaGreatW.PrintLast
set_option linter.unusedVariables false
set_option linter.unusedSimpArgs false

theorem info_Rule : (Tryz.prog.info? 64).map (fun i => (i.zero, i.size, i.bytes)) = some (some (.agg #[.string ⟨#[]⟩, .int .i64 0, .slice none 0 0, .int .i64 0, .int .i64 0, .string ⟨#[]⟩, .string ⟨#[]⟩, .string ⟨#[]⟩]), 8, 112) := by kernel_rfl
set_option maxRecDepth 100000 in
set_option maxHeartbeats 16000000 in
theorem rr_few_Rule {w0 w : World} {g : Nat} {B l : Bs} (hS : RAt w0 w g B l) :
    Calls Tryz.prog 75 #[.pointer (some ⟨g, 0, none⟩), .func (.func 76) #[] #[]] w (RDone (dList dRule) (fun xs v w' => kRule.R 64 w' w.heap.size (fun _ => True) v xs) w0 g w B l) := by
  have hIB : IsB l := by
    obtain ⟨p, hp⟩ := hS.suf
    have := hS.isB
    rw [hp] at this
    exact this.right
  have HSZ := Lib.hid hS.below.size
  have C1 := Lib.hid (rr_number hS)
  have HS := Lib.hid hS
  have HIB := Lib.hid hIB
  clear hS hIB
  go_enter Tryz.func75, Tryz.ntmps75
  go_wp2_with fail
  refine C1.out.mono ?_
  rintro e w1 (⟨n, l1, v, hd, rfl, rfl, S1', T1'⟩ | ⟨hd, rfl, hbe, T1'⟩)
  rotate_left
  · exact ⟨rfl, .inr ⟨by simp only [dList, hd, Option.bind_none], rfl, hbe, T1'⟩⟩
  obtain ⟨hn0, hn1⟩ := dNum_range HIB.out hd
  obtain ⟨m, rfl⟩ := Int.eq_ofNat_of_zero_le hn0
  have S1 := Lib.hid S1'
  have T1 := Lib.hid T1'
  have HD := Lib.hid hd
  clear S1' T1' hd C1 HIB
  by_cases h4 : 4096 < (m : Int)
  · have hdec : decide ((m : Int) ≤ 4096) = false := decide_eq_false (by omega)
    go_wp2_with fail
    refine (is_false _).mono ?_
    rintro e w2 ⟨rfl, rfl⟩
    exact ⟨rfl, .inr ⟨by simp only [dList, HD.out, Option.bind_some]; exact if_pos h4, rfl, S1.out.below, T1.out⟩⟩
  · have hdec : decide ((m : Int) ≤ 4096) = true := decide_eq_true (by omega)
    have hm4 : m ≤ 4096 := by omega
    have HL := Lib.hid (show dList dRule l = dTimes dRule m l1 by simp only [dList, HD.out, Option.bind_some, Int.toNat_natCast]; exact if_neg h4)
    clear h4
    go_wp2_with fail
    refine (is_true _).mono ?_
    rintro e w2 ⟨rfl, rfl⟩
    clear hdec
    go_wp2_with fail
    go_loopw [6, 13] (fun v i wr => ∃ k : Nat, k ≤ m ∧ i = .int .i64 k ∧ ∃ xs lr, dTimes dRule k l1 = some (xs, lr) ∧ xs.length = k ∧ kRule.R 64 wr w.heap.size (fun _ => True) v xs ∧ RAt w0 wr g B lr ∧ Stp SR w wr) (fun _ i _ => m - (intOf i).toNat)
    case atStart => exact ⟨0, Nat.zero_le _, rfl, [], l1, rfl, rfl, Kd.R_nil _ _ _ _ _, S1.out, T1.out⟩
    case round =>
      obtain ⟨k, hk, rfl, xs, lr, hdt, hxl, hR, hS, hT⟩ := hrel
      obtain ⟨A, c, hv, _, _⟩ := Kd.R_reads hR
      subst hv
      have HT := Lib.hid hdt
      have HX := Lib.hid hxl
      have HR := Lib.hid hR
      have SR_ := Lib.hid hS
      have TR := Lib.hid hT
      clear hdt hxl hR hS hT S1 T1
      by_cases hlt : k < m
      · have hlt' : (k : Int) < (m : Int) := by omega
        go_wp2_with fail
        refine (rr_rule SR_.out).mono ?_
        rintro e w3 (⟨x, l2, u, hd, rfl, ⟨cs, hM, rfl⟩, S3', T3'⟩ | ⟨hd, rfl, hbe, T3'⟩)
        rotate_left
        · exact ⟨rfl, .inr ⟨by rw [HL.out]; exact times_none _ HT.out hd hlt, rfl, hbe, TR.out.trans T3'⟩⟩
        have hlen : xs.length ≤ 4096 := by rw [HX.out]; omega
        have hO := T3'.R HR.out (by decide)
        have hE := elem_ok hM (fun k hk => Kd.R_lt HR.out k hk) TR.out.size (v := Value.slice A xs.length c)
        obtain ⟨v2, rfl, _⟩ := openMRule hM
        have HO := Lib.hid hO
        have HE := Lib.hid hE
        have S3 := Lib.hid S3'
        have T3 := Lib.hid (TR.out.trans T3')
        have HD3 := Lib.hid hd
        clear hO hE S3' T3' hd TR HR SR_ hM
        go_wp2_with (((with_reducible refine gate_builtin (b := .append) (xs := #[.tmp 15, .tmp 19]) rfl ?_); at_builtin; refine Kd.R_append kRule (w0 := w3) w.heap.size rfl (.tmp 15) (.tmp 19) 132 64 (.agg #[.string ⟨#[]⟩, .int .i64 0, .slice none 0 0, .int .i64 0, .int .i64 0, .string ⟨#[]⟩, .string ⟨#[]⟩, .string ⟨#[]⟩]) 112 rfl Tryz.underlying132 info_Rule rfl (by decide) (by decide) (.slice A xs.length c) xs x [.string x.1, .int .i64 x.2.1, v2, .int .i64 x.2.2.2.1, .int .i64 x.2.2.2.2.1, .string x.2.2.2.2.2.1, .string x.2.2.2.2.2.2.1, .string x.2.2.2.2.2.2.2] (fun _ => True) (fun k => True ∧ some k ≠ (Value.slice A xs.length c).ownBlock) rfl rfl HE.out (fun _ h => h) (fun _ _ => trivial) HO.out (Below.refl _ _) (Nat.le_trans T3.out.size (Nat.le_refl _)) (by omega) ?_; intro v1 w4 ho hb hg hat; have HO4 := Lib.hid ho; have HB4 := Lib.hid hb; have HG4 := Lib.hid hg; clear ho hb hg hat))
        have hs4 : dTimes dRule (k + 1) l1 = some (xs ++ [x], l2) := by rw [dTimes_snoc, HT.out]; simp only [Option.bind_some, HD3.out, Option.map_some]
        have HS4 := Lib.hid hs4
        have S4 := Lib.hid (S3.out.keeps (Keeps.row HO.out HG4.out (by decide)) (HB4.out.mono (Nat.le_trans HSZ.out (Nat.le_refl _))))
        have T4 := Lib.hid (T3.out.then HB4.out)
        have HX4 := Lib.hid (show (xs ++ [x]).length = k + 1 by rw [List.length_append, HX.out]; rfl)
        clear hs4
        go_wp2
        go_roundw
        case rel => exact ⟨k + 1, by omega, by simp, _, _, HS4.out, HX4.out, HO4.out, S4.out, T4.out⟩
        case measure => simp [intOf]; omega
      · have hke : k = m := by omega
        have HK := Lib.hid hke
        clear hke
        go_wp2
        go_ret
        have ht := HT.out
        rw [HK.out] at ht
        exact .inl ⟨xs, lr, _, by rw [HL.out, ht], rfl, HR.out, SR_.out, TR.out⟩
set_option maxRecDepth 100000 in
set_option maxHeartbeats 16000000 in
theorem rr_table {w0 w : World} {g : Nat} {B l0 : Bs} (hS : RAt w0 w g B l0) :
    Calls Tryz.prog 47 #[.pointer (some ⟨g, 0, none⟩)] w (RDone dTable (fun x v w' => ∃ cs, kTable.M w' w.heap.size (fun _ => True) x cs ∧ v = .agg cs.toArray) w0 g w B l0) := by
  have hb0 : Below w.heap.size w (w.alloc (.cells #[.string ⟨#[]⟩, .string ⟨#[]⟩, .string ⟨#[]⟩, .slice none 0 0, .slice none 0 0] 134)) := (Below.refl _ _).alloc (Nat.le_refl _) _
  have hx0 := blk_new w (.cells #[.string ⟨#[]⟩, .string ⟨#[]⟩, .string ⟨#[]⟩, .slice none 0 0, .slice none 0 0] 134)
  obtain ⟨W0, hW0⟩ : ∃ W0, w.alloc (.cells #[.string ⟨#[]⟩, .string ⟨#[]⟩, .string ⟨#[]⟩, .slice none 0 0, .slice none 0 0] 134) = W0 := ⟨_, rfl⟩
  rw [hW0] at hb0 hx0
  have HSZ := Lib.hid hS.below.size
  have S0 := Lib.hid (hS.keeps (Keeps.below hb0) (hb0.mono hS.below.size))
  have B0 := Lib.hid hx0
  have T0 := Lib.hid (Stp.below (S := SR) hb0)
  have HW := Lib.hid hW0
  clear hb0 hx0 hW0 hS
  go_enter Tryz.func47, Tryz.ntmps47
  go_wp2_with fail
  rw [HW.out]
  clear HW
  refine (rr_text S0.out).mono ?_
  rintro e y1 (⟨x1, l1, u, hd, rfl, rfl, S', T'⟩ | ⟨hd, rfl, hbe, T'⟩)
  rotate_left
  · exact ⟨rfl, .inr ⟨by simp only [dTable, dPair, hd, Option.bind_some, Option.map_some, Option.bind_none, Option.map_none], rfl, hbe, T0.out.trans T'⟩⟩
  have hbx := T'.keep B0.out (by decide)
  have q := cell_blk hbx 0 _ rfl
  have f := frozen_at hbx 0
  obtain ⟨w1, hw, hbx2, hkp, hbl, hot⟩ := own_store hbx (by decide) 0 (.string x1)
  have hbx3 : w1.heap[w.heap.size]? = some (.cells #[.string x1, .string ⟨#[]⟩, .string ⟨#[]⟩, .slice none 0 0, .slice none 0 0] 134 (0, 0)) := hbx2
  have hbl' := hbl w.heap.size (Nat.le_refl _)
  have S1 := Lib.hid (S'.keeps hkp (hbl'.mono HSZ.out))
  have T1 := Lib.hid ((T0.out.trans T').then hbl')
  have B1 := Lib.hid hbx3
  have HD1 := Lib.hid hd
  have HV := Lib.hid hw
  clear hd hw hbx hbx2 hbx3 hkp hbl hbl' hot S' T' S0 T0 B0
  go_wp2_with fail
  first | rw [HV.out] | (erw [HV.out])
  clear HV q f
  refine (rr_text S1.out).mono ?_
  rintro e y2 (⟨x2, l2, u, hd, rfl, rfl, S', T'⟩ | ⟨hd, rfl, hbe, T'⟩)
  rotate_left
  · exact ⟨rfl, .inr ⟨by simp only [dTable, dPair, HD1.out, hd, Option.bind_some, Option.map_some, Option.bind_none, Option.map_none], rfl, hbe, T1.out.trans T'⟩⟩
  have hbx := T'.keep B1.out (by decide)
  have q := cell_blk hbx 1 _ rfl
  have f := frozen_at hbx 1
  obtain ⟨w2, hw, hbx2, hkp, hbl, hot⟩ := own_store hbx (by decide) 1 (.string x2)
  have hbx3 : w2.heap[w.heap.size]? = some (.cells #[.string x1, .string x2, .string ⟨#[]⟩, .slice none 0 0, .slice none 0 0] 134 (0, 0)) := hbx2
  have hbl' := hbl w.heap.size (Nat.le_refl _)
  have S2 := Lib.hid (S'.keeps hkp (hbl'.mono HSZ.out))
  have T2 := Lib.hid ((T1.out.trans T').then hbl')
  have B2 := Lib.hid hbx3
  have HD2 := Lib.hid hd
  have HV := Lib.hid hw
  clear hd hw hbx hbx2 hbx3 hkp hbl hbl' hot S' T' S1 T1 B1
  go_wp2_with fail
  first | rw [HV.out] | (erw [HV.out])
  clear HV q f
  refine (rr_text S2.out).mono ?_
  rintro e y3 (⟨x3, l3, u, hd, rfl, rfl, S', T'⟩ | ⟨hd, rfl, hbe, T'⟩)
  rotate_left
  · exact ⟨rfl, .inr ⟨by simp only [dTable, dPair, HD1.out, HD2.out, hd, Option.bind_some, Option.map_some, Option.bind_none, Option.map_none], rfl, hbe, T2.out.trans T'⟩⟩
  have hbx := T'.keep B2.out (by decide)
  have q := cell_blk hbx 2 _ rfl
  have f := frozen_at hbx 2
  obtain ⟨w3, hw, hbx2, hkp, hbl, hot⟩ := own_store hbx (by decide) 2 (.string x3)
  have hbx3 : w3.heap[w.heap.size]? = some (.cells #[.string x1, .string x2, .string x3, .slice none 0 0, .slice none 0 0] 134 (0, 0)) := hbx2
  have hbl' := hbl w.heap.size (Nat.le_refl _)
  have S3 := Lib.hid (S'.keeps hkp (hbl'.mono HSZ.out))
  have T3 := Lib.hid ((T2.out.trans T').then hbl')
  have B3 := Lib.hid hbx3
  have HD3 := Lib.hid hd
  have HV := Lib.hid hw
  clear hd hw hbx hbx2 hbx3 hkp hbl hbl' hot S' T' S2 T2 B2
  go_wp2_with fail
  first | rw [HV.out] | (erw [HV.out])
  clear HV q f
  refine (rr_few_Column S3.out).mono ?_
  rintro e y4 (⟨x4, l4, u, hd, rfl, hR, S', T'⟩ | ⟨hd, rfl, hbe, T'⟩)
  rotate_left
  · exact ⟨rfl, .inr ⟨by simp only [dTable, dPair, HD1.out, HD2.out, HD3.out, hd, Option.bind_some, Option.map_some, Option.bind_none, Option.map_none], rfl, hbe, T3.out.trans T'⟩⟩
  have hbx := T'.keep B3.out (by decide)
  obtain ⟨A3, c3, hu, _, _⟩ := Kd.R_reads hR
  subst hu
  have R3' := Kd.R_lower hR T3.out.size
  clear hR
  have q := cell_blk hbx 3 _ rfl
  have f := frozen_at hbx 3
  obtain ⟨w4, hw, hbx2, hkp, hbl, hot⟩ := own_store hbx (by decide) 3 (.slice A3 x4.length c3)
  have hbx3 : w4.heap[w.heap.size]? = some (.cells #[.string x1, .string x2, .string x3, .slice A3 x4.length c3, .slice none 0 0] 134 (0, 0)) := hbx2
  have hbl' := hbl w.heap.size (Nat.le_refl _)
  have S4 := Lib.hid (S'.keeps hkp (hbl'.mono HSZ.out))
  have T4 := Lib.hid ((T3.out.trans T').then hbl')
  have B4 := Lib.hid hbx3
  have R3'' := made_only R3' hbx (by decide) hot
  have R3 := Lib.hid R3''
  clear R3' R3''
  have HD4 := Lib.hid hd
  have HV := Lib.hid hw
  clear hd hw hbx hbx2 hbx3 hkp hbl hbl' hot S' T' S3 T3 B3
  go_wp2_with fail
  first | rw [HV.out] | (erw [HV.out])
  clear HV q f
  refine (rr_few_Rule S4.out).mono ?_
  rintro e y5 (⟨x5, l5, u, hd, rfl, hR, S', T'⟩ | ⟨hd, rfl, hbe, T'⟩)
  rotate_left
  · exact ⟨rfl, .inr ⟨by simp only [dTable, dPair, HD1.out, HD2.out, HD3.out, HD4.out, hd, Option.bind_some, Option.map_some, Option.bind_none, Option.map_none], rfl, hbe, T4.out.trans T'⟩⟩
  have hbx := T'.keep B4.out (by decide)
  have R3' := T'.R R3.out (by decide)
  obtain ⟨A4, c4, hu, _, _⟩ := Kd.R_reads hR
  subst hu
  have R4' := Kd.R_lower hR T4.out.size
  clear hR
  have q := cell_blk hbx 4 _ rfl
  have f := frozen_at hbx 4
  obtain ⟨w5, hw, hbx2, hkp, hbl, hot⟩ := own_store hbx (by decide) 4 (.slice A4 x5.length c4)
  have hbx3 : w5.heap[w.heap.size]? = some (.cells #[.string x1, .string x2, .string x3, .slice A3 x4.length c3, .slice A4 x5.length c4] 134 (0, 0)) := hbx2
  have hbl' := hbl w.heap.size (Nat.le_refl _)
  have S5 := Lib.hid (S'.keeps hkp (hbl'.mono HSZ.out))
  have T5 := Lib.hid ((T4.out.trans T').then hbl')
  have B5 := Lib.hid hbx3
  have R3'' := made_only R3' hbx (by decide) hot
  have R4'' := made_only R4' hbx (by decide) hot
  clear R3
  have R3 := Lib.hid R3''
  clear R3' R3''
  have R4 := Lib.hid R4''
  clear R4' R4''
  have HD5 := Lib.hid hd
  have HV := Lib.hid hw
  clear hd hw hbx hbx2 hbx3 hkp hbl hbl' hot S' T' S4 T4 B4
  have HM := Lib.hid (mkMTable (w := w5) (base := w.heap.size) (ok := fun _ => True) (x1, x2, x3, x4, x5) R3.out R4.out)
  obtain ⟨WF, hWF, hbF, hkF, hblF, hotF⟩ := own_stores [] [.string x1, .string x2, .string x3, .slice A3 x4.length c3, .slice A4 x5.length c4] [.string x1, .string x2, .string x3, .slice A3 x4.length c3, .slice A4 x5.length c4] [] B5.out (by decide) rfl
  have HF := Lib.hid hWF
  have BF := Lib.hid hbF
  have KF := Lib.hid hkF
  have LF := Lib.hid (hblF w.heap.size (Nat.le_refl _))
  have OF := Lib.hid hotF
  clear hWF hbF hkF hblF hotF
  go_wp2_with (first | ((with_reducible refine gate_load (t := 134) rfl ?_); (first | rw [HV.out] | skip); refine wpList_load_mid rfl 134 _ rfl w.heap.size 0 rfl [.string x1, .string x2, .string x3, .slice A3 x4.length c3, .slice A4 x5.length c4] _ (range_blk [] [.string x1, .string x2, .string x3, .slice A3 x4.length c3, .slice A4 x5.length c4] [] B5.out) Tryz.underlying134 rfl (by kernel_rfl) ?_) | ((with_reducible refine gate_store (t := 134) rfl ?_); refine wpList_store_mid rfl 134 _ _ rfl w.heap.size 0 #[.string x1, .string x2, .string x3, .slice A3 x4.length c3, .slice A4 x5.length c4] rfl rfl (there_blk [] [.string x1, .string x2, .string x3, .slice A3 x4.length c3, .slice A4 x5.length c4] [] B5.out) (by kernel_rfl) (all_oneCell_toArray (kTable.K_one (kTable.K_of_M HM.out))) ?_))
  first | rw [HF.out] | (erw [HF.out])
  refine bodyPost_ret (v := .agg #[.string x1, .string x2, .string x3, .slice A3 x4.length c3, .slice A4 x5.length c4]) (results_cell_row rfl _ _ w.heap.size 134 #[.string x1, .string x2, .string x3, .slice A3 x4.length c3, .slice A4 x5.length c4] (0, 0) _ rfl BF.out Tryz.underlying134 rfl (by kernel_rfl)) rfl ?_
  exact .inl ⟨(x1, x2, x3, x4, x5), l5, _, by simp only [dTable, dPair, HD1.out, HD2.out, HD3.out, HD4.out, HD5.out, Option.bind_some, Option.map_some, Option.bind_none, Option.map_none], rfl, ⟨_, mkMTable (x1, x2, x3, x4, x5) (made_only R3.out B5.out (by decide) OF.out) (made_only R4.out B5.out (by decide) OF.out), rfl⟩, S5.out.keeps KF.out (LF.out.mono HSZ.out), T5.out.then LF.out⟩
theorem info_Table : (Tryz.prog.info? 134).map (fun i => (i.zero, i.size, i.bytes)) = some (some (.agg #[.string ⟨#[]⟩, .string ⟨#[]⟩, .string ⟨#[]⟩, .slice none 0 0, .slice none 0 0]), 5, 96) := by kernel_rfl
set_option maxRecDepth 100000 in
set_option maxHeartbeats 16000000 in
theorem rr_few_Table {w0 w : World} {g : Nat} {B l : Bs} (hS : RAt w0 w g B l) :
    Calls Tryz.prog 46 #[.pointer (some ⟨g, 0, none⟩), .func (.func 47) #[] #[]] w (RDone (dList dTable) (fun xs v w' => kTable.R 134 w' w.heap.size (fun _ => True) v xs) w0 g w B l) := by
  have hIB : IsB l := by
    obtain ⟨p, hp⟩ := hS.suf
    have := hS.isB
    rw [hp] at this
    exact this.right
  have HSZ := Lib.hid hS.below.size
  have C1 := Lib.hid (rr_number hS)
  have HS := Lib.hid hS
  have HIB := Lib.hid hIB
  clear hS hIB
  go_enter Tryz.func46, Tryz.ntmps46
  go_wp2_with fail
  refine C1.out.mono ?_
  rintro e w1 (⟨n, l1, v, hd, rfl, rfl, S1', T1'⟩ | ⟨hd, rfl, hbe, T1'⟩)
  rotate_left
  · exact ⟨rfl, .inr ⟨by simp only [dList, hd, Option.bind_none], rfl, hbe, T1'⟩⟩
  obtain ⟨hn0, hn1⟩ := dNum_range HIB.out hd
  obtain ⟨m, rfl⟩ := Int.eq_ofNat_of_zero_le hn0
  have S1 := Lib.hid S1'
  have T1 := Lib.hid T1'
  have HD := Lib.hid hd
  clear S1' T1' hd C1 HIB
  by_cases h4 : 4096 < (m : Int)
  · have hdec : decide ((m : Int) ≤ 4096) = false := decide_eq_false (by omega)
    go_wp2_with fail
    refine (is_false _).mono ?_
    rintro e w2 ⟨rfl, rfl⟩
    exact ⟨rfl, .inr ⟨by simp only [dList, HD.out, Option.bind_some]; exact if_pos h4, rfl, S1.out.below, T1.out⟩⟩
  · have hdec : decide ((m : Int) ≤ 4096) = true := decide_eq_true (by omega)
    have hm4 : m ≤ 4096 := by omega
    have HL := Lib.hid (show dList dTable l = dTimes dTable m l1 by simp only [dList, HD.out, Option.bind_some, Int.toNat_natCast]; exact if_neg h4)
    clear h4
    go_wp2_with fail
    refine (is_true _).mono ?_
    rintro e w2 ⟨rfl, rfl⟩
    clear hdec
    go_wp2_with fail
    go_loopw [6, 13] (fun v i wr => ∃ k : Nat, k ≤ m ∧ i = .int .i64 k ∧ ∃ xs lr, dTimes dTable k l1 = some (xs, lr) ∧ xs.length = k ∧ kTable.R 134 wr w.heap.size (fun _ => True) v xs ∧ RAt w0 wr g B lr ∧ Stp SR w wr) (fun _ i _ => m - (intOf i).toNat)
    case atStart => exact ⟨0, Nat.zero_le _, rfl, [], l1, rfl, rfl, Kd.R_nil _ _ _ _ _, S1.out, T1.out⟩
    case round =>
      obtain ⟨k, hk, rfl, xs, lr, hdt, hxl, hR, hS, hT⟩ := hrel
      obtain ⟨A, c, hv, _, _⟩ := Kd.R_reads hR
      subst hv
      have HT := Lib.hid hdt
      have HX := Lib.hid hxl
      have HR := Lib.hid hR
      have SR_ := Lib.hid hS
      have TR := Lib.hid hT
      clear hdt hxl hR hS hT S1 T1
      by_cases hlt : k < m
      · have hlt' : (k : Int) < (m : Int) := by omega
        go_wp2_with fail
        refine (rr_table SR_.out).mono ?_
        rintro e w3 (⟨x, l2, u, hd, rfl, ⟨cs, hM, rfl⟩, S3', T3'⟩ | ⟨hd, rfl, hbe, T3'⟩)
        rotate_left
        · exact ⟨rfl, .inr ⟨by rw [HL.out]; exact times_none _ HT.out hd hlt, rfl, hbe, TR.out.trans T3'⟩⟩
        have hlen : xs.length ≤ 4096 := by rw [HX.out]; omega
        have hO := T3'.R HR.out (by decide)
        have hE := elem_ok hM (fun k hk => Kd.R_lt HR.out k hk) TR.out.size (v := Value.slice A xs.length c)
        obtain ⟨v3, v4, rfl, _, _⟩ := openMTable hM
        have HO := Lib.hid hO
        have HE := Lib.hid hE
        have S3 := Lib.hid S3'
        have T3 := Lib.hid (TR.out.trans T3')
        have HD3 := Lib.hid hd
        clear hO hE S3' T3' hd TR HR SR_ hM
        go_wp2_with (((with_reducible refine gate_builtin (b := .append) (xs := #[.tmp 15, .tmp 19]) rfl ?_); at_builtin; refine Kd.R_append kTable (w0 := w3) w.heap.size rfl (.tmp 15) (.tmp 19) 25 134 (.agg #[.string ⟨#[]⟩, .string ⟨#[]⟩, .string ⟨#[]⟩, .slice none 0 0, .slice none 0 0]) 96 rfl Tryz.underlying25 info_Table rfl (by decide) (by decide) (.slice A xs.length c) xs x [.string x.1, .string x.2.1, .string x.2.2.1, v3, v4] (fun _ => True) (fun k => True ∧ some k ≠ (Value.slice A xs.length c).ownBlock) rfl rfl HE.out (fun _ h => h) (fun _ _ => trivial) HO.out (Below.refl _ _) (Nat.le_trans T3.out.size (Nat.le_refl _)) (by omega) ?_; intro v1 w4 ho hb hg hat; have HO4 := Lib.hid ho; have HB4 := Lib.hid hb; have HG4 := Lib.hid hg; clear ho hb hg hat))
        have hs4 : dTimes dTable (k + 1) l1 = some (xs ++ [x], l2) := by rw [dTimes_snoc, HT.out]; simp only [Option.bind_some, HD3.out, Option.map_some]
        have HS4 := Lib.hid hs4
        have S4 := Lib.hid (S3.out.keeps (Keeps.row HO.out HG4.out (by decide)) (HB4.out.mono (Nat.le_trans HSZ.out (Nat.le_refl _))))
        have T4 := Lib.hid (T3.out.then HB4.out)
        have HX4 := Lib.hid (show (xs ++ [x]).length = k + 1 by rw [List.length_append, HX.out]; rfl)
        clear hs4
        go_wp2
        go_roundw
        case rel => exact ⟨k + 1, by omega, by simp, _, _, HS4.out, HX4.out, HO4.out, S4.out, T4.out⟩
        case measure => simp [intOf]; omega
      · have hke : k = m := by omega
        have HK := Lib.hid hke
        clear hke
        go_wp2
        go_ret
        have ht := HT.out
        rw [HK.out] at ht
        exact .inl ⟨xs, lr, _, by rw [HL.out, ht], rfl, HR.out, SR_.out, TR.out⟩
set_option maxRecDepth 100000 in
set_option maxHeartbeats 16000000 in
theorem rr_schema {w0 w : World} {g : Nat} {B l0 : Bs} (hS : RAt w0 w g B l0) :
    Calls Tryz.prog 45 #[.pointer (some ⟨g, 0, none⟩)] w (RDone dSchema (fun x v w' => ∃ cs, kSchema.M w' w.heap.size (fun _ => True) x cs ∧ v = .agg cs.toArray) w0 g w B l0) := by
  have hb0 : Below w.heap.size w (w.alloc (.cells #[.string ⟨#[]⟩, .string ⟨#[]⟩] 128)) := (Below.refl _ _).alloc (Nat.le_refl _) _
  have hx0 := blk_new w (.cells #[.string ⟨#[]⟩, .string ⟨#[]⟩] 128)
  obtain ⟨W0, hW0⟩ : ∃ W0, w.alloc (.cells #[.string ⟨#[]⟩, .string ⟨#[]⟩] 128) = W0 := ⟨_, rfl⟩
  rw [hW0] at hb0 hx0
  have HSZ := Lib.hid hS.below.size
  have S0 := Lib.hid (hS.keeps (Keeps.below hb0) (hb0.mono hS.below.size))
  have B0 := Lib.hid hx0
  have T0 := Lib.hid (Stp.below (S := SR) hb0)
  have HW := Lib.hid hW0
  clear hb0 hx0 hW0 hS
  go_enter Tryz.func45, Tryz.ntmps45
  go_wp2_with fail
  rw [HW.out]
  clear HW
  refine (rr_text S0.out).mono ?_
  rintro e y1 (⟨x1, l1, u, hd, rfl, rfl, S', T'⟩ | ⟨hd, rfl, hbe, T'⟩)
  rotate_left
  · exact ⟨rfl, .inr ⟨by simp only [dSchema, dPair, hd, Option.bind_some, Option.map_some, Option.bind_none, Option.map_none], rfl, hbe, T0.out.trans T'⟩⟩
  have hbx := T'.keep B0.out (by decide)
  have q := cell_blk hbx 0 _ rfl
  have f := frozen_at hbx 0
  obtain ⟨w1, hw, hbx2, hkp, hbl, hot⟩ := own_store hbx (by decide) 0 (.string x1)
  have hbx3 : w1.heap[w.heap.size]? = some (.cells #[.string x1, .string ⟨#[]⟩] 128 (0, 0)) := hbx2
  have hbl' := hbl w.heap.size (Nat.le_refl _)
  have S1 := Lib.hid (S'.keeps hkp (hbl'.mono HSZ.out))
  have T1 := Lib.hid ((T0.out.trans T').then hbl')
  have B1 := Lib.hid hbx3
  have HD1 := Lib.hid hd
  have HV := Lib.hid hw
  clear hd hw hbx hbx2 hbx3 hkp hbl hbl' hot S' T' S0 T0 B0
  go_wp2_with fail
  first | rw [HV.out] | (erw [HV.out])
  clear HV q f
  refine (rr_text S1.out).mono ?_
  rintro e y2 (⟨x2, l2, u, hd, rfl, rfl, S', T'⟩ | ⟨hd, rfl, hbe, T'⟩)
  rotate_left
  · exact ⟨rfl, .inr ⟨by simp only [dSchema, dPair, HD1.out, hd, Option.bind_some, Option.map_some, Option.bind_none, Option.map_none], rfl, hbe, T1.out.trans T'⟩⟩
  have hbx := T'.keep B1.out (by decide)
  have q := cell_blk hbx 1 _ rfl
  have f := frozen_at hbx 1
  obtain ⟨w2, hw, hbx2, hkp, hbl, hot⟩ := own_store hbx (by decide) 1 (.string x2)
  have hbx3 : w2.heap[w.heap.size]? = some (.cells #[.string x1, .string x2] 128 (0, 0)) := hbx2
  have hbl' := hbl w.heap.size (Nat.le_refl _)
  have S2 := Lib.hid (S'.keeps hkp (hbl'.mono HSZ.out))
  have T2 := Lib.hid ((T1.out.trans T').then hbl')
  have B2 := Lib.hid hbx3
  have HD2 := Lib.hid hd
  have HV := Lib.hid hw
  clear hd hw hbx hbx2 hbx3 hkp hbl hbl' hot S' T' S1 T1 B1
  have HM := Lib.hid (mkMSchema (w := w2) (base := w.heap.size) (ok := fun _ => True) (x1, x2) )
  obtain ⟨WF, hWF, hbF, hkF, hblF, hotF⟩ := own_stores [] [.string x1, .string x2] [.string x1, .string x2] [] B2.out (by decide) rfl
  have HF := Lib.hid hWF
  have BF := Lib.hid hbF
  have KF := Lib.hid hkF
  have LF := Lib.hid (hblF w.heap.size (Nat.le_refl _))
  have OF := Lib.hid hotF
  clear hWF hbF hkF hblF hotF
  go_wp2_with (first | ((with_reducible refine gate_load (t := 128) rfl ?_); (first | rw [HV.out] | skip); refine wpList_load_mid rfl 128 _ rfl w.heap.size 0 rfl [.string x1, .string x2] _ (range_blk [] [.string x1, .string x2] [] B2.out) Tryz.underlying128 rfl (by kernel_rfl) ?_) | ((with_reducible refine gate_store (t := 128) rfl ?_); refine wpList_store_mid rfl 128 _ _ rfl w.heap.size 0 #[.string x1, .string x2] rfl rfl (there_blk [] [.string x1, .string x2] [] B2.out) (by kernel_rfl) (all_oneCell_toArray (kSchema.K_one (kSchema.K_of_M HM.out))) ?_))
  first | rw [HF.out] | (erw [HF.out])
  refine bodyPost_ret (v := .agg #[.string x1, .string x2]) (results_cell_row rfl _ _ w.heap.size 128 #[.string x1, .string x2] (0, 0) _ rfl BF.out Tryz.underlying128 rfl (by kernel_rfl)) rfl ?_
  exact .inl ⟨(x1, x2), l2, _, by simp only [dSchema, dPair, HD1.out, HD2.out, Option.bind_some, Option.map_some, Option.bind_none, Option.map_none], rfl, ⟨_, mkMSchema (x1, x2) , rfl⟩, S2.out.keeps KF.out (LF.out.mono HSZ.out), T2.out.then LF.out⟩
theorem info_Schema : (Tryz.prog.info? 128).map (fun i => (i.zero, i.size, i.bytes)) = some (some (.agg #[.string ⟨#[]⟩, .string ⟨#[]⟩]), 2, 32) := by kernel_rfl
set_option maxRecDepth 100000 in
set_option maxHeartbeats 16000000 in
theorem rr_few_Schema {w0 w : World} {g : Nat} {B l : Bs} (hS : RAt w0 w g B l) :
    Calls Tryz.prog 44 #[.pointer (some ⟨g, 0, none⟩), .func (.func 45) #[] #[]] w (RDone (dList dSchema) (fun xs v w' => kSchema.R 128 w' w.heap.size (fun _ => True) v xs) w0 g w B l) := by
  have hIB : IsB l := by
    obtain ⟨p, hp⟩ := hS.suf
    have := hS.isB
    rw [hp] at this
    exact this.right
  have HSZ := Lib.hid hS.below.size
  have C1 := Lib.hid (rr_number hS)
  have HS := Lib.hid hS
  have HIB := Lib.hid hIB
  clear hS hIB
  go_enter Tryz.func44, Tryz.ntmps44
  go_wp2_with fail
  refine C1.out.mono ?_
  rintro e w1 (⟨n, l1, v, hd, rfl, rfl, S1', T1'⟩ | ⟨hd, rfl, hbe, T1'⟩)
  rotate_left
  · exact ⟨rfl, .inr ⟨by simp only [dList, hd, Option.bind_none], rfl, hbe, T1'⟩⟩
  obtain ⟨hn0, hn1⟩ := dNum_range HIB.out hd
  obtain ⟨m, rfl⟩ := Int.eq_ofNat_of_zero_le hn0
  have S1 := Lib.hid S1'
  have T1 := Lib.hid T1'
  have HD := Lib.hid hd
  clear S1' T1' hd C1 HIB
  by_cases h4 : 4096 < (m : Int)
  · have hdec : decide ((m : Int) ≤ 4096) = false := decide_eq_false (by omega)
    go_wp2_with fail
    refine (is_false _).mono ?_
    rintro e w2 ⟨rfl, rfl⟩
    exact ⟨rfl, .inr ⟨by simp only [dList, HD.out, Option.bind_some]; exact if_pos h4, rfl, S1.out.below, T1.out⟩⟩
  · have hdec : decide ((m : Int) ≤ 4096) = true := decide_eq_true (by omega)
    have hm4 : m ≤ 4096 := by omega
    have HL := Lib.hid (show dList dSchema l = dTimes dSchema m l1 by simp only [dList, HD.out, Option.bind_some, Int.toNat_natCast]; exact if_neg h4)
    clear h4
    go_wp2_with fail
    refine (is_true _).mono ?_
    rintro e w2 ⟨rfl, rfl⟩
    clear hdec
    go_wp2_with fail
    go_loopw [6, 13] (fun v i wr => ∃ k : Nat, k ≤ m ∧ i = .int .i64 k ∧ ∃ xs lr, dTimes dSchema k l1 = some (xs, lr) ∧ xs.length = k ∧ kSchema.R 128 wr w.heap.size (fun _ => True) v xs ∧ RAt w0 wr g B lr ∧ Stp SR w wr) (fun _ i _ => m - (intOf i).toNat)
    case atStart => exact ⟨0, Nat.zero_le _, rfl, [], l1, rfl, rfl, Kd.R_nil _ _ _ _ _, S1.out, T1.out⟩
    case round =>
      obtain ⟨k, hk, rfl, xs, lr, hdt, hxl, hR, hS, hT⟩ := hrel
      obtain ⟨A, c, hv, _, _⟩ := Kd.R_reads hR
      subst hv
      have HT := Lib.hid hdt
      have HX := Lib.hid hxl
      have HR := Lib.hid hR
      have SR_ := Lib.hid hS
      have TR := Lib.hid hT
      clear hdt hxl hR hS hT S1 T1
      by_cases hlt : k < m
      · have hlt' : (k : Int) < (m : Int) := by omega
        go_wp2_with fail
        refine (rr_schema SR_.out).mono ?_
        rintro e w3 (⟨x, l2, u, hd, rfl, ⟨cs, hM, rfl⟩, S3', T3'⟩ | ⟨hd, rfl, hbe, T3'⟩)
        rotate_left
        · exact ⟨rfl, .inr ⟨by rw [HL.out]; exact times_none _ HT.out hd hlt, rfl, hbe, TR.out.trans T3'⟩⟩
        have hlen : xs.length ≤ 4096 := by rw [HX.out]; omega
        have hO := T3'.R HR.out (by decide)
        have hE := elem_ok hM (fun k hk => Kd.R_lt HR.out k hk) TR.out.size (v := Value.slice A xs.length c)
        obtain rfl := openMSchema hM
        have HO := Lib.hid hO
        have HE := Lib.hid hE
        have S3 := Lib.hid S3'
        have T3 := Lib.hid (TR.out.trans T3')
        have HD3 := Lib.hid hd
        clear hO hE S3' T3' hd TR HR SR_ hM
        go_wp2_with (((with_reducible refine gate_builtin (b := .append) (xs := #[.tmp 15, .tmp 19]) rfl ?_); at_builtin; refine Kd.R_append kSchema (w0 := w3) w.heap.size rfl (.tmp 15) (.tmp 19) 24 128 (.agg #[.string ⟨#[]⟩, .string ⟨#[]⟩]) 32 rfl Tryz.underlying24 info_Schema rfl (by decide) (by decide) (.slice A xs.length c) xs x [.string x.1, .string x.2] (fun _ => True) (fun k => True ∧ some k ≠ (Value.slice A xs.length c).ownBlock) rfl rfl HE.out (fun _ h => h) (fun _ _ => trivial) HO.out (Below.refl _ _) (Nat.le_trans T3.out.size (Nat.le_refl _)) (by omega) ?_; intro v1 w4 ho hb hg hat; have HO4 := Lib.hid ho; have HB4 := Lib.hid hb; have HG4 := Lib.hid hg; clear ho hb hg hat))
        have hs4 : dTimes dSchema (k + 1) l1 = some (xs ++ [x], l2) := by rw [dTimes_snoc, HT.out]; simp only [Option.bind_some, HD3.out, Option.map_some]
        have HS4 := Lib.hid hs4
        have S4 := Lib.hid (S3.out.keeps (Keeps.row HO.out HG4.out (by decide)) (HB4.out.mono (Nat.le_trans HSZ.out (Nat.le_refl _))))
        have T4 := Lib.hid (T3.out.then HB4.out)
        have HX4 := Lib.hid (show (xs ++ [x]).length = k + 1 by rw [List.length_append, HX.out]; rfl)
        clear hs4
        go_wp2
        go_roundw
        case rel => exact ⟨k + 1, by omega, by simp, _, _, HS4.out, HX4.out, HO4.out, S4.out, T4.out⟩
        case measure => simp [intOf]; omega
      · have hke : k = m := by omega
        have HK := Lib.hid hke
        clear hke
        go_wp2
        go_ret
        have ht := HT.out
        rw [HK.out] at ht
        exact .inl ⟨xs, lr, _, by rw [HL.out, ht], rfl, HR.out, SR_.out, TR.out⟩
set_option maxRecDepth 100000 in
set_option maxHeartbeats 16000000 in
theorem rr_member {w0 w : World} {g : Nat} {B l0 : Bs} (hS : RAt w0 w g B l0) :
    Calls Tryz.prog 51 #[.pointer (some ⟨g, 0, none⟩)] w (RDone dMember (fun x v w' => ∃ cs, kMember.M w' w.heap.size (fun _ => True) x cs ∧ v = .agg cs.toArray) w0 g w B l0) := by
  have hb0 : Below w.heap.size w (w.alloc (.cells #[.string ⟨#[]⟩, .string ⟨#[]⟩] 142)) := (Below.refl _ _).alloc (Nat.le_refl _) _
  have hx0 := blk_new w (.cells #[.string ⟨#[]⟩, .string ⟨#[]⟩] 142)
  obtain ⟨W0, hW0⟩ : ∃ W0, w.alloc (.cells #[.string ⟨#[]⟩, .string ⟨#[]⟩] 142) = W0 := ⟨_, rfl⟩
  rw [hW0] at hb0 hx0
  have HSZ := Lib.hid hS.below.size
  have S0 := Lib.hid (hS.keeps (Keeps.below hb0) (hb0.mono hS.below.size))
  have B0 := Lib.hid hx0
  have T0 := Lib.hid (Stp.below (S := SR) hb0)
  have HW := Lib.hid hW0
  clear hb0 hx0 hW0 hS
  go_enter Tryz.func51, Tryz.ntmps51
  go_wp2_with fail
  rw [HW.out]
  clear HW
  refine (rr_text S0.out).mono ?_
  rintro e y1 (⟨x1, l1, u, hd, rfl, rfl, S', T'⟩ | ⟨hd, rfl, hbe, T'⟩)
  rotate_left
  · exact ⟨rfl, .inr ⟨by simp only [dMember, dPair, hd, Option.bind_some, Option.map_some, Option.bind_none, Option.map_none], rfl, hbe, T0.out.trans T'⟩⟩
  have hbx := T'.keep B0.out (by decide)
  have q := cell_blk hbx 0 _ rfl
  have f := frozen_at hbx 0
  obtain ⟨w1, hw, hbx2, hkp, hbl, hot⟩ := own_store hbx (by decide) 0 (.string x1)
  have hbx3 : w1.heap[w.heap.size]? = some (.cells #[.string x1, .string ⟨#[]⟩] 142 (0, 0)) := hbx2
  have hbl' := hbl w.heap.size (Nat.le_refl _)
  have S1 := Lib.hid (S'.keeps hkp (hbl'.mono HSZ.out))
  have T1 := Lib.hid ((T0.out.trans T').then hbl')
  have B1 := Lib.hid hbx3
  have HD1 := Lib.hid hd
  have HV := Lib.hid hw
  clear hd hw hbx hbx2 hbx3 hkp hbl hbl' hot S' T' S0 T0 B0
  go_wp2_with fail
  first | rw [HV.out] | (erw [HV.out])
  clear HV q f
  refine (rr_text S1.out).mono ?_
  rintro e y2 (⟨x2, l2, u, hd, rfl, rfl, S', T'⟩ | ⟨hd, rfl, hbe, T'⟩)
  rotate_left
  · exact ⟨rfl, .inr ⟨by simp only [dMember, dPair, HD1.out, hd, Option.bind_some, Option.map_some, Option.bind_none, Option.map_none], rfl, hbe, T1.out.trans T'⟩⟩
  have hbx := T'.keep B1.out (by decide)
  have q := cell_blk hbx 1 _ rfl
  have f := frozen_at hbx 1
  obtain ⟨w2, hw, hbx2, hkp, hbl, hot⟩ := own_store hbx (by decide) 1 (.string x2)
  have hbx3 : w2.heap[w.heap.size]? = some (.cells #[.string x1, .string x2] 142 (0, 0)) := hbx2
  have hbl' := hbl w.heap.size (Nat.le_refl _)
  have S2 := Lib.hid (S'.keeps hkp (hbl'.mono HSZ.out))
  have T2 := Lib.hid ((T1.out.trans T').then hbl')
  have B2 := Lib.hid hbx3
  have HD2 := Lib.hid hd
  have HV := Lib.hid hw
  clear hd hw hbx hbx2 hbx3 hkp hbl hbl' hot S' T' S1 T1 B1
  have HM := Lib.hid (mkMMember (w := w2) (base := w.heap.size) (ok := fun _ => True) (x1, x2) )
  obtain ⟨WF, hWF, hbF, hkF, hblF, hotF⟩ := own_stores [] [.string x1, .string x2] [.string x1, .string x2] [] B2.out (by decide) rfl
  have HF := Lib.hid hWF
  have BF := Lib.hid hbF
  have KF := Lib.hid hkF
  have LF := Lib.hid (hblF w.heap.size (Nat.le_refl _))
  have OF := Lib.hid hotF
  clear hWF hbF hkF hblF hotF
  go_wp2_with (first | ((with_reducible refine gate_load (t := 142) rfl ?_); (first | rw [HV.out] | skip); refine wpList_load_mid rfl 142 _ rfl w.heap.size 0 rfl [.string x1, .string x2] _ (range_blk [] [.string x1, .string x2] [] B2.out) Tryz.underlying142 rfl (by kernel_rfl) ?_) | ((with_reducible refine gate_store (t := 142) rfl ?_); refine wpList_store_mid rfl 142 _ _ rfl w.heap.size 0 #[.string x1, .string x2] rfl rfl (there_blk [] [.string x1, .string x2] [] B2.out) (by kernel_rfl) (all_oneCell_toArray (kMember.K_one (kMember.K_of_M HM.out))) ?_))
  first | rw [HF.out] | (erw [HF.out])
  refine bodyPost_ret (v := .agg #[.string x1, .string x2]) (results_cell_row rfl _ _ w.heap.size 142 #[.string x1, .string x2] (0, 0) _ rfl BF.out Tryz.underlying142 rfl (by kernel_rfl)) rfl ?_
  exact .inl ⟨(x1, x2), l2, _, by simp only [dMember, dPair, HD1.out, HD2.out, Option.bind_some, Option.map_some, Option.bind_none, Option.map_none], rfl, ⟨_, mkMMember (x1, x2) , rfl⟩, S2.out.keeps KF.out (LF.out.mono HSZ.out), T2.out.then LF.out⟩
theorem info_Member : (Tryz.prog.info? 142).map (fun i => (i.zero, i.size, i.bytes)) = some (some (.agg #[.string ⟨#[]⟩, .string ⟨#[]⟩]), 2, 32) := by kernel_rfl
set_option maxRecDepth 100000 in
set_option maxHeartbeats 16000000 in
theorem rr_few_Member {w0 w : World} {g : Nat} {B l : Bs} (hS : RAt w0 w g B l) :
    Calls Tryz.prog 50 #[.pointer (some ⟨g, 0, none⟩), .func (.func 51) #[] #[]] w (RDone (dList dMember) (fun xs v w' => kMember.R 142 w' w.heap.size (fun _ => True) v xs) w0 g w B l) := by
  have hIB : IsB l := by
    obtain ⟨p, hp⟩ := hS.suf
    have := hS.isB
    rw [hp] at this
    exact this.right
  have HSZ := Lib.hid hS.below.size
  have C1 := Lib.hid (rr_number hS)
  have HS := Lib.hid hS
  have HIB := Lib.hid hIB
  clear hS hIB
  go_enter Tryz.func50, Tryz.ntmps50
  go_wp2_with fail
  refine C1.out.mono ?_
  rintro e w1 (⟨n, l1, v, hd, rfl, rfl, S1', T1'⟩ | ⟨hd, rfl, hbe, T1'⟩)
  rotate_left
  · exact ⟨rfl, .inr ⟨by simp only [dList, hd, Option.bind_none], rfl, hbe, T1'⟩⟩
  obtain ⟨hn0, hn1⟩ := dNum_range HIB.out hd
  obtain ⟨m, rfl⟩ := Int.eq_ofNat_of_zero_le hn0
  have S1 := Lib.hid S1'
  have T1 := Lib.hid T1'
  have HD := Lib.hid hd
  clear S1' T1' hd C1 HIB
  by_cases h4 : 4096 < (m : Int)
  · have hdec : decide ((m : Int) ≤ 4096) = false := decide_eq_false (by omega)
    go_wp2_with fail
    refine (is_false _).mono ?_
    rintro e w2 ⟨rfl, rfl⟩
    exact ⟨rfl, .inr ⟨by simp only [dList, HD.out, Option.bind_some]; exact if_pos h4, rfl, S1.out.below, T1.out⟩⟩
  · have hdec : decide ((m : Int) ≤ 4096) = true := decide_eq_true (by omega)
    have hm4 : m ≤ 4096 := by omega
    have HL := Lib.hid (show dList dMember l = dTimes dMember m l1 by simp only [dList, HD.out, Option.bind_some, Int.toNat_natCast]; exact if_neg h4)
    clear h4
    go_wp2_with fail
    refine (is_true _).mono ?_
    rintro e w2 ⟨rfl, rfl⟩
    clear hdec
    go_wp2_with fail
    go_loopw [6, 13] (fun v i wr => ∃ k : Nat, k ≤ m ∧ i = .int .i64 k ∧ ∃ xs lr, dTimes dMember k l1 = some (xs, lr) ∧ xs.length = k ∧ kMember.R 142 wr w.heap.size (fun _ => True) v xs ∧ RAt w0 wr g B lr ∧ Stp SR w wr) (fun _ i _ => m - (intOf i).toNat)
    case atStart => exact ⟨0, Nat.zero_le _, rfl, [], l1, rfl, rfl, Kd.R_nil _ _ _ _ _, S1.out, T1.out⟩
    case round =>
      obtain ⟨k, hk, rfl, xs, lr, hdt, hxl, hR, hS, hT⟩ := hrel
      obtain ⟨A, c, hv, _, _⟩ := Kd.R_reads hR
      subst hv
      have HT := Lib.hid hdt
      have HX := Lib.hid hxl
      have HR := Lib.hid hR
      have SR_ := Lib.hid hS
      have TR := Lib.hid hT
      clear hdt hxl hR hS hT S1 T1
      by_cases hlt : k < m
      · have hlt' : (k : Int) < (m : Int) := by omega
        go_wp2_with fail
        refine (rr_member SR_.out).mono ?_
        rintro e w3 (⟨x, l2, u, hd, rfl, ⟨cs, hM, rfl⟩, S3', T3'⟩ | ⟨hd, rfl, hbe, T3'⟩)
        rotate_left
        · exact ⟨rfl, .inr ⟨by rw [HL.out]; exact times_none _ HT.out hd hlt, rfl, hbe, TR.out.trans T3'⟩⟩
        have hlen : xs.length ≤ 4096 := by rw [HX.out]; omega
        have hO := T3'.R HR.out (by decide)
        have hE := elem_ok hM (fun k hk => Kd.R_lt HR.out k hk) TR.out.size (v := Value.slice A xs.length c)
        obtain rfl := openMMember hM
        have HO := Lib.hid hO
        have HE := Lib.hid hE
        have S3 := Lib.hid S3'
        have T3 := Lib.hid (TR.out.trans T3')
        have HD3 := Lib.hid hd
        clear hO hE S3' T3' hd TR HR SR_ hM
        go_wp2_with (((with_reducible refine gate_builtin (b := .append) (xs := #[.tmp 15, .tmp 19]) rfl ?_); at_builtin; refine Kd.R_append kMember (w0 := w3) w.heap.size rfl (.tmp 15) (.tmp 19) 29 142 (.agg #[.string ⟨#[]⟩, .string ⟨#[]⟩]) 32 rfl Tryz.underlying29 info_Member rfl (by decide) (by decide) (.slice A xs.length c) xs x [.string x.1, .string x.2] (fun _ => True) (fun k => True ∧ some k ≠ (Value.slice A xs.length c).ownBlock) rfl rfl HE.out (fun _ h => h) (fun _ _ => trivial) HO.out (Below.refl _ _) (Nat.le_trans T3.out.size (Nat.le_refl _)) (by omega) ?_; intro v1 w4 ho hb hg hat; have HO4 := Lib.hid ho; have HB4 := Lib.hid hb; have HG4 := Lib.hid hg; clear ho hb hg hat))
        have hs4 : dTimes dMember (k + 1) l1 = some (xs ++ [x], l2) := by rw [dTimes_snoc, HT.out]; simp only [Option.bind_some, HD3.out, Option.map_some]
        have HS4 := Lib.hid hs4
        have S4 := Lib.hid (S3.out.keeps (Keeps.row HO.out HG4.out (by decide)) (HB4.out.mono (Nat.le_trans HSZ.out (Nat.le_refl _))))
        have T4 := Lib.hid (T3.out.then HB4.out)
        have HX4 := Lib.hid (show (xs ++ [x]).length = k + 1 by rw [List.length_append, HX.out]; rfl)
        clear hs4
        go_wp2
        go_roundw
        case rel => exact ⟨k + 1, by omega, by simp, _, _, HS4.out, HX4.out, HO4.out, S4.out, T4.out⟩
        case measure => simp [intOf]; omega
      · have hke : k = m := by omega
        have HK := Lib.hid hke
        clear hke
        go_wp2
        go_ret
        have ht := HT.out
        rw [HK.out] at ht
        exact .inl ⟨xs, lr, _, by rw [HL.out, ht], rfl, HR.out, SR_.out, TR.out⟩
set_option maxRecDepth 100000 in
set_option maxHeartbeats 16000000 in
theorem rr_grant {w0 w : World} {g : Nat} {B l0 : Bs} (hS : RAt w0 w g B l0) :
    Calls Tryz.prog 53 #[.pointer (some ⟨g, 0, none⟩)] w (RDone dGrant (fun x v w' => ∃ cs, kGrant.M w' w.heap.size (fun _ => True) x cs ∧ v = .agg cs.toArray) w0 g w B l0) := by
  have hb0 : Below w.heap.size w (w.alloc (.cells #[.string ⟨#[]⟩, .string ⟨#[]⟩, .int .i64 0, .string ⟨#[]⟩, .string ⟨#[]⟩, .bool false] 147)) := (Below.refl _ _).alloc (Nat.le_refl _) _
  have hx0 := blk_new w (.cells #[.string ⟨#[]⟩, .string ⟨#[]⟩, .int .i64 0, .string ⟨#[]⟩, .string ⟨#[]⟩, .bool false] 147)
  obtain ⟨W0, hW0⟩ : ∃ W0, w.alloc (.cells #[.string ⟨#[]⟩, .string ⟨#[]⟩, .int .i64 0, .string ⟨#[]⟩, .string ⟨#[]⟩, .bool false] 147) = W0 := ⟨_, rfl⟩
  rw [hW0] at hb0 hx0
  have HSZ := Lib.hid hS.below.size
  have S0 := Lib.hid (hS.keeps (Keeps.below hb0) (hb0.mono hS.below.size))
  have B0 := Lib.hid hx0
  have T0 := Lib.hid (Stp.below (S := SR) hb0)
  have HW := Lib.hid hW0
  clear hb0 hx0 hW0 hS
  go_enter Tryz.func53, Tryz.ntmps53
  go_wp2_with fail
  rw [HW.out]
  clear HW
  refine (rr_text S0.out).mono ?_
  rintro e y1 (⟨x1, l1, u, hd, rfl, rfl, S', T'⟩ | ⟨hd, rfl, hbe, T'⟩)
  rotate_left
  · exact ⟨rfl, .inr ⟨by simp only [dGrant, dPair, hd, Option.bind_some, Option.map_some, Option.bind_none, Option.map_none], rfl, hbe, T0.out.trans T'⟩⟩
  have hbx := T'.keep B0.out (by decide)
  have q := cell_blk hbx 0 _ rfl
  have f := frozen_at hbx 0
  obtain ⟨w1, hw, hbx2, hkp, hbl, hot⟩ := own_store hbx (by decide) 0 (.string x1)
  have hbx3 : w1.heap[w.heap.size]? = some (.cells #[.string x1, .string ⟨#[]⟩, .int .i64 0, .string ⟨#[]⟩, .string ⟨#[]⟩, .bool false] 147 (0, 0)) := hbx2
  have hbl' := hbl w.heap.size (Nat.le_refl _)
  have S1 := Lib.hid (S'.keeps hkp (hbl'.mono HSZ.out))
  have T1 := Lib.hid ((T0.out.trans T').then hbl')
  have B1 := Lib.hid hbx3
  have HD1 := Lib.hid hd
  have HV := Lib.hid hw
  clear hd hw hbx hbx2 hbx3 hkp hbl hbl' hot S' T' S0 T0 B0
  go_wp2_with fail
  first | rw [HV.out] | (erw [HV.out])
  clear HV q f
  refine (rr_text S1.out).mono ?_
  rintro e y2 (⟨x2, l2, u, hd, rfl, rfl, S', T'⟩ | ⟨hd, rfl, hbe, T'⟩)
  rotate_left
  · exact ⟨rfl, .inr ⟨by simp only [dGrant, dPair, HD1.out, hd, Option.bind_some, Option.map_some, Option.bind_none, Option.map_none], rfl, hbe, T1.out.trans T'⟩⟩
  have hbx := T'.keep B1.out (by decide)
  have q := cell_blk hbx 1 _ rfl
  have f := frozen_at hbx 1
  obtain ⟨w2, hw, hbx2, hkp, hbl, hot⟩ := own_store hbx (by decide) 1 (.string x2)
  have hbx3 : w2.heap[w.heap.size]? = some (.cells #[.string x1, .string x2, .int .i64 0, .string ⟨#[]⟩, .string ⟨#[]⟩, .bool false] 147 (0, 0)) := hbx2
  have hbl' := hbl w.heap.size (Nat.le_refl _)
  have S2 := Lib.hid (S'.keeps hkp (hbl'.mono HSZ.out))
  have T2 := Lib.hid ((T1.out.trans T').then hbl')
  have B2 := Lib.hid hbx3
  have HD2 := Lib.hid hd
  have HV := Lib.hid hw
  clear hd hw hbx hbx2 hbx3 hkp hbl hbl' hot S' T' S1 T1 B1
  go_wp2_with fail
  first | rw [HV.out] | (erw [HV.out])
  clear HV q f
  refine (rr_number S2.out).mono ?_
  rintro e y3 (⟨x3, l3, u, hd, rfl, rfl, S', T'⟩ | ⟨hd, rfl, hbe, T'⟩)
  rotate_left
  · exact ⟨rfl, .inr ⟨by simp only [dGrant, dPair, HD1.out, HD2.out, hd, Option.bind_some, Option.map_some, Option.bind_none, Option.map_none], rfl, hbe, T2.out.trans T'⟩⟩
  have hbx := T'.keep B2.out (by decide)
  have q := cell_blk hbx 2 _ rfl
  have f := frozen_at hbx 2
  obtain ⟨w3, hw, hbx2, hkp, hbl, hot⟩ := own_store hbx (by decide) 2 (.int .i64 x3)
  have hbx3 : w3.heap[w.heap.size]? = some (.cells #[.string x1, .string x2, .int .i64 x3, .string ⟨#[]⟩, .string ⟨#[]⟩, .bool false] 147 (0, 0)) := hbx2
  have hbl' := hbl w.heap.size (Nat.le_refl _)
  have S3 := Lib.hid (S'.keeps hkp (hbl'.mono HSZ.out))
  have T3 := Lib.hid ((T2.out.trans T').then hbl')
  have B3 := Lib.hid hbx3
  have HD3 := Lib.hid hd
  have HV := Lib.hid hw
  clear hd hw hbx hbx2 hbx3 hkp hbl hbl' hot S' T' S2 T2 B2
  go_wp2_with fail
  first | rw [HV.out] | (erw [HV.out])
  clear HV q f
  refine (rr_text S3.out).mono ?_
  rintro e y4 (⟨x4, l4, u, hd, rfl, rfl, S', T'⟩ | ⟨hd, rfl, hbe, T'⟩)
  rotate_left
  · exact ⟨rfl, .inr ⟨by simp only [dGrant, dPair, HD1.out, HD2.out, HD3.out, hd, Option.bind_some, Option.map_some, Option.bind_none, Option.map_none], rfl, hbe, T3.out.trans T'⟩⟩
  have hbx := T'.keep B3.out (by decide)
  have q := cell_blk hbx 3 _ rfl
  have f := frozen_at hbx 3
  obtain ⟨w4, hw, hbx2, hkp, hbl, hot⟩ := own_store hbx (by decide) 3 (.string x4)
  have hbx3 : w4.heap[w.heap.size]? = some (.cells #[.string x1, .string x2, .int .i64 x3, .string x4, .string ⟨#[]⟩, .bool false] 147 (0, 0)) := hbx2
  have hbl' := hbl w.heap.size (Nat.le_refl _)
  have S4 := Lib.hid (S'.keeps hkp (hbl'.mono HSZ.out))
  have T4 := Lib.hid ((T3.out.trans T').then hbl')
  have B4 := Lib.hid hbx3
  have HD4 := Lib.hid hd
  have HV := Lib.hid hw
  clear hd hw hbx hbx2 hbx3 hkp hbl hbl' hot S' T' S3 T3 B3
  go_wp2_with fail
  first | rw [HV.out] | (erw [HV.out])
  clear HV q f
  refine (rr_text S4.out).mono ?_
  rintro e y5 (⟨x5, l5, u, hd, rfl, rfl, S', T'⟩ | ⟨hd, rfl, hbe, T'⟩)
  rotate_left
  · exact ⟨rfl, .inr ⟨by simp only [dGrant, dPair, HD1.out, HD2.out, HD3.out, HD4.out, hd, Option.bind_some, Option.map_some, Option.bind_none, Option.map_none], rfl, hbe, T4.out.trans T'⟩⟩
  have hbx := T'.keep B4.out (by decide)
  have q := cell_blk hbx 4 _ rfl
  have f := frozen_at hbx 4
  obtain ⟨w5, hw, hbx2, hkp, hbl, hot⟩ := own_store hbx (by decide) 4 (.string x5)
  have hbx3 : w5.heap[w.heap.size]? = some (.cells #[.string x1, .string x2, .int .i64 x3, .string x4, .string x5, .bool false] 147 (0, 0)) := hbx2
  have hbl' := hbl w.heap.size (Nat.le_refl _)
  have S5 := Lib.hid (S'.keeps hkp (hbl'.mono HSZ.out))
  have T5 := Lib.hid ((T4.out.trans T').then hbl')
  have B5 := Lib.hid hbx3
  have HD5 := Lib.hid hd
  have HV := Lib.hid hw
  clear hd hw hbx hbx2 hbx3 hkp hbl hbl' hot S' T' S4 T4 B4
  go_wp2_with fail
  first | rw [HV.out] | (erw [HV.out])
  clear HV q f
  refine (rr_flag S5.out).mono ?_
  rintro e y6 (⟨x6, l6, u, hd, rfl, rfl, S', T'⟩ | ⟨hd, rfl, hbe, T'⟩)
  rotate_left
  · exact ⟨rfl, .inr ⟨by simp only [dGrant, dPair, HD1.out, HD2.out, HD3.out, HD4.out, HD5.out, hd, Option.bind_some, Option.map_some, Option.bind_none, Option.map_none], rfl, hbe, T5.out.trans T'⟩⟩
  have hbx := T'.keep B5.out (by decide)
  have q := cell_blk hbx 5 _ rfl
  have f := frozen_at hbx 5
  obtain ⟨w6, hw, hbx2, hkp, hbl, hot⟩ := own_store hbx (by decide) 5 (.bool x6)
  have hbx3 : w6.heap[w.heap.size]? = some (.cells #[.string x1, .string x2, .int .i64 x3, .string x4, .string x5, .bool x6] 147 (0, 0)) := hbx2
  have hbl' := hbl w.heap.size (Nat.le_refl _)
  have S6 := Lib.hid (S'.keeps hkp (hbl'.mono HSZ.out))
  have T6 := Lib.hid ((T5.out.trans T').then hbl')
  have B6 := Lib.hid hbx3
  have HD6 := Lib.hid hd
  have HV := Lib.hid hw
  clear hd hw hbx hbx2 hbx3 hkp hbl hbl' hot S' T' S5 T5 B5
  have HM := Lib.hid (mkMGrant (w := w6) (base := w.heap.size) (ok := fun _ => True) (x1, x2, x3, x4, x5, x6) )
  obtain ⟨WF, hWF, hbF, hkF, hblF, hotF⟩ := own_stores [] [.string x1, .string x2, .int .i64 x3, .string x4, .string x5, .bool x6] [.string x1, .string x2, .int .i64 x3, .string x4, .string x5, .bool x6] [] B6.out (by decide) rfl
  have HF := Lib.hid hWF
  have BF := Lib.hid hbF
  have KF := Lib.hid hkF
  have LF := Lib.hid (hblF w.heap.size (Nat.le_refl _))
  have OF := Lib.hid hotF
  clear hWF hbF hkF hblF hotF
  go_wp2_with (first | ((with_reducible refine gate_load (t := 147) rfl ?_); (first | rw [HV.out] | skip); refine wpList_load_mid rfl 147 _ rfl w.heap.size 0 rfl [.string x1, .string x2, .int .i64 x3, .string x4, .string x5, .bool x6] _ (range_blk [] [.string x1, .string x2, .int .i64 x3, .string x4, .string x5, .bool x6] [] B6.out) Tryz.underlying147 rfl (by kernel_rfl) ?_) | ((with_reducible refine gate_store (t := 147) rfl ?_); refine wpList_store_mid rfl 147 _ _ rfl w.heap.size 0 #[.string x1, .string x2, .int .i64 x3, .string x4, .string x5, .bool x6] rfl rfl (there_blk [] [.string x1, .string x2, .int .i64 x3, .string x4, .string x5, .bool x6] [] B6.out) (by kernel_rfl) (all_oneCell_toArray (kGrant.K_one (kGrant.K_of_M HM.out))) ?_))
  first | rw [HF.out] | (erw [HF.out])
  refine bodyPost_ret (v := .agg #[.string x1, .string x2, .int .i64 x3, .string x4, .string x5, .bool x6]) (results_cell_row rfl _ _ w.heap.size 147 #[.string x1, .string x2, .int .i64 x3, .string x4, .string x5, .bool x6] (0, 0) _ rfl BF.out Tryz.underlying147 rfl (by kernel_rfl)) rfl ?_
  exact .inl ⟨(x1, x2, x3, x4, x5, x6), l6, _, by simp only [dGrant, dPair, HD1.out, HD2.out, HD3.out, HD4.out, HD5.out, HD6.out, Option.bind_some, Option.map_some, Option.bind_none, Option.map_none], rfl, ⟨_, mkMGrant (x1, x2, x3, x4, x5, x6) , rfl⟩, S6.out.keeps KF.out (LF.out.mono HSZ.out), T6.out.then LF.out⟩
theorem info_Grant : (Tryz.prog.info? 147).map (fun i => (i.zero, i.size, i.bytes)) = some (some (.agg #[.string ⟨#[]⟩, .string ⟨#[]⟩, .int .i64 0, .string ⟨#[]⟩, .string ⟨#[]⟩, .bool false]), 6, 80) := by kernel_rfl
set_option maxRecDepth 100000 in
set_option maxHeartbeats 16000000 in
theorem rr_few_Grant {w0 w : World} {g : Nat} {B l : Bs} (hS : RAt w0 w g B l) :
    Calls Tryz.prog 52 #[.pointer (some ⟨g, 0, none⟩), .func (.func 53) #[] #[]] w (RDone (dList dGrant) (fun xs v w' => kGrant.R 147 w' w.heap.size (fun _ => True) v xs) w0 g w B l) := by
  have hIB : IsB l := by
    obtain ⟨p, hp⟩ := hS.suf
    have := hS.isB
    rw [hp] at this
    exact this.right
  have HSZ := Lib.hid hS.below.size
  have C1 := Lib.hid (rr_number hS)
  have HS := Lib.hid hS
  have HIB := Lib.hid hIB
  clear hS hIB
  go_enter Tryz.func52, Tryz.ntmps52
  go_wp2_with fail
  refine C1.out.mono ?_
  rintro e w1 (⟨n, l1, v, hd, rfl, rfl, S1', T1'⟩ | ⟨hd, rfl, hbe, T1'⟩)
  rotate_left
  · exact ⟨rfl, .inr ⟨by simp only [dList, hd, Option.bind_none], rfl, hbe, T1'⟩⟩
  obtain ⟨hn0, hn1⟩ := dNum_range HIB.out hd
  obtain ⟨m, rfl⟩ := Int.eq_ofNat_of_zero_le hn0
  have S1 := Lib.hid S1'
  have T1 := Lib.hid T1'
  have HD := Lib.hid hd
  clear S1' T1' hd C1 HIB
  by_cases h4 : 4096 < (m : Int)
  · have hdec : decide ((m : Int) ≤ 4096) = false := decide_eq_false (by omega)
    go_wp2_with fail
    refine (is_false _).mono ?_
    rintro e w2 ⟨rfl, rfl⟩
    exact ⟨rfl, .inr ⟨by simp only [dList, HD.out, Option.bind_some]; exact if_pos h4, rfl, S1.out.below, T1.out⟩⟩
  · have hdec : decide ((m : Int) ≤ 4096) = true := decide_eq_true (by omega)
    have hm4 : m ≤ 4096 := by omega
    have HL := Lib.hid (show dList dGrant l = dTimes dGrant m l1 by simp only [dList, HD.out, Option.bind_some, Int.toNat_natCast]; exact if_neg h4)
    clear h4
    go_wp2_with fail
    refine (is_true _).mono ?_
    rintro e w2 ⟨rfl, rfl⟩
    clear hdec
    go_wp2_with fail
    go_loopw [6, 13] (fun v i wr => ∃ k : Nat, k ≤ m ∧ i = .int .i64 k ∧ ∃ xs lr, dTimes dGrant k l1 = some (xs, lr) ∧ xs.length = k ∧ kGrant.R 147 wr w.heap.size (fun _ => True) v xs ∧ RAt w0 wr g B lr ∧ Stp SR w wr) (fun _ i _ => m - (intOf i).toNat)
    case atStart => exact ⟨0, Nat.zero_le _, rfl, [], l1, rfl, rfl, Kd.R_nil _ _ _ _ _, S1.out, T1.out⟩
    case round =>
      obtain ⟨k, hk, rfl, xs, lr, hdt, hxl, hR, hS, hT⟩ := hrel
      obtain ⟨A, c, hv, _, _⟩ := Kd.R_reads hR
      subst hv
      have HT := Lib.hid hdt
      have HX := Lib.hid hxl
      have HR := Lib.hid hR
      have SR_ := Lib.hid hS
      have TR := Lib.hid hT
      clear hdt hxl hR hS hT S1 T1
      by_cases hlt : k < m
      · have hlt' : (k : Int) < (m : Int) := by omega
        go_wp2_with fail
        refine (rr_grant SR_.out).mono ?_
        rintro e w3 (⟨x, l2, u, hd, rfl, ⟨cs, hM, rfl⟩, S3', T3'⟩ | ⟨hd, rfl, hbe, T3'⟩)
        rotate_left
        · exact ⟨rfl, .inr ⟨by rw [HL.out]; exact times_none _ HT.out hd hlt, rfl, hbe, TR.out.trans T3'⟩⟩
        have hlen : xs.length ≤ 4096 := by rw [HX.out]; omega
        have hO := T3'.R HR.out (by decide)
        have hE := elem_ok hM (fun k hk => Kd.R_lt HR.out k hk) TR.out.size (v := Value.slice A xs.length c)
        obtain rfl := openMGrant hM
        have HO := Lib.hid hO
        have HE := Lib.hid hE
        have S3 := Lib.hid S3'
        have T3 := Lib.hid (TR.out.trans T3')
        have HD3 := Lib.hid hd
        clear hO hE S3' T3' hd TR HR SR_ hM
        go_wp2_with (((with_reducible refine gate_builtin (b := .append) (xs := #[.tmp 15, .tmp 19]) rfl ?_); at_builtin; refine Kd.R_append kGrant (w0 := w3) w.heap.size rfl (.tmp 15) (.tmp 19) 32 147 (.agg #[.string ⟨#[]⟩, .string ⟨#[]⟩, .int .i64 0, .string ⟨#[]⟩, .string ⟨#[]⟩, .bool false]) 80 rfl Tryz.underlying32 info_Grant rfl (by decide) (by decide) (.slice A xs.length c) xs x [.string x.1, .string x.2.1, .int .i64 x.2.2.1, .string x.2.2.2.1, .string x.2.2.2.2.1, .bool x.2.2.2.2.2] (fun _ => True) (fun k => True ∧ some k ≠ (Value.slice A xs.length c).ownBlock) rfl rfl HE.out (fun _ h => h) (fun _ _ => trivial) HO.out (Below.refl _ _) (Nat.le_trans T3.out.size (Nat.le_refl _)) (by omega) ?_; intro v1 w4 ho hb hg hat; have HO4 := Lib.hid ho; have HB4 := Lib.hid hb; have HG4 := Lib.hid hg; clear ho hb hg hat))
        have hs4 : dTimes dGrant (k + 1) l1 = some (xs ++ [x], l2) := by rw [dTimes_snoc, HT.out]; simp only [Option.bind_some, HD3.out, Option.map_some]
        have HS4 := Lib.hid hs4
        have S4 := Lib.hid (S3.out.keeps (Keeps.row HO.out HG4.out (by decide)) (HB4.out.mono (Nat.le_trans HSZ.out (Nat.le_refl _))))
        have T4 := Lib.hid (T3.out.then HB4.out)
        have HX4 := Lib.hid (show (xs ++ [x]).length = k + 1 by rw [List.length_append, HX.out]; rfl)
        clear hs4
        go_wp2
        go_roundw
        case rel => exact ⟨k + 1, by omega, by simp, _, _, HS4.out, HX4.out, HO4.out, S4.out, T4.out⟩
        case measure => simp [intOf]; omega
      · have hke : k = m := by omega
        have HK := Lib.hid hke
        clear hke
        go_wp2
        go_ret
        have ht := HT.out
        rw [HK.out] at ht
        exact .inl ⟨xs, lr, _, by rw [HL.out, ht], rfl, HR.out, SR_.out, TR.out⟩
set_option maxRecDepth 100000 in
set_option maxHeartbeats 16000000 in
theorem rr_catalog {w0 w : World} {g : Nat} {B l0 : Bs} (hS : RAt w0 w g B l0) :
    Calls Tryz.prog 25 #[.pointer (some ⟨g, 0, none⟩)] w (RDone dCatalog (fun x v w' => ∃ cs, kCatalog.M w' w.heap.size (fun _ => True) x cs ∧ v = .agg cs.toArray) w0 g w B l0) := by
  have hb0 : Below w.heap.size w (w.alloc (.cells #[.int .i64 0, .int .i64 0, .slice none 0 0, .slice none 0 0, .slice none 0 0, .slice none 0 0, .slice none 0 0] 34)) := (Below.refl _ _).alloc (Nat.le_refl _) _
  have hx0 := blk_new w (.cells #[.int .i64 0, .int .i64 0, .slice none 0 0, .slice none 0 0, .slice none 0 0, .slice none 0 0, .slice none 0 0] 34)
  obtain ⟨W0, hW0⟩ : ∃ W0, w.alloc (.cells #[.int .i64 0, .int .i64 0, .slice none 0 0, .slice none 0 0, .slice none 0 0, .slice none 0 0, .slice none 0 0] 34) = W0 := ⟨_, rfl⟩
  rw [hW0] at hb0 hx0
  have HSZ := Lib.hid hS.below.size
  have S0 := Lib.hid (hS.keeps (Keeps.below hb0) (hb0.mono hS.below.size))
  have B0 := Lib.hid hx0
  have T0 := Lib.hid (Stp.below (S := SR) hb0)
  have HW := Lib.hid hW0
  clear hb0 hx0 hW0 hS
  go_enter Tryz.func25, Tryz.ntmps25
  go_wp2_with fail
  rw [HW.out]
  clear HW
  refine (rr_number S0.out).mono ?_
  rintro e y1 (⟨x1, l1, u, hd, rfl, rfl, S', T'⟩ | ⟨hd, rfl, hbe, T'⟩)
  rotate_left
  · exact ⟨rfl, .inr ⟨by simp only [dCatalog, dObjects, dRoles, dPair, hd, Option.bind_some, Option.map_some, Option.bind_none, Option.map_none], rfl, hbe, T0.out.trans T'⟩⟩
  have hbx := T'.keep B0.out (by decide)
  have q := cell_blk hbx 0 _ rfl
  have f := frozen_at hbx 0
  obtain ⟨w1, hw, hbx2, hkp, hbl, hot⟩ := own_store hbx (by decide) 0 (.int .i64 x1)
  have hbx3 : w1.heap[w.heap.size]? = some (.cells #[.int .i64 x1, .int .i64 0, .slice none 0 0, .slice none 0 0, .slice none 0 0, .slice none 0 0, .slice none 0 0] 34 (0, 0)) := hbx2
  have hbl' := hbl w.heap.size (Nat.le_refl _)
  have S1 := Lib.hid (S'.keeps hkp (hbl'.mono HSZ.out))
  have T1 := Lib.hid ((T0.out.trans T').then hbl')
  have B1 := Lib.hid hbx3
  have HD1 := Lib.hid hd
  have HV := Lib.hid hw
  clear hd hw hbx hbx2 hbx3 hkp hbl hbl' hot S' T' S0 T0 B0
  go_wp2_with fail
  first | rw [HV.out] | (erw [HV.out])
  clear HV q f
  refine (rr_number S1.out).mono ?_
  rintro e y2 (⟨x2, l2, u, hd, rfl, rfl, S', T'⟩ | ⟨hd, rfl, hbe, T'⟩)
  rotate_left
  · exact ⟨rfl, .inr ⟨by simp only [dCatalog, dObjects, dRoles, dPair, HD1.out, hd, Option.bind_some, Option.map_some, Option.bind_none, Option.map_none], rfl, hbe, T1.out.trans T'⟩⟩
  have hbx := T'.keep B1.out (by decide)
  have q := cell_blk hbx 1 _ rfl
  have f := frozen_at hbx 1
  obtain ⟨w2, hw, hbx2, hkp, hbl, hot⟩ := own_store hbx (by decide) 1 (.int .i64 x2)
  have hbx3 : w2.heap[w.heap.size]? = some (.cells #[.int .i64 x1, .int .i64 x2, .slice none 0 0, .slice none 0 0, .slice none 0 0, .slice none 0 0, .slice none 0 0] 34 (0, 0)) := hbx2
  have hbl' := hbl w.heap.size (Nat.le_refl _)
  have S2 := Lib.hid (S'.keeps hkp (hbl'.mono HSZ.out))
  have T2 := Lib.hid ((T1.out.trans T').then hbl')
  have B2 := Lib.hid hbx3
  have HD2 := Lib.hid hd
  have HV := Lib.hid hw
  clear hd hw hbx hbx2 hbx3 hkp hbl hbl' hot S' T' S1 T1 B1
  go_wp2_with fail
  first | rw [HV.out] | (erw [HV.out])
  clear HV q f
  refine (rr_few_Schema S2.out).mono ?_
  rintro e y3 (⟨x3, l3, u, hd, rfl, hR, S', T'⟩ | ⟨hd, rfl, hbe, T'⟩)
  rotate_left
  · exact ⟨rfl, .inr ⟨by simp only [dCatalog, dObjects, dRoles, dPair, HD1.out, HD2.out, hd, Option.bind_some, Option.map_some, Option.bind_none, Option.map_none], rfl, hbe, T2.out.trans T'⟩⟩
  have hbx := T'.keep B2.out (by decide)
  obtain ⟨A2, c2, hu, _, _⟩ := Kd.R_reads hR
  subst hu
  have R2' := Kd.R_lower hR T2.out.size
  clear hR
  have q := cell_blk hbx 2 _ rfl
  have f := frozen_at hbx 2
  obtain ⟨w3, hw, hbx2, hkp, hbl, hot⟩ := own_store hbx (by decide) 2 (.slice A2 x3.length c2)
  have hbx3 : w3.heap[w.heap.size]? = some (.cells #[.int .i64 x1, .int .i64 x2, .slice A2 x3.length c2, .slice none 0 0, .slice none 0 0, .slice none 0 0, .slice none 0 0] 34 (0, 0)) := hbx2
  have hbl' := hbl w.heap.size (Nat.le_refl _)
  have S3 := Lib.hid (S'.keeps hkp (hbl'.mono HSZ.out))
  have T3 := Lib.hid ((T2.out.trans T').then hbl')
  have B3 := Lib.hid hbx3
  have R2'' := made_only R2' hbx (by decide) hot
  have R2 := Lib.hid R2''
  clear R2' R2''
  have HD3 := Lib.hid hd
  have HV := Lib.hid hw
  clear hd hw hbx hbx2 hbx3 hkp hbl hbl' hot S' T' S2 T2 B2
  go_wp2_with fail
  first | rw [HV.out] | (erw [HV.out])
  clear HV q f
  refine (rr_few_Table S3.out).mono ?_
  rintro e y4 (⟨x4, l4, u, hd, rfl, hR, S', T'⟩ | ⟨hd, rfl, hbe, T'⟩)
  rotate_left
  · exact ⟨rfl, .inr ⟨by simp only [dCatalog, dObjects, dRoles, dPair, HD1.out, HD2.out, HD3.out, hd, Option.bind_some, Option.map_some, Option.bind_none, Option.map_none], rfl, hbe, T3.out.trans T'⟩⟩
  have hbx := T'.keep B3.out (by decide)
  have R2' := T'.R R2.out (by decide)
  obtain ⟨A3, c3, hu, _, _⟩ := Kd.R_reads hR
  subst hu
  have R3' := Kd.R_lower hR T3.out.size
  clear hR
  have q := cell_blk hbx 3 _ rfl
  have f := frozen_at hbx 3
  obtain ⟨w4, hw, hbx2, hkp, hbl, hot⟩ := own_store hbx (by decide) 3 (.slice A3 x4.length c3)
  have hbx3 : w4.heap[w.heap.size]? = some (.cells #[.int .i64 x1, .int .i64 x2, .slice A2 x3.length c2, .slice A3 x4.length c3, .slice none 0 0, .slice none 0 0, .slice none 0 0] 34 (0, 0)) := hbx2
  have hbl' := hbl w.heap.size (Nat.le_refl _)
  have S4 := Lib.hid (S'.keeps hkp (hbl'.mono HSZ.out))
  have T4 := Lib.hid ((T3.out.trans T').then hbl')
  have B4 := Lib.hid hbx3
  have R2'' := made_only R2' hbx (by decide) hot
  have R3'' := made_only R3' hbx (by decide) hot
  clear R2
  have R2 := Lib.hid R2''
  clear R2' R2''
  have R3 := Lib.hid R3''
  clear R3' R3''
  have HD4 := Lib.hid hd
  have HV := Lib.hid hw
  clear hd hw hbx hbx2 hbx3 hkp hbl hbl' hot S' T' S3 T3 B3
  go_wp2_with fail
  first | rw [HV.out] | (erw [HV.out])
  clear HV q f
  refine (rr_few_text S4.out).mono ?_
  rintro e y5 (⟨x5, l5, u, hd, rfl, hR, S', T'⟩ | ⟨hd, rfl, hbe, T'⟩)
  rotate_left
  · exact ⟨rfl, .inr ⟨by simp only [dCatalog, dObjects, dRoles, dPair, HD1.out, HD2.out, HD3.out, HD4.out, hd, Option.bind_some, Option.map_some, Option.bind_none, Option.map_none], rfl, hbe, T4.out.trans T'⟩⟩
  have hbx := T'.keep B4.out (by decide)
  have R2' := T'.R R2.out (by decide)
  have R3' := T'.R R3.out (by decide)
  obtain ⟨A4, c4, hu, _, _⟩ := Kd.R_reads hR
  subst hu
  have R4' := Kd.R_lower hR T4.out.size
  clear hR
  have q := cell_blk hbx 4 _ rfl
  have f := frozen_at hbx 4
  obtain ⟨w5, hw, hbx2, hkp, hbl, hot⟩ := own_store hbx (by decide) 4 (.slice A4 x5.length c4)
  have hbx3 : w5.heap[w.heap.size]? = some (.cells #[.int .i64 x1, .int .i64 x2, .slice A2 x3.length c2, .slice A3 x4.length c3, .slice A4 x5.length c4, .slice none 0 0, .slice none 0 0] 34 (0, 0)) := hbx2
  have hbl' := hbl w.heap.size (Nat.le_refl _)
  have S5 := Lib.hid (S'.keeps hkp (hbl'.mono HSZ.out))
  have T5 := Lib.hid ((T4.out.trans T').then hbl')
  have B5 := Lib.hid hbx3
  have R2'' := made_only R2' hbx (by decide) hot
  have R3'' := made_only R3' hbx (by decide) hot
  have R4'' := made_only R4' hbx (by decide) hot
  clear R2 R3
  have R2 := Lib.hid R2''
  clear R2' R2''
  have R3 := Lib.hid R3''
  clear R3' R3''
  have R4 := Lib.hid R4''
  clear R4' R4''
  have HD5 := Lib.hid hd
  have HV := Lib.hid hw
  clear hd hw hbx hbx2 hbx3 hkp hbl hbl' hot S' T' S4 T4 B4
  go_wp2_with fail
  first | rw [HV.out] | (erw [HV.out])
  clear HV q f
  refine (rr_few_Member S5.out).mono ?_
  rintro e y6 (⟨x6, l6, u, hd, rfl, hR, S', T'⟩ | ⟨hd, rfl, hbe, T'⟩)
  rotate_left
  · exact ⟨rfl, .inr ⟨by simp only [dCatalog, dObjects, dRoles, dPair, HD1.out, HD2.out, HD3.out, HD4.out, HD5.out, hd, Option.bind_some, Option.map_some, Option.bind_none, Option.map_none], rfl, hbe, T5.out.trans T'⟩⟩
  have hbx := T'.keep B5.out (by decide)
  have R2' := T'.R R2.out (by decide)
  have R3' := T'.R R3.out (by decide)
  have R4' := T'.R R4.out (by decide)
  obtain ⟨A5, c5, hu, _, _⟩ := Kd.R_reads hR
  subst hu
  have R5' := Kd.R_lower hR T5.out.size
  clear hR
  have q := cell_blk hbx 5 _ rfl
  have f := frozen_at hbx 5
  obtain ⟨w6, hw, hbx2, hkp, hbl, hot⟩ := own_store hbx (by decide) 5 (.slice A5 x6.length c5)
  have hbx3 : w6.heap[w.heap.size]? = some (.cells #[.int .i64 x1, .int .i64 x2, .slice A2 x3.length c2, .slice A3 x4.length c3, .slice A4 x5.length c4, .slice A5 x6.length c5, .slice none 0 0] 34 (0, 0)) := hbx2
  have hbl' := hbl w.heap.size (Nat.le_refl _)
  have S6 := Lib.hid (S'.keeps hkp (hbl'.mono HSZ.out))
  have T6 := Lib.hid ((T5.out.trans T').then hbl')
  have B6 := Lib.hid hbx3
  have R2'' := made_only R2' hbx (by decide) hot
  have R3'' := made_only R3' hbx (by decide) hot
  have R4'' := made_only R4' hbx (by decide) hot
  have R5'' := made_only R5' hbx (by decide) hot
  clear R2 R3 R4
  have R2 := Lib.hid R2''
  clear R2' R2''
  have R3 := Lib.hid R3''
  clear R3' R3''
  have R4 := Lib.hid R4''
  clear R4' R4''
  have R5 := Lib.hid R5''
  clear R5' R5''
  have HD6 := Lib.hid hd
  have HV := Lib.hid hw
  clear hd hw hbx hbx2 hbx3 hkp hbl hbl' hot S' T' S5 T5 B5
  go_wp2_with fail
  first | rw [HV.out] | (erw [HV.out])
  clear HV q f
  refine (rr_few_Grant S6.out).mono ?_
  rintro e y7 (⟨x7, l7, u, hd, rfl, hR, S', T'⟩ | ⟨hd, rfl, hbe, T'⟩)
  rotate_left
  · exact ⟨rfl, .inr ⟨by simp only [dCatalog, dObjects, dRoles, dPair, HD1.out, HD2.out, HD3.out, HD4.out, HD5.out, HD6.out, hd, Option.bind_some, Option.map_some, Option.bind_none, Option.map_none], rfl, hbe, T6.out.trans T'⟩⟩
  have hbx := T'.keep B6.out (by decide)
  have R2' := T'.R R2.out (by decide)
  have R3' := T'.R R3.out (by decide)
  have R4' := T'.R R4.out (by decide)
  have R5' := T'.R R5.out (by decide)
  obtain ⟨A6, c6, hu, _, _⟩ := Kd.R_reads hR
  subst hu
  have R6' := Kd.R_lower hR T6.out.size
  clear hR
  have q := cell_blk hbx 6 _ rfl
  have f := frozen_at hbx 6
  obtain ⟨w7, hw, hbx2, hkp, hbl, hot⟩ := own_store hbx (by decide) 6 (.slice A6 x7.length c6)
  have hbx3 : w7.heap[w.heap.size]? = some (.cells #[.int .i64 x1, .int .i64 x2, .slice A2 x3.length c2, .slice A3 x4.length c3, .slice A4 x5.length c4, .slice A5 x6.length c5, .slice A6 x7.length c6] 34 (0, 0)) := hbx2
  have hbl' := hbl w.heap.size (Nat.le_refl _)
  have S7 := Lib.hid (S'.keeps hkp (hbl'.mono HSZ.out))
  have T7 := Lib.hid ((T6.out.trans T').then hbl')
  have B7 := Lib.hid hbx3
  have R2'' := made_only R2' hbx (by decide) hot
  have R3'' := made_only R3' hbx (by decide) hot
  have R4'' := made_only R4' hbx (by decide) hot
  have R5'' := made_only R5' hbx (by decide) hot
  have R6'' := made_only R6' hbx (by decide) hot
  clear R2 R3 R4 R5
  have R2 := Lib.hid R2''
  clear R2' R2''
  have R3 := Lib.hid R3''
  clear R3' R3''
  have R4 := Lib.hid R4''
  clear R4' R4''
  have R5 := Lib.hid R5''
  clear R5' R5''
  have R6 := Lib.hid R6''
  clear R6' R6''
  have HD7 := Lib.hid hd
  have HV := Lib.hid hw
  clear hd hw hbx hbx2 hbx3 hkp hbl hbl' hot S' T' S6 T6 B6
  have HM := Lib.hid (mkMCatalog (w := w7) (base := w.heap.size) (ok := fun _ => True) (x1, x2, (x3, x4), (x5, x6), x7) R2.out R3.out R4.out R5.out R6.out)
  obtain ⟨WF, hWF, hbF, hkF, hblF, hotF⟩ := own_stores [] [.int .i64 x1, .int .i64 x2, .slice A2 x3.length c2, .slice A3 x4.length c3, .slice A4 x5.length c4, .slice A5 x6.length c5, .slice A6 x7.length c6] [.int .i64 x1, .int .i64 x2, .slice A2 x3.length c2, .slice A3 x4.length c3, .slice A4 x5.length c4, .slice A5 x6.length c5, .slice A6 x7.length c6] [] B7.out (by decide) rfl
  have HF := Lib.hid hWF
  have BF := Lib.hid hbF
  have KF := Lib.hid hkF
  have LF := Lib.hid (hblF w.heap.size (Nat.le_refl _))
  have OF := Lib.hid hotF
  clear hWF hbF hkF hblF hotF
  go_wp2_with (first | ((with_reducible refine gate_load (t := 34) rfl ?_); (first | rw [HV.out] | skip); refine wpList_load_mid rfl 34 _ rfl w.heap.size 0 rfl [.int .i64 x1, .int .i64 x2, .slice A2 x3.length c2, .slice A3 x4.length c3, .slice A4 x5.length c4, .slice A5 x6.length c5, .slice A6 x7.length c6] _ (range_blk [] [.int .i64 x1, .int .i64 x2, .slice A2 x3.length c2, .slice A3 x4.length c3, .slice A4 x5.length c4, .slice A5 x6.length c5, .slice A6 x7.length c6] [] B7.out) Tryz.underlying34 rfl (by kernel_rfl) ?_) | ((with_reducible refine gate_store (t := 34) rfl ?_); refine wpList_store_mid rfl 34 _ _ rfl w.heap.size 0 #[.int .i64 x1, .int .i64 x2, .slice A2 x3.length c2, .slice A3 x4.length c3, .slice A4 x5.length c4, .slice A5 x6.length c5, .slice A6 x7.length c6] rfl rfl (there_blk [] [.int .i64 x1, .int .i64 x2, .slice A2 x3.length c2, .slice A3 x4.length c3, .slice A4 x5.length c4, .slice A5 x6.length c5, .slice A6 x7.length c6] [] B7.out) (by kernel_rfl) (all_oneCell_toArray (kCatalog.K_one (kCatalog.K_of_M HM.out))) ?_))
  first | rw [HF.out] | (erw [HF.out])
  refine bodyPost_ret (v := .agg #[.int .i64 x1, .int .i64 x2, .slice A2 x3.length c2, .slice A3 x4.length c3, .slice A4 x5.length c4, .slice A5 x6.length c5, .slice A6 x7.length c6]) (results_cell_row rfl _ _ w.heap.size 34 #[.int .i64 x1, .int .i64 x2, .slice A2 x3.length c2, .slice A3 x4.length c3, .slice A4 x5.length c4, .slice A5 x6.length c5, .slice A6 x7.length c6] (0, 0) _ rfl BF.out Tryz.underlying34 rfl (by kernel_rfl)) rfl ?_
  exact .inl ⟨(x1, x2, (x3, x4), (x5, x6), x7), l7, _, by simp only [dCatalog, dObjects, dRoles, dPair, HD1.out, HD2.out, HD3.out, HD4.out, HD5.out, HD6.out, HD7.out, Option.bind_some, Option.map_some, Option.bind_none, Option.map_none], rfl, ⟨_, mkMCatalog (x1, x2, (x3, x4), (x5, x6), x7) (made_only R2.out B7.out (by decide) OF.out) (made_only R3.out B7.out (by decide) OF.out) (made_only R4.out B7.out (by decide) OF.out) (made_only R5.out B7.out (by decide) OF.out) (made_only R6.out B7.out (by decide) OF.out), rfl⟩, S7.out.keeps KF.out (LF.out.mono HSZ.out), T7.out.then LF.out⟩
end Go.Proofs.YtoomcdgnnibjlaaGreat.Wr
/- The program's reader. -/
namespace Go.Proofs.YtoomcdgnnibjlaaGreat.Wr
open Go.RowKit Go.Proofs.YtoomcdgnnibjlaaGreatW.PrintWords Go.Proofs.YtoomcdgnnibjlaaGreatW.PrintLast
set_option linter.unusedVariables false
set_option linter.unusedSimpArgs false

set_option maxRecDepth 100000 in
set_option maxHeartbeats 16000000 in
theorem rr_done {w0 w : World} {g : Nat} {B l0 : Bs} (hS : RAt w0 w g B l0) :
    Calls Tryz.prog 27 #[.pointer (some ⟨g, 0, none⟩)] w (RDone dDone (fun x v w' => ∃ cs, kDone.M w' w.heap.size (fun _ => True) x cs ∧ v = .agg cs.toArray) w0 g w B l0) := by
  have hb0 : Below w.heap.size w (w.alloc (.cells #[.int .i64 0, .int .i64 0, .int .i64 0, .int .i64 0, .int .i64 0] 96)) := (Below.refl _ _).alloc (Nat.le_refl _) _
  have hx0 := blk_new w (.cells #[.int .i64 0, .int .i64 0, .int .i64 0, .int .i64 0, .int .i64 0] 96)
  obtain ⟨W0, hW0⟩ : ∃ W0, w.alloc (.cells #[.int .i64 0, .int .i64 0, .int .i64 0, .int .i64 0, .int .i64 0] 96) = W0 := ⟨_, rfl⟩
  rw [hW0] at hb0 hx0
  have HSZ := Lib.hid hS.below.size
  have S0 := Lib.hid (hS.keeps (Keeps.below hb0) (hb0.mono hS.below.size))
  have B0 := Lib.hid hx0
  have T0 := Lib.hid (Stp.below (S := SR) hb0)
  have HW := Lib.hid hW0
  clear hb0 hx0 hW0 hS
  go_enter Tryz.func27, Tryz.ntmps27
  go_wp2_with fail
  rw [HW.out]
  clear HW
  refine (rr_number S0.out).mono ?_
  rintro e y1 (⟨x1, l1, u, hd, rfl, rfl, S', T'⟩ | ⟨hd, rfl, hbe, T'⟩)
  rotate_left
  · exact ⟨rfl, .inr ⟨by simp only [dDone, dPair, hd, Option.bind_some, Option.map_some, Option.bind_none, Option.map_none], rfl, hbe, T0.out.trans T'⟩⟩
  have hbx := T'.keep B0.out (by decide)
  have q := cell_blk hbx 0 _ rfl
  have f := frozen_at hbx 0
  obtain ⟨w1, hw, hbx2, hkp, hbl, hot⟩ := own_store hbx (by decide) 0 (.int .i64 x1)
  have hbx3 : w1.heap[w.heap.size]? = some (.cells #[.int .i64 x1, .int .i64 0, .int .i64 0, .int .i64 0, .int .i64 0] 96 (0, 0)) := hbx2
  have hbl' := hbl w.heap.size (Nat.le_refl _)
  have S1 := Lib.hid (S'.keeps hkp (hbl'.mono HSZ.out))
  have T1 := Lib.hid ((T0.out.trans T').then hbl')
  have B1 := Lib.hid hbx3
  have HD1 := Lib.hid hd
  have HV := Lib.hid hw
  clear hd hw hbx hbx2 hbx3 hkp hbl hbl' hot S' T' S0 T0 B0
  go_wp2_with fail
  first | rw [HV.out] | (erw [HV.out])
  clear HV q f
  refine (rr_number S1.out).mono ?_
  rintro e y2 (⟨x2, l2, u, hd, rfl, rfl, S', T'⟩ | ⟨hd, rfl, hbe, T'⟩)
  rotate_left
  · exact ⟨rfl, .inr ⟨by simp only [dDone, dPair, HD1.out, hd, Option.bind_some, Option.map_some, Option.bind_none, Option.map_none], rfl, hbe, T1.out.trans T'⟩⟩
  have hbx := T'.keep B1.out (by decide)
  have q := cell_blk hbx 1 _ rfl
  have f := frozen_at hbx 1
  obtain ⟨w2, hw, hbx2, hkp, hbl, hot⟩ := own_store hbx (by decide) 1 (.int .i64 x2)
  have hbx3 : w2.heap[w.heap.size]? = some (.cells #[.int .i64 x1, .int .i64 x2, .int .i64 0, .int .i64 0, .int .i64 0] 96 (0, 0)) := hbx2
  have hbl' := hbl w.heap.size (Nat.le_refl _)
  have S2 := Lib.hid (S'.keeps hkp (hbl'.mono HSZ.out))
  have T2 := Lib.hid ((T1.out.trans T').then hbl')
  have B2 := Lib.hid hbx3
  have HD2 := Lib.hid hd
  have HV := Lib.hid hw
  clear hd hw hbx hbx2 hbx3 hkp hbl hbl' hot S' T' S1 T1 B1
  go_wp2_with fail
  first | rw [HV.out] | (erw [HV.out])
  clear HV q f
  refine (rr_number S2.out).mono ?_
  rintro e y3 (⟨x3, l3, u, hd, rfl, rfl, S', T'⟩ | ⟨hd, rfl, hbe, T'⟩)
  rotate_left
  · exact ⟨rfl, .inr ⟨by simp only [dDone, dPair, HD1.out, HD2.out, hd, Option.bind_some, Option.map_some, Option.bind_none, Option.map_none], rfl, hbe, T2.out.trans T'⟩⟩
  have hbx := T'.keep B2.out (by decide)
  have q := cell_blk hbx 2 _ rfl
  have f := frozen_at hbx 2
  obtain ⟨w3, hw, hbx2, hkp, hbl, hot⟩ := own_store hbx (by decide) 2 (.int .i64 x3)
  have hbx3 : w3.heap[w.heap.size]? = some (.cells #[.int .i64 x1, .int .i64 x2, .int .i64 x3, .int .i64 0, .int .i64 0] 96 (0, 0)) := hbx2
  have hbl' := hbl w.heap.size (Nat.le_refl _)
  have S3 := Lib.hid (S'.keeps hkp (hbl'.mono HSZ.out))
  have T3 := Lib.hid ((T2.out.trans T').then hbl')
  have B3 := Lib.hid hbx3
  have HD3 := Lib.hid hd
  have HV := Lib.hid hw
  clear hd hw hbx hbx2 hbx3 hkp hbl hbl' hot S' T' S2 T2 B2
  go_wp2_with fail
  first | rw [HV.out] | (erw [HV.out])
  clear HV q f
  refine (rr_number S3.out).mono ?_
  rintro e y4 (⟨x4, l4, u, hd, rfl, rfl, S', T'⟩ | ⟨hd, rfl, hbe, T'⟩)
  rotate_left
  · exact ⟨rfl, .inr ⟨by simp only [dDone, dPair, HD1.out, HD2.out, HD3.out, hd, Option.bind_some, Option.map_some, Option.bind_none, Option.map_none], rfl, hbe, T3.out.trans T'⟩⟩
  have hbx := T'.keep B3.out (by decide)
  have q := cell_blk hbx 3 _ rfl
  have f := frozen_at hbx 3
  obtain ⟨w4, hw, hbx2, hkp, hbl, hot⟩ := own_store hbx (by decide) 3 (.int .i64 x4)
  have hbx3 : w4.heap[w.heap.size]? = some (.cells #[.int .i64 x1, .int .i64 x2, .int .i64 x3, .int .i64 x4, .int .i64 0] 96 (0, 0)) := hbx2
  have hbl' := hbl w.heap.size (Nat.le_refl _)
  have S4 := Lib.hid (S'.keeps hkp (hbl'.mono HSZ.out))
  have T4 := Lib.hid ((T3.out.trans T').then hbl')
  have B4 := Lib.hid hbx3
  have HD4 := Lib.hid hd
  have HV := Lib.hid hw
  clear hd hw hbx hbx2 hbx3 hkp hbl hbl' hot S' T' S3 T3 B3
  go_wp2_with fail
  first | rw [HV.out] | (erw [HV.out])
  clear HV q f
  refine (rr_number S4.out).mono ?_
  rintro e y5 (⟨x5, l5, u, hd, rfl, rfl, S', T'⟩ | ⟨hd, rfl, hbe, T'⟩)
  rotate_left
  · exact ⟨rfl, .inr ⟨by simp only [dDone, dPair, HD1.out, HD2.out, HD3.out, HD4.out, hd, Option.bind_some, Option.map_some, Option.bind_none, Option.map_none], rfl, hbe, T4.out.trans T'⟩⟩
  have hbx := T'.keep B4.out (by decide)
  have q := cell_blk hbx 4 _ rfl
  have f := frozen_at hbx 4
  obtain ⟨w5, hw, hbx2, hkp, hbl, hot⟩ := own_store hbx (by decide) 4 (.int .i64 x5)
  have hbx3 : w5.heap[w.heap.size]? = some (.cells #[.int .i64 x1, .int .i64 x2, .int .i64 x3, .int .i64 x4, .int .i64 x5] 96 (0, 0)) := hbx2
  have hbl' := hbl w.heap.size (Nat.le_refl _)
  have S5 := Lib.hid (S'.keeps hkp (hbl'.mono HSZ.out))
  have T5 := Lib.hid ((T4.out.trans T').then hbl')
  have B5 := Lib.hid hbx3
  have HD5 := Lib.hid hd
  have HV := Lib.hid hw
  clear hd hw hbx hbx2 hbx3 hkp hbl hbl' hot S' T' S4 T4 B4
  have HM := Lib.hid (mkMDone (w := w5) (base := w.heap.size) (ok := fun _ => True) (x1, x2, x3, x4, x5) )
  obtain ⟨WF, hWF, hbF, hkF, hblF, hotF⟩ := own_stores [] [.int .i64 x1, .int .i64 x2, .int .i64 x3, .int .i64 x4, .int .i64 x5] [.int .i64 x1, .int .i64 x2, .int .i64 x3, .int .i64 x4, .int .i64 x5] [] B5.out (by decide) rfl
  have HF := Lib.hid hWF
  have BF := Lib.hid hbF
  have KF := Lib.hid hkF
  have LF := Lib.hid (hblF w.heap.size (Nat.le_refl _))
  have OF := Lib.hid hotF
  clear hWF hbF hkF hblF hotF
  go_wp2_with (first | ((with_reducible refine gate_load (t := 96) rfl ?_); (first | rw [HV.out] | skip); refine wpList_load_mid rfl 96 _ rfl w.heap.size 0 rfl [.int .i64 x1, .int .i64 x2, .int .i64 x3, .int .i64 x4, .int .i64 x5] _ (range_blk [] [.int .i64 x1, .int .i64 x2, .int .i64 x3, .int .i64 x4, .int .i64 x5] [] B5.out) Tryz.underlying96 rfl (by kernel_rfl) ?_) | ((with_reducible refine gate_store (t := 96) rfl ?_); refine wpList_store_mid rfl 96 _ _ rfl w.heap.size 0 #[.int .i64 x1, .int .i64 x2, .int .i64 x3, .int .i64 x4, .int .i64 x5] rfl rfl (there_blk [] [.int .i64 x1, .int .i64 x2, .int .i64 x3, .int .i64 x4, .int .i64 x5] [] B5.out) (by kernel_rfl) (all_oneCell_toArray (kDone.K_one (kDone.K_of_M HM.out))) ?_))
  first | rw [HF.out] | (erw [HF.out])
  refine bodyPost_ret (v := .agg #[.int .i64 x1, .int .i64 x2, .int .i64 x3, .int .i64 x4, .int .i64 x5]) (results_cell_row rfl _ _ w.heap.size 96 #[.int .i64 x1, .int .i64 x2, .int .i64 x3, .int .i64 x4, .int .i64 x5] (0, 0) _ rfl BF.out Tryz.underlying96 rfl (by kernel_rfl)) rfl ?_
  exact .inl ⟨(x1, x2, x3, x4, x5), l5, _, by simp only [dDone, dPair, HD1.out, HD2.out, HD3.out, HD4.out, HD5.out, Option.bind_some, Option.map_some, Option.bind_none, Option.map_none], rfl, ⟨_, mkMDone (x1, x2, x3, x4, x5) , rfl⟩, S5.out.keeps KF.out (LF.out.mono HSZ.out), T5.out.then LF.out⟩
theorem info_Done : (Tryz.prog.info? 96).map (fun i => (i.zero, i.size, i.bytes)) = some (some (.agg #[.int .i64 0, .int .i64 0, .int .i64 0, .int .i64 0, .int .i64 0]), 5, 40) := by kernel_rfl
set_option maxRecDepth 100000 in
set_option maxHeartbeats 16000000 in
theorem rr_few_Done {w0 w : World} {g : Nat} {B l : Bs} (hS : RAt w0 w g B l) :
    Calls Tryz.prog 26 #[.pointer (some ⟨g, 0, none⟩), .func (.func 27) #[] #[]] w (RDone (dList dDone) (fun xs v w' => kDone.R 96 w' w.heap.size (fun _ => True) v xs) w0 g w B l) := by
  have hIB : IsB l := by
    obtain ⟨p, hp⟩ := hS.suf
    have := hS.isB
    rw [hp] at this
    exact this.right
  have HSZ := Lib.hid hS.below.size
  have C1 := Lib.hid (rr_number hS)
  have HS := Lib.hid hS
  have HIB := Lib.hid hIB
  clear hS hIB
  go_enter Tryz.func26, Tryz.ntmps26
  go_wp2_with fail
  refine C1.out.mono ?_
  rintro e w1 (⟨n, l1, v, hd, rfl, rfl, S1', T1'⟩ | ⟨hd, rfl, hbe, T1'⟩)
  rotate_left
  · exact ⟨rfl, .inr ⟨by simp only [dList, hd, Option.bind_none], rfl, hbe, T1'⟩⟩
  obtain ⟨hn0, hn1⟩ := dNum_range HIB.out hd
  obtain ⟨m, rfl⟩ := Int.eq_ofNat_of_zero_le hn0
  have S1 := Lib.hid S1'
  have T1 := Lib.hid T1'
  have HD := Lib.hid hd
  clear S1' T1' hd C1 HIB
  by_cases h4 : 4096 < (m : Int)
  · have hdec : decide ((m : Int) ≤ 4096) = false := decide_eq_false (by omega)
    go_wp2_with fail
    refine (is_false _).mono ?_
    rintro e w2 ⟨rfl, rfl⟩
    exact ⟨rfl, .inr ⟨by simp only [dList, HD.out, Option.bind_some]; exact if_pos h4, rfl, S1.out.below, T1.out⟩⟩
  · have hdec : decide ((m : Int) ≤ 4096) = true := decide_eq_true (by omega)
    have hm4 : m ≤ 4096 := by omega
    have HL := Lib.hid (show dList dDone l = dTimes dDone m l1 by simp only [dList, HD.out, Option.bind_some, Int.toNat_natCast]; exact if_neg h4)
    clear h4
    go_wp2_with fail
    refine (is_true _).mono ?_
    rintro e w2 ⟨rfl, rfl⟩
    clear hdec
    go_wp2_with fail
    go_loopw [6, 13] (fun v i wr => ∃ k : Nat, k ≤ m ∧ i = .int .i64 k ∧ ∃ xs lr, dTimes dDone k l1 = some (xs, lr) ∧ xs.length = k ∧ kDone.R 96 wr w.heap.size (fun _ => True) v xs ∧ RAt w0 wr g B lr ∧ Stp SR w wr) (fun _ i _ => m - (intOf i).toNat)
    case atStart => exact ⟨0, Nat.zero_le _, rfl, [], l1, rfl, rfl, Kd.R_nil _ _ _ _ _, S1.out, T1.out⟩
    case round =>
      obtain ⟨k, hk, rfl, xs, lr, hdt, hxl, hR, hS, hT⟩ := hrel
      obtain ⟨A, c, hv, _, _⟩ := Kd.R_reads hR
      subst hv
      have HT := Lib.hid hdt
      have HX := Lib.hid hxl
      have HR := Lib.hid hR
      have SR_ := Lib.hid hS
      have TR := Lib.hid hT
      clear hdt hxl hR hS hT S1 T1
      by_cases hlt : k < m
      · have hlt' : (k : Int) < (m : Int) := by omega
        go_wp2_with fail
        refine (rr_done SR_.out).mono ?_
        rintro e w3 (⟨x, l2, u, hd, rfl, ⟨cs, hM, rfl⟩, S3', T3'⟩ | ⟨hd, rfl, hbe, T3'⟩)
        rotate_left
        · exact ⟨rfl, .inr ⟨by rw [HL.out]; exact times_none _ HT.out hd hlt, rfl, hbe, TR.out.trans T3'⟩⟩
        have hlen : xs.length ≤ 4096 := by rw [HX.out]; omega
        have hO := T3'.R HR.out (by decide)
        have hE := elem_ok hM (fun k hk => Kd.R_lt HR.out k hk) TR.out.size (v := Value.slice A xs.length c)
        obtain rfl := openMDone hM
        have HO := Lib.hid hO
        have HE := Lib.hid hE
        have S3 := Lib.hid S3'
        have T3 := Lib.hid (TR.out.trans T3')
        have HD3 := Lib.hid hd
        clear hO hE S3' T3' hd TR HR SR_ hM
        go_wp2_with (((with_reducible refine gate_builtin (b := .append) (xs := #[.tmp 15, .tmp 19]) rfl ?_); at_builtin; refine Kd.R_append kDone (w0 := w3) w.heap.size rfl (.tmp 15) (.tmp 19) 35 96 (.agg #[.int .i64 0, .int .i64 0, .int .i64 0, .int .i64 0, .int .i64 0]) 40 rfl Tryz.underlying35 info_Done rfl (by decide) (by decide) (.slice A xs.length c) xs x [.int .i64 x.1, .int .i64 x.2.1, .int .i64 x.2.2.1, .int .i64 x.2.2.2.1, .int .i64 x.2.2.2.2] (fun _ => True) (fun k => True ∧ some k ≠ (Value.slice A xs.length c).ownBlock) rfl rfl HE.out (fun _ h => h) (fun _ _ => trivial) HO.out (Below.refl _ _) (Nat.le_trans T3.out.size (Nat.le_refl _)) (by omega) ?_; intro v1 w4 ho hb hg hat; have HO4 := Lib.hid ho; have HB4 := Lib.hid hb; have HG4 := Lib.hid hg; clear ho hb hg hat))
        have hs4 : dTimes dDone (k + 1) l1 = some (xs ++ [x], l2) := by rw [dTimes_snoc, HT.out]; simp only [Option.bind_some, HD3.out, Option.map_some]
        have HS4 := Lib.hid hs4
        have S4 := Lib.hid (S3.out.keeps (Keeps.row HO.out HG4.out (by decide)) (HB4.out.mono (Nat.le_trans HSZ.out (Nat.le_refl _))))
        have T4 := Lib.hid (T3.out.then HB4.out)
        have HX4 := Lib.hid (show (xs ++ [x]).length = k + 1 by rw [List.length_append, HX.out]; rfl)
        clear hs4
        go_wp2
        go_roundw
        case rel => exact ⟨k + 1, by omega, by simp, _, _, HS4.out, HX4.out, HO4.out, S4.out, T4.out⟩
        case measure => simp [intOf]; omega
      · have hke : k = m := by omega
        have HK := Lib.hid hke
        clear hke
        go_wp2
        go_ret
        have ht := HT.out
        rw [HK.out] at ht
        exact .inl ⟨xs, lr, _, by rw [HL.out, ht], rfl, HR.out, SR_.out, TR.out⟩
set_option maxRecDepth 100000 in
set_option maxHeartbeats 16000000 in
theorem rr_lease {w0 w : World} {g : Nat} {B l0 : Bs} (hS : RAt w0 w g B l0) :
    Calls Tryz.prog 29 #[.pointer (some ⟨g, 0, none⟩)] w (RDone dLease (fun x v w' => ∃ cs, kLease.M w' w.heap.size (fun _ => True) x cs ∧ v = .agg cs.toArray) w0 g w B l0) := by
  have hb0 : Below w.heap.size w (w.alloc (.cells #[.int .i64 0, .int .i64 0, .int .i64 0, .int .i64 0] 101)) := (Below.refl _ _).alloc (Nat.le_refl _) _
  have hx0 := blk_new w (.cells #[.int .i64 0, .int .i64 0, .int .i64 0, .int .i64 0] 101)
  obtain ⟨W0, hW0⟩ : ∃ W0, w.alloc (.cells #[.int .i64 0, .int .i64 0, .int .i64 0, .int .i64 0] 101) = W0 := ⟨_, rfl⟩
  rw [hW0] at hb0 hx0
  have HSZ := Lib.hid hS.below.size
  have S0 := Lib.hid (hS.keeps (Keeps.below hb0) (hb0.mono hS.below.size))
  have B0 := Lib.hid hx0
  have T0 := Lib.hid (Stp.below (S := SR) hb0)
  have HW := Lib.hid hW0
  clear hb0 hx0 hW0 hS
  go_enter Tryz.func29, Tryz.ntmps29
  go_wp2_with fail
  rw [HW.out]
  clear HW
  refine (rr_number S0.out).mono ?_
  rintro e y1 (⟨x1, l1, u, hd, rfl, rfl, S', T'⟩ | ⟨hd, rfl, hbe, T'⟩)
  rotate_left
  · exact ⟨rfl, .inr ⟨by simp only [dLease, dPair, hd, Option.bind_some, Option.map_some, Option.bind_none, Option.map_none], rfl, hbe, T0.out.trans T'⟩⟩
  have hbx := T'.keep B0.out (by decide)
  have q := cell_blk hbx 0 _ rfl
  have f := frozen_at hbx 0
  obtain ⟨w1, hw, hbx2, hkp, hbl, hot⟩ := own_store hbx (by decide) 0 (.int .i64 x1)
  have hbx3 : w1.heap[w.heap.size]? = some (.cells #[.int .i64 x1, .int .i64 0, .int .i64 0, .int .i64 0] 101 (0, 0)) := hbx2
  have hbl' := hbl w.heap.size (Nat.le_refl _)
  have S1 := Lib.hid (S'.keeps hkp (hbl'.mono HSZ.out))
  have T1 := Lib.hid ((T0.out.trans T').then hbl')
  have B1 := Lib.hid hbx3
  have HD1 := Lib.hid hd
  have HV := Lib.hid hw
  clear hd hw hbx hbx2 hbx3 hkp hbl hbl' hot S' T' S0 T0 B0
  go_wp2_with fail
  first | rw [HV.out] | (erw [HV.out])
  clear HV q f
  refine (rr_number S1.out).mono ?_
  rintro e y2 (⟨x2, l2, u, hd, rfl, rfl, S', T'⟩ | ⟨hd, rfl, hbe, T'⟩)
  rotate_left
  · exact ⟨rfl, .inr ⟨by simp only [dLease, dPair, HD1.out, hd, Option.bind_some, Option.map_some, Option.bind_none, Option.map_none], rfl, hbe, T1.out.trans T'⟩⟩
  have hbx := T'.keep B1.out (by decide)
  have q := cell_blk hbx 1 _ rfl
  have f := frozen_at hbx 1
  obtain ⟨w2, hw, hbx2, hkp, hbl, hot⟩ := own_store hbx (by decide) 1 (.int .i64 x2)
  have hbx3 : w2.heap[w.heap.size]? = some (.cells #[.int .i64 x1, .int .i64 x2, .int .i64 0, .int .i64 0] 101 (0, 0)) := hbx2
  have hbl' := hbl w.heap.size (Nat.le_refl _)
  have S2 := Lib.hid (S'.keeps hkp (hbl'.mono HSZ.out))
  have T2 := Lib.hid ((T1.out.trans T').then hbl')
  have B2 := Lib.hid hbx3
  have HD2 := Lib.hid hd
  have HV := Lib.hid hw
  clear hd hw hbx hbx2 hbx3 hkp hbl hbl' hot S' T' S1 T1 B1
  go_wp2_with fail
  first | rw [HV.out] | (erw [HV.out])
  clear HV q f
  refine (rr_number S2.out).mono ?_
  rintro e y3 (⟨x3, l3, u, hd, rfl, rfl, S', T'⟩ | ⟨hd, rfl, hbe, T'⟩)
  rotate_left
  · exact ⟨rfl, .inr ⟨by simp only [dLease, dPair, HD1.out, HD2.out, hd, Option.bind_some, Option.map_some, Option.bind_none, Option.map_none], rfl, hbe, T2.out.trans T'⟩⟩
  have hbx := T'.keep B2.out (by decide)
  have q := cell_blk hbx 2 _ rfl
  have f := frozen_at hbx 2
  obtain ⟨w3, hw, hbx2, hkp, hbl, hot⟩ := own_store hbx (by decide) 2 (.int .i64 x3)
  have hbx3 : w3.heap[w.heap.size]? = some (.cells #[.int .i64 x1, .int .i64 x2, .int .i64 x3, .int .i64 0] 101 (0, 0)) := hbx2
  have hbl' := hbl w.heap.size (Nat.le_refl _)
  have S3 := Lib.hid (S'.keeps hkp (hbl'.mono HSZ.out))
  have T3 := Lib.hid ((T2.out.trans T').then hbl')
  have B3 := Lib.hid hbx3
  have HD3 := Lib.hid hd
  have HV := Lib.hid hw
  clear hd hw hbx hbx2 hbx3 hkp hbl hbl' hot S' T' S2 T2 B2
  go_wp2_with fail
  first | rw [HV.out] | (erw [HV.out])
  clear HV q f
  refine (rr_number S3.out).mono ?_
  rintro e y4 (⟨x4, l4, u, hd, rfl, rfl, S', T'⟩ | ⟨hd, rfl, hbe, T'⟩)
  rotate_left
  · exact ⟨rfl, .inr ⟨by simp only [dLease, dPair, HD1.out, HD2.out, HD3.out, hd, Option.bind_some, Option.map_some, Option.bind_none, Option.map_none], rfl, hbe, T3.out.trans T'⟩⟩
  have hbx := T'.keep B3.out (by decide)
  have q := cell_blk hbx 3 _ rfl
  have f := frozen_at hbx 3
  obtain ⟨w4, hw, hbx2, hkp, hbl, hot⟩ := own_store hbx (by decide) 3 (.int .i64 x4)
  have hbx3 : w4.heap[w.heap.size]? = some (.cells #[.int .i64 x1, .int .i64 x2, .int .i64 x3, .int .i64 x4] 101 (0, 0)) := hbx2
  have hbl' := hbl w.heap.size (Nat.le_refl _)
  have S4 := Lib.hid (S'.keeps hkp (hbl'.mono HSZ.out))
  have T4 := Lib.hid ((T3.out.trans T').then hbl')
  have B4 := Lib.hid hbx3
  have HD4 := Lib.hid hd
  have HV := Lib.hid hw
  clear hd hw hbx hbx2 hbx3 hkp hbl hbl' hot S' T' S3 T3 B3
  have HM := Lib.hid (mkMLease (w := w4) (base := w.heap.size) (ok := fun _ => True) (x1, x2, x3, x4) )
  obtain ⟨WF, hWF, hbF, hkF, hblF, hotF⟩ := own_stores [] [.int .i64 x1, .int .i64 x2, .int .i64 x3, .int .i64 x4] [.int .i64 x1, .int .i64 x2, .int .i64 x3, .int .i64 x4] [] B4.out (by decide) rfl
  have HF := Lib.hid hWF
  have BF := Lib.hid hbF
  have KF := Lib.hid hkF
  have LF := Lib.hid (hblF w.heap.size (Nat.le_refl _))
  have OF := Lib.hid hotF
  clear hWF hbF hkF hblF hotF
  go_wp2_with (first | ((with_reducible refine gate_load (t := 101) rfl ?_); (first | rw [HV.out] | skip); refine wpList_load_mid rfl 101 _ rfl w.heap.size 0 rfl [.int .i64 x1, .int .i64 x2, .int .i64 x3, .int .i64 x4] _ (range_blk [] [.int .i64 x1, .int .i64 x2, .int .i64 x3, .int .i64 x4] [] B4.out) Tryz.underlying101 rfl (by kernel_rfl) ?_) | ((with_reducible refine gate_store (t := 101) rfl ?_); refine wpList_store_mid rfl 101 _ _ rfl w.heap.size 0 #[.int .i64 x1, .int .i64 x2, .int .i64 x3, .int .i64 x4] rfl rfl (there_blk [] [.int .i64 x1, .int .i64 x2, .int .i64 x3, .int .i64 x4] [] B4.out) (by kernel_rfl) (all_oneCell_toArray (kLease.K_one (kLease.K_of_M HM.out))) ?_))
  first | rw [HF.out] | (erw [HF.out])
  refine bodyPost_ret (v := .agg #[.int .i64 x1, .int .i64 x2, .int .i64 x3, .int .i64 x4]) (results_cell_row rfl _ _ w.heap.size 101 #[.int .i64 x1, .int .i64 x2, .int .i64 x3, .int .i64 x4] (0, 0) _ rfl BF.out Tryz.underlying101 rfl (by kernel_rfl)) rfl ?_
  exact .inl ⟨(x1, x2, x3, x4), l4, _, by simp only [dLease, dPair, HD1.out, HD2.out, HD3.out, HD4.out, Option.bind_some, Option.map_some, Option.bind_none, Option.map_none], rfl, ⟨_, mkMLease (x1, x2, x3, x4) , rfl⟩, S4.out.keeps KF.out (LF.out.mono HSZ.out), T4.out.then LF.out⟩
theorem info_Lease : (Tryz.prog.info? 101).map (fun i => (i.zero, i.size, i.bytes)) = some (some (.agg #[.int .i64 0, .int .i64 0, .int .i64 0, .int .i64 0]), 4, 32) := by kernel_rfl
set_option maxRecDepth 100000 in
set_option maxHeartbeats 16000000 in
theorem rr_few_Lease {w0 w : World} {g : Nat} {B l : Bs} (hS : RAt w0 w g B l) :
    Calls Tryz.prog 28 #[.pointer (some ⟨g, 0, none⟩), .func (.func 29) #[] #[]] w (RDone (dList dLease) (fun xs v w' => kLease.R 101 w' w.heap.size (fun _ => True) v xs) w0 g w B l) := by
  have hIB : IsB l := by
    obtain ⟨p, hp⟩ := hS.suf
    have := hS.isB
    rw [hp] at this
    exact this.right
  have HSZ := Lib.hid hS.below.size
  have C1 := Lib.hid (rr_number hS)
  have HS := Lib.hid hS
  have HIB := Lib.hid hIB
  clear hS hIB
  go_enter Tryz.func28, Tryz.ntmps28
  go_wp2_with fail
  refine C1.out.mono ?_
  rintro e w1 (⟨n, l1, v, hd, rfl, rfl, S1', T1'⟩ | ⟨hd, rfl, hbe, T1'⟩)
  rotate_left
  · exact ⟨rfl, .inr ⟨by simp only [dList, hd, Option.bind_none], rfl, hbe, T1'⟩⟩
  obtain ⟨hn0, hn1⟩ := dNum_range HIB.out hd
  obtain ⟨m, rfl⟩ := Int.eq_ofNat_of_zero_le hn0
  have S1 := Lib.hid S1'
  have T1 := Lib.hid T1'
  have HD := Lib.hid hd
  clear S1' T1' hd C1 HIB
  by_cases h4 : 4096 < (m : Int)
  · have hdec : decide ((m : Int) ≤ 4096) = false := decide_eq_false (by omega)
    go_wp2_with fail
    refine (is_false _).mono ?_
    rintro e w2 ⟨rfl, rfl⟩
    exact ⟨rfl, .inr ⟨by simp only [dList, HD.out, Option.bind_some]; exact if_pos h4, rfl, S1.out.below, T1.out⟩⟩
  · have hdec : decide ((m : Int) ≤ 4096) = true := decide_eq_true (by omega)
    have hm4 : m ≤ 4096 := by omega
    have HL := Lib.hid (show dList dLease l = dTimes dLease m l1 by simp only [dList, HD.out, Option.bind_some, Int.toNat_natCast]; exact if_neg h4)
    clear h4
    go_wp2_with fail
    refine (is_true _).mono ?_
    rintro e w2 ⟨rfl, rfl⟩
    clear hdec
    go_wp2_with fail
    go_loopw [6, 13] (fun v i wr => ∃ k : Nat, k ≤ m ∧ i = .int .i64 k ∧ ∃ xs lr, dTimes dLease k l1 = some (xs, lr) ∧ xs.length = k ∧ kLease.R 101 wr w.heap.size (fun _ => True) v xs ∧ RAt w0 wr g B lr ∧ Stp SR w wr) (fun _ i _ => m - (intOf i).toNat)
    case atStart => exact ⟨0, Nat.zero_le _, rfl, [], l1, rfl, rfl, Kd.R_nil _ _ _ _ _, S1.out, T1.out⟩
    case round =>
      obtain ⟨k, hk, rfl, xs, lr, hdt, hxl, hR, hS, hT⟩ := hrel
      obtain ⟨A, c, hv, _, _⟩ := Kd.R_reads hR
      subst hv
      have HT := Lib.hid hdt
      have HX := Lib.hid hxl
      have HR := Lib.hid hR
      have SR_ := Lib.hid hS
      have TR := Lib.hid hT
      clear hdt hxl hR hS hT S1 T1
      by_cases hlt : k < m
      · have hlt' : (k : Int) < (m : Int) := by omega
        go_wp2_with fail
        refine (rr_lease SR_.out).mono ?_
        rintro e w3 (⟨x, l2, u, hd, rfl, ⟨cs, hM, rfl⟩, S3', T3'⟩ | ⟨hd, rfl, hbe, T3'⟩)
        rotate_left
        · exact ⟨rfl, .inr ⟨by rw [HL.out]; exact times_none _ HT.out hd hlt, rfl, hbe, TR.out.trans T3'⟩⟩
        have hlen : xs.length ≤ 4096 := by rw [HX.out]; omega
        have hO := T3'.R HR.out (by decide)
        have hE := elem_ok hM (fun k hk => Kd.R_lt HR.out k hk) TR.out.size (v := Value.slice A xs.length c)
        obtain rfl := openMLease hM
        have HO := Lib.hid hO
        have HE := Lib.hid hE
        have S3 := Lib.hid S3'
        have T3 := Lib.hid (TR.out.trans T3')
        have HD3 := Lib.hid hd
        clear hO hE S3' T3' hd TR HR SR_ hM
        go_wp2_with (((with_reducible refine gate_builtin (b := .append) (xs := #[.tmp 15, .tmp 19]) rfl ?_); at_builtin; refine Kd.R_append kLease (w0 := w3) w.heap.size rfl (.tmp 15) (.tmp 19) 36 101 (.agg #[.int .i64 0, .int .i64 0, .int .i64 0, .int .i64 0]) 32 rfl Tryz.underlying36 info_Lease rfl (by decide) (by decide) (.slice A xs.length c) xs x [.int .i64 x.1, .int .i64 x.2.1, .int .i64 x.2.2.1, .int .i64 x.2.2.2] (fun _ => True) (fun k => True ∧ some k ≠ (Value.slice A xs.length c).ownBlock) rfl rfl HE.out (fun _ h => h) (fun _ _ => trivial) HO.out (Below.refl _ _) (Nat.le_trans T3.out.size (Nat.le_refl _)) (by omega) ?_; intro v1 w4 ho hb hg hat; have HO4 := Lib.hid ho; have HB4 := Lib.hid hb; have HG4 := Lib.hid hg; clear ho hb hg hat))
        have hs4 : dTimes dLease (k + 1) l1 = some (xs ++ [x], l2) := by rw [dTimes_snoc, HT.out]; simp only [Option.bind_some, HD3.out, Option.map_some]
        have HS4 := Lib.hid hs4
        have S4 := Lib.hid (S3.out.keeps (Keeps.row HO.out HG4.out (by decide)) (HB4.out.mono (Nat.le_trans HSZ.out (Nat.le_refl _))))
        have T4 := Lib.hid (T3.out.then HB4.out)
        have HX4 := Lib.hid (show (xs ++ [x]).length = k + 1 by rw [List.length_append, HX.out]; rfl)
        clear hs4
        go_wp2
        go_roundw
        case rel => exact ⟨k + 1, by omega, by simp, _, _, HS4.out, HX4.out, HO4.out, S4.out, T4.out⟩
        case measure => simp [intOf]; omega
      · have hke : k = m := by omega
        have HK := Lib.hid hke
        clear hke
        go_wp2
        go_ret
        have ht := HT.out
        rw [HK.out] at ht
        exact .inl ⟨xs, lr, _, by rw [HL.out, ht], rfl, HR.out, SR_.out, TR.out⟩
set_option maxRecDepth 100000 in
set_option maxHeartbeats 16000000 in
theorem rr_machine {w0 w : World} {g : Nat} {B l0 : Bs} (hS : RAt w0 w g B l0) :
    Calls Tryz.prog 11 #[.pointer (some ⟨g, 0, none⟩)] w (RDone dMachine (fun x v w' => ∃ cs, kMachine.M w' w.heap.size (fun _ => True) x cs ∧ v = .agg cs.toArray) w0 g w B l0) := by
  have hb0 : Below w.heap.size w (w.alloc (.cells #[.int .i64 0, .int .i64 0, .slice none 0 0, .slice none 0 0, .slice none 0 0, .slice none 0 0, .slice none 0 0, .slice none 0 0, .slice none 0 0, .int .i64 0] 38)) := (Below.refl _ _).alloc (Nat.le_refl _) _
  have hx0 := blk_new w (.cells #[.int .i64 0, .int .i64 0, .slice none 0 0, .slice none 0 0, .slice none 0 0, .slice none 0 0, .slice none 0 0, .slice none 0 0, .slice none 0 0, .int .i64 0] 38)
  obtain ⟨W0, hW0⟩ : ∃ W0, w.alloc (.cells #[.int .i64 0, .int .i64 0, .slice none 0 0, .slice none 0 0, .slice none 0 0, .slice none 0 0, .slice none 0 0, .slice none 0 0, .slice none 0 0, .int .i64 0] 38) = W0 := ⟨_, rfl⟩
  rw [hW0] at hb0 hx0
  have HSZ := Lib.hid hS.below.size
  have S0 := Lib.hid (hS.keeps (Keeps.below hb0) (hb0.mono hS.below.size))
  have B0 := Lib.hid hx0
  have T0 := Lib.hid (Stp.below (S := SR) hb0)
  have HW := Lib.hid hW0
  clear hb0 hx0 hW0 hS
  go_enter Tryz.func11, Tryz.ntmps11
  go_wp2_with fail
  rw [HW.out]
  clear HW
  refine (rr_catalog S0.out).mono ?_
  rintro e y1 (⟨x1, l1, u, hd, rfl, ⟨cs, hM, rfl⟩, S', T'⟩ | ⟨hd, rfl, hbe, T'⟩)
  rotate_left
  · exact ⟨rfl, .inr ⟨by simp only [dMachine, dPair, hd, Option.bind_some, Option.map_some, Option.bind_none, Option.map_none], rfl, hbe, T0.out.trans T'⟩⟩
  have hbx := T'.keep B0.out (by decide)
  have hone := all_oneCell_toArray (kCatalog.K_one (kCatalog.K_of_M hM))
  obtain ⟨v2, v3, v4, v5, v6, rfl, hR2, hR3, hR4, hR5, hR6⟩ := openMCatalog hM
  have R2' := Kd.R_lower hR2 T0.out.size
  clear hR2
  have R3' := Kd.R_lower hR3 T0.out.size
  clear hR3
  have R4' := Kd.R_lower hR4 T0.out.size
  clear hR4
  have R5' := Kd.R_lower hR5 T0.out.size
  clear hR5
  have R6' := Kd.R_lower hR6 T0.out.size
  clear hR6
  have hth := there_blk [] [.int .i64 0, .int .i64 0, .slice none 0 0, .slice none 0 0, .slice none 0 0, .slice none 0 0, .slice none 0 0] [.slice none 0 0, .slice none 0 0, .int .i64 0] hbx
  obtain ⟨w1, hw, hbx2, hkp, hbl, hot⟩ := own_stores [] [.int .i64 0, .int .i64 0, .slice none 0 0, .slice none 0 0, .slice none 0 0, .slice none 0 0, .slice none 0 0] [.int .i64 x1.1, .int .i64 x1.2.1, v2, v3, v4, v5, v6] [.slice none 0 0, .slice none 0 0, .int .i64 0] hbx (by decide) rfl
  have hbx3 : w1.heap[w.heap.size]? = some (.cells #[.int .i64 x1.1, .int .i64 x1.2.1, v2, v3, v4, v5, v6, .slice none 0 0, .slice none 0 0, .int .i64 0] 38 (0, 0)) := hbx2
  have hbl' := hbl w.heap.size (Nat.le_refl _)
  have S1 := Lib.hid (S'.keeps hkp (hbl'.mono HSZ.out))
  have T1 := Lib.hid ((T0.out.trans T').then hbl')
  have B1 := Lib.hid hbx3
  have R2'' := made_only R2' hbx (by decide) hot
  have R3'' := made_only R3' hbx (by decide) hot
  have R4'' := made_only R4' hbx (by decide) hot
  have R5'' := made_only R5' hbx (by decide) hot
  have R6'' := made_only R6' hbx (by decide) hot
  have R2 := Lib.hid R2''
  clear R2' R2''
  have R3 := Lib.hid R3''
  clear R3' R3''
  have R4 := Lib.hid R4''
  clear R4' R4''
  have R5 := Lib.hid R5''
  clear R5' R5''
  have R6 := Lib.hid R6''
  clear R6' R6''
  have HD1 := Lib.hid hd
  have HV := Lib.hid hw
  have HTH := Lib.hid hth
  have HON := Lib.hid hone
  clear hd hw hbx hbx2 hbx3 hkp hbl hbl' hot hth hone hM S' T' S0 T0 B0
  go_wp2_with (((with_reducible refine gate_store (t := 34) rfl ?_); refine wpList_store_mid rfl 34 _ _ rfl w.heap.size 0 #[.int .i64 x1.1, .int .i64 x1.2.1, v2, v3, v4, v5, v6] rfl rfl HTH.out (by kernel_rfl) HON.out ?_))
  first | rw [HV.out] | (erw [HV.out])
  clear HV HTH HON
  refine (rr_few_Done S1.out).mono ?_
  rintro e y2 (⟨x2, l2, u, hd, rfl, hR, S', T'⟩ | ⟨hd, rfl, hbe, T'⟩)
  rotate_left
  · exact ⟨rfl, .inr ⟨by simp only [dMachine, dPair, HD1.out, hd, Option.bind_some, Option.map_some, Option.bind_none, Option.map_none], rfl, hbe, T1.out.trans T'⟩⟩
  have hbx := T'.keep B1.out (by decide)
  have R2' := T'.R R2.out (by decide)
  have R3' := T'.R R3.out (by decide)
  have R4' := T'.R R4.out (by decide)
  have R5' := T'.R R5.out (by decide)
  have R6' := T'.R R6.out (by decide)
  obtain ⟨A7, c7, hu, _, _⟩ := Kd.R_reads hR
  subst hu
  have R7' := Kd.R_lower hR T1.out.size
  clear hR
  have q := cell_blk hbx 7 _ rfl
  have f := frozen_at hbx 7
  obtain ⟨w2, hw, hbx2, hkp, hbl, hot⟩ := own_store hbx (by decide) 7 (.slice A7 x2.length c7)
  have hbx3 : w2.heap[w.heap.size]? = some (.cells #[.int .i64 x1.1, .int .i64 x1.2.1, v2, v3, v4, v5, v6, .slice A7 x2.length c7, .slice none 0 0, .int .i64 0] 38 (0, 0)) := hbx2
  have hbl' := hbl w.heap.size (Nat.le_refl _)
  have S2 := Lib.hid (S'.keeps hkp (hbl'.mono HSZ.out))
  have T2 := Lib.hid ((T1.out.trans T').then hbl')
  have B2 := Lib.hid hbx3
  have R2'' := made_only R2' hbx (by decide) hot
  have R3'' := made_only R3' hbx (by decide) hot
  have R4'' := made_only R4' hbx (by decide) hot
  have R5'' := made_only R5' hbx (by decide) hot
  have R6'' := made_only R6' hbx (by decide) hot
  have R7'' := made_only R7' hbx (by decide) hot
  clear R2 R3 R4 R5 R6
  have R2 := Lib.hid R2''
  clear R2' R2''
  have R3 := Lib.hid R3''
  clear R3' R3''
  have R4 := Lib.hid R4''
  clear R4' R4''
  have R5 := Lib.hid R5''
  clear R5' R5''
  have R6 := Lib.hid R6''
  clear R6' R6''
  have R7 := Lib.hid R7''
  clear R7' R7''
  have HD2 := Lib.hid hd
  have HV := Lib.hid hw
  clear hd hw hbx hbx2 hbx3 hkp hbl hbl' hot S' T' S1 T1 B1
  go_wp2_with fail
  first | rw [HV.out] | (erw [HV.out])
  clear HV q f
  refine (rr_few_Lease S2.out).mono ?_
  rintro e y3 (⟨x3, l3, u, hd, rfl, hR, S', T'⟩ | ⟨hd, rfl, hbe, T'⟩)
  rotate_left
  · exact ⟨rfl, .inr ⟨by simp only [dMachine, dPair, HD1.out, HD2.out, hd, Option.bind_some, Option.map_some, Option.bind_none, Option.map_none], rfl, hbe, T2.out.trans T'⟩⟩
  have hbx := T'.keep B2.out (by decide)
  have R2' := T'.R R2.out (by decide)
  have R3' := T'.R R3.out (by decide)
  have R4' := T'.R R4.out (by decide)
  have R5' := T'.R R5.out (by decide)
  have R6' := T'.R R6.out (by decide)
  have R7' := T'.R R7.out (by decide)
  obtain ⟨A8, c8, hu, _, _⟩ := Kd.R_reads hR
  subst hu
  have R8' := Kd.R_lower hR T2.out.size
  clear hR
  have q := cell_blk hbx 8 _ rfl
  have f := frozen_at hbx 8
  obtain ⟨w3, hw, hbx2, hkp, hbl, hot⟩ := own_store hbx (by decide) 8 (.slice A8 x3.length c8)
  have hbx3 : w3.heap[w.heap.size]? = some (.cells #[.int .i64 x1.1, .int .i64 x1.2.1, v2, v3, v4, v5, v6, .slice A7 x2.length c7, .slice A8 x3.length c8, .int .i64 0] 38 (0, 0)) := hbx2
  have hbl' := hbl w.heap.size (Nat.le_refl _)
  have S3 := Lib.hid (S'.keeps hkp (hbl'.mono HSZ.out))
  have T3 := Lib.hid ((T2.out.trans T').then hbl')
  have B3 := Lib.hid hbx3
  have R2'' := made_only R2' hbx (by decide) hot
  have R3'' := made_only R3' hbx (by decide) hot
  have R4'' := made_only R4' hbx (by decide) hot
  have R5'' := made_only R5' hbx (by decide) hot
  have R6'' := made_only R6' hbx (by decide) hot
  have R7'' := made_only R7' hbx (by decide) hot
  have R8'' := made_only R8' hbx (by decide) hot
  clear R2 R3 R4 R5 R6 R7
  have R2 := Lib.hid R2''
  clear R2' R2''
  have R3 := Lib.hid R3''
  clear R3' R3''
  have R4 := Lib.hid R4''
  clear R4' R4''
  have R5 := Lib.hid R5''
  clear R5' R5''
  have R6 := Lib.hid R6''
  clear R6' R6''
  have R7 := Lib.hid R7''
  clear R7' R7''
  have R8 := Lib.hid R8''
  clear R8' R8''
  have HD3 := Lib.hid hd
  have HV := Lib.hid hw
  clear hd hw hbx hbx2 hbx3 hkp hbl hbl' hot S' T' S2 T2 B2
  go_wp2_with fail
  first | rw [HV.out] | (erw [HV.out])
  clear HV q f
  refine (rr_number S3.out).mono ?_
  rintro e y4 (⟨x4, l4, u, hd, rfl, rfl, S', T'⟩ | ⟨hd, rfl, hbe, T'⟩)
  rotate_left
  · exact ⟨rfl, .inr ⟨by simp only [dMachine, dPair, HD1.out, HD2.out, HD3.out, hd, Option.bind_some, Option.map_some, Option.bind_none, Option.map_none], rfl, hbe, T3.out.trans T'⟩⟩
  have hbx := T'.keep B3.out (by decide)
  have R2' := T'.R R2.out (by decide)
  have R3' := T'.R R3.out (by decide)
  have R4' := T'.R R4.out (by decide)
  have R5' := T'.R R5.out (by decide)
  have R6' := T'.R R6.out (by decide)
  have R7' := T'.R R7.out (by decide)
  have R8' := T'.R R8.out (by decide)
  have q := cell_blk hbx 9 _ rfl
  have f := frozen_at hbx 9
  obtain ⟨w4, hw, hbx2, hkp, hbl, hot⟩ := own_store hbx (by decide) 9 (.int .i64 x4)
  have hbx3 : w4.heap[w.heap.size]? = some (.cells #[.int .i64 x1.1, .int .i64 x1.2.1, v2, v3, v4, v5, v6, .slice A7 x2.length c7, .slice A8 x3.length c8, .int .i64 x4] 38 (0, 0)) := hbx2
  have hbl' := hbl w.heap.size (Nat.le_refl _)
  have S4 := Lib.hid (S'.keeps hkp (hbl'.mono HSZ.out))
  have T4 := Lib.hid ((T3.out.trans T').then hbl')
  have B4 := Lib.hid hbx3
  have R2'' := made_only R2' hbx (by decide) hot
  have R3'' := made_only R3' hbx (by decide) hot
  have R4'' := made_only R4' hbx (by decide) hot
  have R5'' := made_only R5' hbx (by decide) hot
  have R6'' := made_only R6' hbx (by decide) hot
  have R7'' := made_only R7' hbx (by decide) hot
  have R8'' := made_only R8' hbx (by decide) hot
  clear R2 R3 R4 R5 R6 R7 R8
  have R2 := Lib.hid R2''
  clear R2' R2''
  have R3 := Lib.hid R3''
  clear R3' R3''
  have R4 := Lib.hid R4''
  clear R4' R4''
  have R5 := Lib.hid R5''
  clear R5' R5''
  have R6 := Lib.hid R6''
  clear R6' R6''
  have R7 := Lib.hid R7''
  clear R7' R7''
  have R8 := Lib.hid R8''
  clear R8' R8''
  have HD4 := Lib.hid hd
  have HV := Lib.hid hw
  clear hd hw hbx hbx2 hbx3 hkp hbl hbl' hot S' T' S3 T3 B3
  have HM := Lib.hid (mkMMachine (w := w4) (base := w.heap.size) (ok := fun _ => True) (x1, x2, x3, x4) R2.out R3.out R4.out R5.out R6.out R7.out R8.out)
  obtain ⟨WF, hWF, hbF, hkF, hblF, hotF⟩ := own_stores [] [.int .i64 x1.1, .int .i64 x1.2.1, v2, v3, v4, v5, v6, .slice A7 x2.length c7, .slice A8 x3.length c8, .int .i64 x4] [.int .i64 x1.1, .int .i64 x1.2.1, v2, v3, v4, v5, v6, .slice A7 x2.length c7, .slice A8 x3.length c8, .int .i64 x4] [] B4.out (by decide) rfl
  have HF := Lib.hid hWF
  have BF := Lib.hid hbF
  have KF := Lib.hid hkF
  have LF := Lib.hid (hblF w.heap.size (Nat.le_refl _))
  have OF := Lib.hid hotF
  clear hWF hbF hkF hblF hotF
  go_wp2_with (first | ((with_reducible refine gate_load (t := 38) rfl ?_); (first | rw [HV.out] | skip); refine wpList_load_mid rfl 38 _ rfl w.heap.size 0 rfl [.int .i64 x1.1, .int .i64 x1.2.1, v2, v3, v4, v5, v6, .slice A7 x2.length c7, .slice A8 x3.length c8, .int .i64 x4] _ (range_blk [] [.int .i64 x1.1, .int .i64 x1.2.1, v2, v3, v4, v5, v6, .slice A7 x2.length c7, .slice A8 x3.length c8, .int .i64 x4] [] B4.out) Tryz.underlying38 rfl (by kernel_rfl) ?_) | ((with_reducible refine gate_store (t := 38) rfl ?_); refine wpList_store_mid rfl 38 _ _ rfl w.heap.size 0 #[.int .i64 x1.1, .int .i64 x1.2.1, v2, v3, v4, v5, v6, .slice A7 x2.length c7, .slice A8 x3.length c8, .int .i64 x4] rfl rfl (there_blk [] [.int .i64 x1.1, .int .i64 x1.2.1, v2, v3, v4, v5, v6, .slice A7 x2.length c7, .slice A8 x3.length c8, .int .i64 x4] [] B4.out) (by kernel_rfl) (all_oneCell_toArray (kMachine.K_one (kMachine.K_of_M HM.out))) ?_))
  first | rw [HF.out] | (erw [HF.out])
  refine bodyPost_ret (v := .agg #[.int .i64 x1.1, .int .i64 x1.2.1, v2, v3, v4, v5, v6, .slice A7 x2.length c7, .slice A8 x3.length c8, .int .i64 x4]) (results_cell_row rfl _ _ w.heap.size 38 #[.int .i64 x1.1, .int .i64 x1.2.1, v2, v3, v4, v5, v6, .slice A7 x2.length c7, .slice A8 x3.length c8, .int .i64 x4] (0, 0) _ rfl BF.out Tryz.underlying38 rfl (by kernel_rfl)) rfl ?_
  exact .inl ⟨(x1, x2, x3, x4), l4, _, by simp only [dMachine, dPair, HD1.out, HD2.out, HD3.out, HD4.out, Option.bind_some, Option.map_some, Option.bind_none, Option.map_none], rfl, ⟨_, mkMMachine (x1, x2, x3, x4) (made_only R2.out B4.out (by decide) OF.out) (made_only R3.out B4.out (by decide) OF.out) (made_only R4.out B4.out (by decide) OF.out) (made_only R5.out B4.out (by decide) OF.out) (made_only R6.out B4.out (by decide) OF.out) (made_only R7.out B4.out (by decide) OF.out) (made_only R8.out B4.out (by decide) OF.out), rfl⟩, S4.out.keeps KF.out (LF.out.mono HSZ.out), T4.out.then LF.out⟩
end Go.Proofs.YtoomcdgnnibjlaaGreat.Wr
/- Bytes read as a machine, or refused. -/
namespace Go.Proofs.YtoomcdgnnibjlaaGreat.Wr
open Go.RowKit Go.Proofs.YtoomcdgnnibjlaaGreatW.PrintWords Go.Proofs.YtoomcdgnnibjlaaGreatW.PrintLast
set_option linter.unusedVariables false
set_option linter.unusedSimpArgs false


set_option maxRecDepth 100000 in
set_option maxHeartbeats 4000000 in
theorem getMachine_close (pe px : Addr) (u : FrameMode) (w : World) (hc : w.cell? pe = some (.int .i64 0)) :
    CallsD Tryz.prog 20 #[.pointer (some pe), .pointer (some px)] u w fun e u' w' => u' = u ∧ e = .returned (.tuple #[]) ∧ w = w' := by
  go_enter_d Tryz.func20, Tryz.ntmps20
  go_wp2
  go_end0
  exact ⟨rfl, rfl⟩
set_option maxRecDepth 100000 in
set_option maxHeartbeats 8000000 in
theorem getMachine_drop (ge gx : Nat) (c : Int) (cs : List Value) (u : FrameMode) (w : World) (hne : ge ≠ gx) (h0 : c ≠ 0) (he : w.heap[ge]? = some (.cells #[.int .i64 c] 39 (0, 0))) (hx : w.heap[gx]? = some (.cells ([] ++ (cs ++ [])).toArray 38 (0, 0))) (hl : cs.length = 10) :
    CallsD Tryz.prog 20 #[.pointer (some ⟨ge, 0, none⟩), .pointer (some ⟨gx, 0, none⟩)] u w fun e u' w' => u' = u ∧ e = .returned (.tuple #[]) ∧ w'.heap[gx]? = some (.cells #[.int .i64 0, .int .i64 0, .slice none 0 0, .slice none 0 0, .slice none 0 0, .slice none 0 0, .slice none 0 0, .slice none 0 0, .slice none 0 0, .int .i64 0] 38 (0, 0)) ∧ w'.heap[ge]? = some (.cells #[.int .i64 c] 39 (0, 0)) ∧ (∀ B, B ≤ gx → B ≤ w.heap.size → Below B w w') := by
  have h1 : (c == 0) = false := by simpa using h0
  have h2 : (c != 0) = true := by simpa using h0
  have q0 := cell_blk he 0 _ rfl
  have hbn : Below w.heap.size w (w.alloc (.cells #[.int .i64 0, .int .i64 0, .slice none 0 0, .slice none 0 0, .slice none 0 0, .slice none 0 0, .slice none 0 0, .slice none 0 0, .slice none 0 0, .int .i64 0] 38)) := (Below.refl _ _).alloc (Nat.le_refl _) _
  have hx1 := (hbn.block gx (blk_lt hx)).trans hx
  have he1 := (hbn.block ge (blk_lt he)).trans he
  have hn1 := blk_new w (.cells #[.int .i64 0, .int .i64 0, .slice none 0 0, .slice none 0 0, .slice none 0 0, .slice none 0 0, .slice none 0 0, .slice none 0 0, .slice none 0 0, .int .i64 0] 38)
  obtain ⟨W0, hW0⟩ : ∃ W0, w.alloc (.cells #[.int .i64 0, .int .i64 0, .slice none 0 0, .slice none 0 0, .slice none 0 0, .slice none 0 0, .slice none 0 0, .slice none 0 0, .slice none 0 0, .int .i64 0] 38) = W0 := ⟨_, rfl⟩
  rw [hW0] at hbn hx1 he1 hn1
  obtain ⟨W1, hW1, hw1, _, hbl, hot⟩ := own_stores [] cs [.int .i64 0, .int .i64 0, .slice none 0 0, .slice none 0 0, .slice none 0 0, .slice none 0 0, .slice none 0 0, .slice none 0 0, .slice none 0 0, .int .i64 0] [] hx1 (by decide) (by rw [hl]; rfl)
  have HW0 := Lib.hid hW0
  have HN := Lib.hid (range_blk [] [.int .i64 0, .int .i64 0, .slice none 0 0, .slice none 0 0, .slice none 0 0, .slice none 0 0, .slice none 0 0, .slice none 0 0, .slice none 0 0, .int .i64 0] [] hn1)
  have HT := Lib.hid (show W0.there gx 0 (#[.int .i64 0, .int .i64 0, .slice none 0 0, .slice none 0 0, .slice none 0 0, .slice none 0 0, .slice none 0 0, .slice none 0 0, .slice none 0 0, .int .i64 0] : Array Value).size from by have := there_blk [] cs [] hx1; rwa [hl] at this)
  have HON := Lib.hid (all_oneCell_toArray (kMachine.K_one (kMachine.K_of_M (w := w) (base := 0) (ok := fun _ => True) (mkMMachine ((0, 0, ([], []), ([], []), []), [], [], 0) (Kd.R_nil _ _ _ _ _) (Kd.R_nil _ _ _ _ _) (Kd.R_nil _ _ _ _ _) (Kd.R_nil _ _ _ _ _) (Kd.R_nil _ _ _ _ _) (Kd.R_nil _ _ _ _ _) (Kd.R_nil _ _ _ _ _)))))
  have HW1 := Lib.hid hW1
  have HF := Lib.hid (show W1.heap[gx]? = some (.cells #[.int .i64 0, .int .i64 0, .slice none 0 0, .slice none 0 0, .slice none 0 0, .slice none 0 0, .slice none 0 0, .slice none 0 0, .slice none 0 0, .int .i64 0] 38 (0, 0)) from hw1)
  have HE := Lib.hid ((hot ge hne).trans he1)
  have HBL := Lib.hid (fun B (h1 : B ≤ gx) (h2 : B ≤ w.heap.size) => (hbn.mono h2).trans (hbl B h1))
  clear hx hl hx1 he1 hn1 hW0 hW1 hw1 hbl hot hbn he
  go_enter_d Tryz.func20, Tryz.ntmps20
  go_upto_region 2 with (fail)
  rw [HW0.out]
  go_wp2_with (first | ((with_reducible refine gate_load (t := 38) rfl ?_); refine wpList_load_mid rfl 38 _ rfl w.heap.size 0 rfl [.int .i64 0, .int .i64 0, .slice none 0 0, .slice none 0 0, .slice none 0 0, .slice none 0 0, .slice none 0 0, .slice none 0 0, .slice none 0 0, .int .i64 0] _ HN.out Tryz.underlying38 rfl (by kernel_rfl) ?_) | ((with_reducible refine gate_store (t := 38) rfl ?_); refine wpList_store_mid rfl 38 _ _ rfl gx 0 #[.int .i64 0, .int .i64 0, .slice none 0 0, .slice none 0 0, .slice none 0 0, .slice none 0 0, .slice none 0 0, .slice none 0 0, .slice none 0 0, .int .i64 0] rfl rfl HT.out (by kernel_rfl) HON.out ?_))
  have HW1' : W0.setCells gx 0 [.int .i64 0, .int .i64 0, .slice none 0 0, .slice none 0 0, .slice none 0 0, .slice none 0 0, .slice none 0 0, .slice none 0 0, .slice none 0 0, .int .i64 0] = W1 := HW1.out
  rw [HW1']
  go_end0
  exact ⟨rfl, HF.out, HE.out, HBL.out⟩
set_option maxRecDepth 100000 in
set_option maxHeartbeats 16000000 in
theorem getMachine (A : Option Addr) (c : Nat) {B : Bs} (w : World) (hA : (Kd.int .u8).C w A B.length B) (hc : B.length ≤ c) (hB : IsB B) (hl : B.length < 140737488355328) :
    Calls Tryz.prog 10 #[.slice A B.length c, .func (.func 11) #[] #[]] w (GetTold dMachine kMachine ((0, 0, ([], []), ([], []), []), [], [], 0) w B) := by
  have hmf : ∀ (fn : Fn) (first cap : Array Value) (w : World), (Instr.makeFunc fn first cap).run Tryz.prog w = .ok (.func fn first cap) w := fun _ _ _ _ => rfl
  obtain ⟨W, hW, hb, hx, he, hsz⟩ := get_world w #[.int .i64 0, .int .i64 0, .slice none 0 0, .slice none 0 0, .slice none 0 0, .slice none 0 0, .slice none 0 0, .slice none 0 0, .slice none 0 0, .int .i64 0] 38
  have C1 := Lib.hid (rd_new A B.length c rfl (Kd.C_below hA hb) hB hl)
  have HW := Lib.hid hW
  have HB := Lib.hid hb
  have HX := Lib.hid hx
  have HE := Lib.hid he
  have HA := Lib.hid hA
  have HI := Lib.hid hB
  clear hW hb hx he hA hB hsz
  go_enter_defers Tryz.func10, Tryz.ntmps10
  go_wp2_with fail
  rw [HW.out]
  refine C1.out.mono ?_
  rintro e w1 ⟨gc, A1, c1, rfl, hge, hBA, hb1, _⟩
  obtain ⟨W1, hW1, hS, hbW⟩ := get_start HB.out hge hBA hb1 HA.out hc HI.out hl
  have HW1 := Lib.hid hW1
  have HX1 := Lib.hid ((hbW.block _ (blk_lt HX.out)).trans HX.out)
  have HE1 := Lib.hid ((hbW.block _ (blk_lt HE.out)).trans HE.out)
  have HSZ1 := Lib.hid hS.below.size
  have C2 := Lib.hid (rr_machine hS)
  clear hBA hb1 hW1 hS hbW C1 HW hge HX HE HB HA HI
  go_wp2_with fail
  rw [HW1.out]
  clear HW1
  refine C2.out.mono ?_
  rintro e w2 (⟨x, l', v, hd, rfl, ⟨cs, hM, rfl⟩, S', T'⟩ | ⟨hd, rfl, hbe, T'⟩)
  · have hx2 := T'.keep HX1.out (by decide)
    have he2 := T'.keep HE1.out (by decide)
    have hln : cs.length = 10 := kMachine.K_len (kMachine.K_of_M hM)
    obtain ⟨W3, hW3, hx3, hkp, hbl, hot⟩ := own_stores [] [.int .i64 0, .int .i64 0, .slice none 0 0, .slice none 0 0, .slice none 0 0, .slice none 0 0, .slice none 0 0, .slice none 0 0, .slice none 0 0, .int .i64 0] cs [] hx2 (by decide) (by rw [hln]; rfl)
    have he3 := (hot _ (by omega)).trans he2
    have hM2 := kMachine.M_lower HSZ1.out hM
    have S3 := S'.keeps hkp (hbl w.heap.size (Nat.le_refl _))
    obtain ⟨gc2, A2, c2, A3, c3, hcc, _, hBA2, _, _⟩ := S3.ex
    have q3 := cell_blk hcc 0 _ rfl
    have h9 : cs.toArray.size = 10 := by simpa using hln
    have HTH := Lib.hid (show w2.there w.heap.size 0 cs.toArray.size from by rw [h9]; exact there_blk [] [.int .i64 0, .int .i64 0, .slice none 0 0, .slice none 0 0, .slice none 0 0, .slice none 0 0, .slice none 0 0, .slice none 0 0, .slice none 0 0, .int .i64 0] [] hx2)
    have HINF := Lib.hid (show (Tryz.prog.info? 38).map (·.size) = some cs.toArray.size from by rw [h9]; kernel_rfl)
    have HINL := Lib.hid (show (Tryz.prog.info? 38).map (·.size) = some cs.length from by rw [hln]; kernel_rfl)
    clear h9
    have HON := Lib.hid (all_oneCell_toArray (kMachine.K_one (kMachine.K_of_M hM)))
    have HM3 := Lib.hid (M_only hM2 hx2 (by decide) hot)
    have HV := Lib.hid hW3
    have HX3 := Lib.hid hx3
    have HE3 := Lib.hid he3
    have HLN := Lib.hid hln
    have B3 := Lib.hid S3.below
    have HD := Lib.hid hd
    have CL := Lib.hid (rd_left hBA2)
    clear hx2 he2 hln hW3 hx3 hkp hbl hot he3 hM hM2 S3 S' T' hd hcc hBA2 C2 HX1 HE1
    go_wp2_with ((with_reducible refine gate_store (t := 38) rfl ?_); refine wpList_store_mid rfl 38 _ _ rfl w.heap.size 0 cs.toArray rfl rfl HTH.out HINF.out HON.out ?_; rw [show w2.setCells w.heap.size 0 cs.toArray.toList = W3 from HV.out])
    cases l' with
    | nil =>
      refine (CL.out.mono (R' := fun e w' => W3 = w' ∧ e = .returned (.int .i64 0)) (fun e w' h => h)).mono ?_
      rintro e w3 ⟨rfl, rfl⟩
      clear q3 CL HTH
      go_wp2_with fail
      refine (is_true _).mono ?_
      rintro e w3 ⟨rfl, rfl⟩
      obtain ⟨W4, hW4, hx4, hkp, hbl, hot⟩ := own_stores [] cs cs [] HX3.out (by decide) rfl
      have he4 := (hot _ (by omega)).trans HE3.out
      obtain ⟨W5, hW5, he5, _, hbl5, hot5⟩ := own_store he4 (by decide) 0 (.int .i64 0)
      have hx5 := (hot5 w.heap.size (by omega)).trans hx4
      have q5 := cell_blk he4 0 _ rfl
      have f5 := frozen_at he4 0
      have HV4 := Lib.hid hW4
      have HV5 := Lib.hid hW5
      have HX5 := Lib.hid (show W5.heap[w.heap.size]? = some (.cells cs.toArray 38 (0, 0)) from by simpa using hx5)
      have HE5 := Lib.hid (show W5.heap[w.heap.size + 1]? = some (.cells #[.int .i64 0] 39 (0, 0)) from he5)
      have HM5 := Lib.hid (M_only (M_only HM3.out HX3.out (by decide) hot) he4 (by decide) hot5)
      have B5 := Lib.hid ((B3.out.trans (hbl w.heap.size (Nat.le_refl _))).trans (hbl5 w.heap.size (by omega)))
      have HTH := Lib.hid (show W3.there w.heap.size 0 cs.toArray.size from by have := there_blk [] cs [] HX3.out; simpa using this)
      have HRG := Lib.hid (range_blk [] cs [] HX3.out)
      clear hW4 hx4 hkp hbl hot he4 hW5 he5 hbl5 hot5 hx5
      go_wp2_with (first | ((with_reducible refine gate_load (t := 38) rfl ?_); refine wpList_load_mid rfl 38 _ rfl w.heap.size 0 rfl cs _ HRG.out Tryz.underlying38 rfl HINL.out ?_) | ((with_reducible refine gate_store (t := 38) rfl ?_); refine wpList_store_mid rfl 38 _ _ rfl w.heap.size 0 cs.toArray rfl rfl HTH.out HINF.out HON.out ?_; rw [show W3.setCells w.heap.size 0 cs.toArray.toList = W4 from HV4.out]))
      rw [HV5.out]
      refine leaves_cons (f := 21) (args := #[.pointer (some ⟨w.heap.size + 1, 0, none⟩)]) (by simp) (by simp [go_sem]) ?_
      refine (caught_idle ⟨w.heap.size + 1, 0, none⟩ _).mono ?_
      rintro e u' w'' ⟨rfl, rfl, rfl⟩
      refine leaves_cons (f := 20) (args := #[.pointer (some ⟨w.heap.size + 1, 0, none⟩), .pointer (some ⟨w.heap.size, 0, none⟩)]) (by simp [settle]) (by simp [go_sem]) ?_
      refine (getMachine_close ⟨w.heap.size + 1, 0, none⟩ ⟨w.heap.size, 0, none⟩ _ _ (cell_blk HE5.out 0 _ rfl)).mono ?_
      rintro e u' w'' ⟨rfl, rfl, rfl⟩
      refine ⟨_, results_cell2 rfl _ _ w.heap.size (w.heap.size + 1) 38 cs.toArray (0, 0) _ (.int .i64 0) rfl HX5.out Tryz.underlying38 rfl HINF.out rfl (load_errno HE5.out), ?_⟩
      exact ⟨x, cs, 0, rfl, HM5.out, B5.out, .inl ⟨rfl, HD.out⟩⟩
    | cons b l' =>
      obtain ⟨m, hm⟩ : ∃ m, (b :: l').length = m := ⟨_, rfl⟩
      have hm1 : 1 ≤ m := by rw [← hm]; simp
      refine (CL.out.mono (R' := fun e w' => W3 = w' ∧ e = .returned (.int .i64 (m : Int))) (fun e w' h => by rw [← hm]; exact h)).mono ?_
      rintro e w3 ⟨rfl, rfl⟩
      have k1 : ((m : Int) == 0) = false := by simp; omega
      have k2 : decide ((m : Int) = 0) = false := decide_eq_false (by omega)
      clear q3 CL HTH hm
      go_wp2_with fail
      refine (is_false _).mono ?_
      rintro e w3 ⟨rfl, rfl⟩
      have hbad : ∀ y, dMachine B ≠ some (y, []) := fun y hy => by rw [HD.out] at hy; cases hy
      have q := cell_blk HE3.out 0 _ rfl
      have fz := frozen_at HE3.out 0
      obtain ⟨W6, hW6, hw6, _, hbl6, hot6⟩ := own_store HE3.out (by decide) 0 (.int .i64 11)
      have HE6 := Lib.hid (show W6.heap[w.heap.size + 1]? = some (.cells #[.int .i64 11] 39 (0, 0)) from hw6)
      have HX6 := Lib.hid ((hot6 w.heap.size (by omega)).trans HX3.out)
      have HW6 := Lib.hid hW6
      have HB6 := Lib.hid (B3.out.trans (hbl6 w.heap.size (by omega)))
      have HBAD := Lib.hid hbad
      have Q2 := Lib.hid q
      have F2 := Lib.hid fz
      clear hW6 hw6 hbl6 hot6 q fz hbad
      simp only [thrown]
      refine leaves_cons (f := 21) (args := #[.pointer (some ⟨w.heap.size + 1, 0, none⟩)]) (by simp) (by simp [go_sem]) ?_
      refine (caught_thrown ⟨w.heap.size + 1, 0, none⟩ 0 11 _ Q2.out F2.out).mono ?_
      rintro e u' w'' ⟨rfl, rfl, rfl⟩
      rw [HW6.out]
      refine leaves_cons (f := 20) (args := #[.pointer (some ⟨w.heap.size + 1, 0, none⟩), .pointer (some ⟨w.heap.size, 0, none⟩)]) (by simp [settle]) (by simp [go_sem]) ?_
      refine (getMachine_drop (w.heap.size + 1) w.heap.size 11 cs _ _ (by omega) (by decide) HE6.out HX6.out HLN.out).mono ?_
      rintro e u' w'' ⟨rfl, rfl, k1, k2, k3⟩
      refine ⟨_, results_cell2 rfl _ _ w.heap.size (w.heap.size + 1) 38 #[.int .i64 0, .int .i64 0, .slice none 0 0, .slice none 0 0, .slice none 0 0, .slice none 0 0, .slice none 0 0, .slice none 0 0, .slice none 0 0, .int .i64 0] (0, 0) _ (.int .i64 11) rfl k1 Tryz.underlying38 rfl (by kernel_rfl) rfl (load_errno k2), ?_⟩
      exact ⟨((0, 0, ([], []), ([], []), []), [], [], 0), [.int .i64 0, .int .i64 0, .slice none 0 0, .slice none 0 0, .slice none 0 0, .slice none 0 0, .slice none 0 0, .slice none 0 0, .slice none 0 0, .int .i64 0], 11, rfl, (mkMMachine ((0, 0, ([], []), ([], []), []), [], [], 0) (Kd.R_nil _ _ _ _ _) (Kd.R_nil _ _ _ _ _) (Kd.R_nil _ _ _ _ _) (Kd.R_nil _ _ _ _ _) (Kd.R_nil _ _ _ _ _) (Kd.R_nil _ _ _ _ _) (Kd.R_nil _ _ _ _ _)), HB6.out.trans (k3 _ (Nat.le_refl _) HB6.out.size), .inr ⟨rfl, rfl, HBAD.out⟩⟩
  · have hbad : ∀ y, dMachine B ≠ some (y, []) := fun y hy => by rw [hd] at hy; cases hy
    have HX2 := Lib.hid (T'.keep HX1.out (by decide))
    have HE2 := Lib.hid (T'.keep HE1.out (by decide))
    have B2 := Lib.hid hbe
    clear T' hd hbe C2 HX1 HE1
    have q := cell_blk HE2.out 0 _ rfl
    have fz := frozen_at HE2.out 0
    obtain ⟨W6, hW6, hw6, _, hbl6, hot6⟩ := own_store HE2.out (by decide) 0 (.int .i64 11)
    have HE6 := Lib.hid (show W6.heap[w.heap.size + 1]? = some (.cells #[.int .i64 11] 39 (0, 0)) from hw6)
    have HX6 := Lib.hid ((hot6 w.heap.size (by omega)).trans HX2.out)
    have HW6 := Lib.hid hW6
    have HB6 := Lib.hid (B2.out.trans (hbl6 w.heap.size (by omega)))
    have HBAD := Lib.hid hbad
    have Q2 := Lib.hid q
    have F2 := Lib.hid fz
    clear hW6 hw6 hbl6 hot6 q fz hbad
    simp only [thrown]
    refine leaves_cons (f := 21) (args := #[.pointer (some ⟨w.heap.size + 1, 0, none⟩)]) (by simp) (by simp [go_sem]) ?_
    refine (caught_thrown ⟨w.heap.size + 1, 0, none⟩ 0 11 _ Q2.out F2.out).mono ?_
    rintro e u' w'' ⟨rfl, rfl, rfl⟩
    rw [HW6.out]
    refine leaves_cons (f := 20) (args := #[.pointer (some ⟨w.heap.size + 1, 0, none⟩), .pointer (some ⟨w.heap.size, 0, none⟩)]) (by simp [settle]) (by simp [go_sem]) ?_
    refine (getMachine_drop (w.heap.size + 1) w.heap.size 11 [.int .i64 0, .int .i64 0, .slice none 0 0, .slice none 0 0, .slice none 0 0, .slice none 0 0, .slice none 0 0, .slice none 0 0, .slice none 0 0, .int .i64 0] _ _ (by omega) (by decide) HE6.out HX6.out rfl).mono ?_
    rintro e u' w'' ⟨rfl, rfl, k1, k2, k3⟩
    refine ⟨_, results_cell2 rfl _ _ w.heap.size (w.heap.size + 1) 38 #[.int .i64 0, .int .i64 0, .slice none 0 0, .slice none 0 0, .slice none 0 0, .slice none 0 0, .slice none 0 0, .slice none 0 0, .slice none 0 0, .int .i64 0] (0, 0) _ (.int .i64 11) rfl k1 Tryz.underlying38 rfl (by kernel_rfl) rfl (load_errno k2), ?_⟩
    exact ⟨((0, 0, ([], []), ([], []), []), [], [], 0), [.int .i64 0, .int .i64 0, .slice none 0 0, .slice none 0 0, .slice none 0 0, .slice none 0 0, .slice none 0 0, .slice none 0 0, .slice none 0 0, .int .i64 0], 11, rfl, (mkMMachine ((0, 0, ([], []), ([], []), []), [], [], 0) (Kd.R_nil _ _ _ _ _) (Kd.R_nil _ _ _ _ _) (Kd.R_nil _ _ _ _ _) (Kd.R_nil _ _ _ _ _) (Kd.R_nil _ _ _ _ _) (Kd.R_nil _ _ _ _ _) (Kd.R_nil _ _ _ _ _)), HB6.out.trans (k3 _ (Nat.le_refl _) HB6.out.size), .inr ⟨rfl, rfl, HBAD.out⟩⟩
set_option maxRecDepth 100000 in
set_option maxHeartbeats 16000000 in
theorem wire_GetMachine (A : Option Addr) (c : Nat) {B : Bs} (w : World) (hA : (Kd.int .u8).C w A B.length B) (hc : B.length ≤ c) (hB : IsB B) (hl : B.length < 140737488355328) :
    Calls Tryz.prog 5 #[.slice A B.length c] w (GetTold dMachine kMachine ((0, 0, ([], []), ([], []), []), [], [], 0) w B) := by
  have hb0 : Below w.heap.size w (w.alloc (.cells #[.int .i64 0, .int .i64 0, .slice none 0 0, .slice none 0 0, .slice none 0 0, .slice none 0 0, .slice none 0 0, .slice none 0 0, .slice none 0 0, .int .i64 0] 38)) := (Below.refl _ _).alloc (Nat.le_refl _) _
  have hx0 := blk_new w (.cells #[.int .i64 0, .int .i64 0, .slice none 0 0, .slice none 0 0, .slice none 0 0, .slice none 0 0, .slice none 0 0, .slice none 0 0, .slice none 0 0, .int .i64 0] 38)
  obtain ⟨W0, hW0⟩ : ∃ W0, w.alloc (.cells #[.int .i64 0, .int .i64 0, .slice none 0 0, .slice none 0 0, .slice none 0 0, .slice none 0 0, .slice none 0 0, .slice none 0 0, .slice none 0 0, .int .i64 0] 38) = W0 := ⟨_, rfl⟩
  rw [hW0] at hb0 hx0
  have C1 := Lib.hid (getMachine A c W0 (Kd.C_below hA hb0) hc hB hl)
  have HW := Lib.hid hW0
  have HB0 := Lib.hid hb0
  have HX0 := Lib.hid hx0
  clear hA hB hb0 hx0 hW0
  go_enter Tryz.func5, Tryz.ntmps5
  go_wp2_with fail
  rw [HW.out]
  refine C1.out.mono ?_
  rintro e w1 ⟨x, cs, k, rfl, hM, hb, hh⟩
  have hln : cs.length = 10 := kMachine.K_len (kMachine.K_of_M hM)
  have h9 : cs.toArray.size = 10 := by simpa using hln
  have hx1 := (hb.block _ (blk_lt HX0.out)).trans HX0.out
  obtain ⟨W3, hW3, hx3, _, hbl, hot⟩ := own_stores [] [.int .i64 0, .int .i64 0, .slice none 0 0, .slice none 0 0, .slice none 0 0, .slice none 0 0, .slice none 0 0, .slice none 0 0, .slice none 0 0, .int .i64 0] cs [] hx1 (by decide) (by rw [hln]; rfl)
  have HTH := Lib.hid (show w1.there w.heap.size 0 cs.toArray.size from by rw [h9]; exact there_blk [] [.int .i64 0, .int .i64 0, .slice none 0 0, .slice none 0 0, .slice none 0 0, .slice none 0 0, .slice none 0 0, .slice none 0 0, .slice none 0 0, .int .i64 0] [] hx1)
  have HINF := Lib.hid (show (Tryz.prog.info? 38).map (·.size) = some cs.toArray.size from by rw [h9]; kernel_rfl)
  have HON := Lib.hid (all_oneCell_toArray (kMachine.K_one (kMachine.K_of_M hM)))
  have HM := Lib.hid (M_only (kMachine.M_lower HB0.out.size hM) hx1 (by decide) hot)
  have HB := Lib.hid ((HB0.out.trans (hb.mono HB0.out.size)).trans (hbl w.heap.size (Nat.le_refl _)))
  have HX3 := Lib.hid (show W3.heap[w.heap.size]? = some (.cells cs.toArray 38 (0, 0)) from by simpa using hx3)
  have HV := Lib.hid hW3
  have HH := Lib.hid hh
  clear hM hb hh C1 hln h9 hx1 hW3 hx3 hbl hot HW
  go_wp2_with ((with_reducible refine gate_store (t := 38) rfl ?_); refine wpList_store_mid rfl 38 _ _ rfl w.heap.size 0 cs.toArray rfl rfl HTH.out HINF.out HON.out ?_; rw [show w1.setCells w.heap.size 0 cs.toArray.toList = W3 from HV.out])
  refine bodyPost_ret (v := .tuple #[.agg cs.toArray, .int .i64 k]) (results_ct (p := 2) (u := 3) rfl _ _ w.heap.size 38 cs.toArray (0, 0) _ rfl HX3.out Tryz.underlying38 rfl HINF.out) rfl ?_
  exact ⟨x, cs, k, rfl, HM.out, HB.out, HH.out⟩
end Go.Proofs.YtoomcdgnnibjlaaGreat.Wr
-- WRITTEN BY hookprint.py (a program of this session, over the kit's print.py): not typed by hand
namespace Go.Proofs.YtoomcdgnnibjlaaGreat.PA
open Go.RowKit Go.Proofs.YtoomcdgnnibjlaaGreatW.PrintWords Go.Proofs.YtoomcdgnnibjlaaGreatW.PrintLast Go.Proofs.YtoomcdgnnibjlaaGreatW.PrintMore
attribute [local go_sem] max2_int min2_int max_two min_two max_three min_three max_four min_four   -- for this text's walks alone
set_option linter.unusedVariables false
set_option linter.unusedSimpArgs false

/-! ### folkmootref01_Of: function 96 -/
def folkmootref01_Of.l0 : Nat → List Int → Int → Int → Option (Int)
  | 0, _, _, _ => none
  | k + 1, x0, x3, x4 => if x4 ≥ 0 then (if 0 ≤ x4 then (if x4 < (x0.length : Int) then (folkmootref01_Of.l0 k x0 (IntKind.u64.wrap ((IntKind.u64.wrap (256 * x3)) + (IntKind.u64.wrap (rd x0 x4)))) (wrap64 (x4 - 1))) else (none)) else (none)) else (some x3)
def folkmootref01_Of.f (k : Nat) (l0 : List Int) : Option (Int) := folkmootref01_Of.l0 k l0 0 (wrap64 ((l0.length : Int) - 1))
theorem folkmootref01_Of.mono_l : ∀ k, (∀ y0 y1 y2, LeO (folkmootref01_Of.l0 k y0 y1 y2) (folkmootref01_Of.l0 (k + 1) y0 y1 y2))
  | 0 => fun _ _ _ r h => by simp [folkmootref01_Of.l0] at h
  | k + 1 => by
    have ih0 := folkmootref01_Of.mono_l k
    · intro y0 y1 y2
      unfold folkmootref01_Of.l0
      repeat' first
      | (with_reducible exact ih0 _ _ _)
      | (with_reducible exact LeO.refl _)
      | (with_reducible exact LeO.none _)
      | (with_reducible refine LeO.ite ?_ ?_)
      | (with_reducible refine LeO.bind ?_ (fun _ => ?_))
      | exact ih0 _ _ _
      | exact LeO.none _
      | refine LeO.ite ?_ ?_
      | refine LeO.bind ?_ (fun _ => ?_)
theorem folkmootref01_Of.mono : ∀ a0 k, LeO (folkmootref01_Of.f k a0) (folkmootref01_Of.f (k + 1) a0) := by
  intro a0 k
  have ih0 := folkmootref01_Of.mono_l k
  unfold folkmootref01_Of.f
  repeat' first
      | (with_reducible exact ih0 _ _ _)
      | (with_reducible exact LeO.refl _)
      | (with_reducible exact LeO.none _)
      | (with_reducible refine LeO.ite ?_ ?_)
      | (with_reducible refine LeO.bind ?_ (fun _ => ?_))
      | exact ih0 _ _ _
      | exact LeO.none _
      | refine LeO.ite ?_ ?_
      | refine LeO.bind ?_ (fun _ => ?_)
set_option maxHeartbeats 8000000 in
set_option maxRecDepth 100000 in
theorem folkmootref01_Of.calls (k : Nat) (A0 : Option Addr) (c0 : Nat) (l0 : List Int) (r : Int) (w : World) (hr0 : Kd.C (Kd.int .u8) w A0 l0.length l0) (hc0 : l0.length ≤ c0) (h : folkmootref01_Of.f k l0 = some r) :
    Calls Tryz.prog 96 #[.slice A0 l0.length c0] w fun e w' => e = .returned (.int .u64 r) ∧ Drawn0 w w' := by
  have HR0 := Aside0.mk hr0
  have HC0 := Aside0.mk hc0
  clear hr0 hc0
  have H : (folkmootref01_Of.l0 k l0 0 (wrap64 ((l0.length : Int) - 1))) = some r := h
  clear h
  have H' := Aside0.mk H
  clear H
  go_enter Tryz.func96, Tryz.ntmps96
  go_wp2
  go_loopg [3, 4] k (fun kq v3 v4 w' => ∃ (x3_1 : Int) (x4_1 : Int), v3 = .int .u64 x3_1 ∧ v4 = .int .i64 x4_1 ∧ Aside0 (folkmootref01_Of.l0 kq l0 x3_1 x4_1 = some r) ∧ Aside0 (kq ≤ k) ∧ Drawn0 w w')
  case atStart => exact ⟨(0), (wrap64 ((l0.length : Int) - 1)), (by first | rfl | (simp; done) | (simp [*]; done)), (by first | rfl | (simp; done) | (simp [*]; done)), H', ⟨Nat.le_refl _⟩, by repeat (first | exact Drawn0.refl _ | apply Drawn0.step)⟩
  case round =>
    clear H'
    obtain ⟨x3_1, x4_1, rfl, rfl, HA, HK1, ⟨m1, rfl⟩⟩ := hrel
    cases gk with
    | zero => exact absurd HA.out (by simp [folkmootref01_Of.l0])
    | succ k1 =>
      have H := HA.out
      clear HA
      simp only [folkmootref01_Of.l0] at H
      by_cases c2 : x4_1 ≥ 0
      · rw [if_pos c2] at H
        have c2b0 : decide (0 ≤ x4_1) = true := decide_eq_true c2
        clear c2
        by_cases c3 : 0 ≤ x4_1
        · rw [if_pos c3] at H
          have c3b0 : decide (0 ≤ x4_1) = true := decide_eq_true c3
          clear c3
          by_cases c4 : x4_1 < (l0.length : Int)
          · rw [if_pos c4] at H
            have c4b0 : decide (x4_1 < (l0.length : Int)) = true := decide_eq_true c4
            clear c4
            have H' := Aside0.mk H
            clear H
            have p114 : 0 ≤ (x4_1 : Int) := of_decide_eq_true (by first | (with_reducible assumption) | assumption)
            have q114 : x4_1 < (l0.length : Int) := of_decide_eq_true (by first | (with_reducible assumption) | assumption)
            obtain ⟨ad114, e114, hx114_0⟩ := Kd.at_int HR0.out x4_1 p114 q114
            cases e114
            replace p114 := eq_true p114
            replace q114 := eq_true q114
            go_wp2
            go_roundg k1
            case measure => have := HK1.out; omega
            case rel => exact ⟨(IntKind.u64.wrap ((IntKind.u64.wrap (256 * x3_1)) + (IntKind.u64.wrap (rd l0 x4_1)))), (wrap64 (x4_1 - 1)), (by first | rfl | (simp; done) | (simp [*]; done)), (by first | rfl | (simp; done) | (simp [*]; done)), H', ⟨by have := HK1.out; omega⟩, by repeat (first | exact Drawn0.refl _ | apply Drawn0.step)⟩
          · rw [if_neg c4] at H
            exact absurd H (by simp)
        · rw [if_neg c3] at H
          exact absurd H (by simp)
      · rw [if_neg c2] at H
        have c2b0 : decide (0 ≤ x4_1) = false := decide_eq_false c2
        clear c2
        obtain rfl := Option.some.inj H
        go_wp2
        go_ret
        exact ⟨by first | rfl | (simp; done) | (simp [*]; done), by repeat (first | exact Drawn0.refl _ | apply Drawn0.step)⟩

end Go.Proofs.YtoomcdgnnibjlaaGreat.PA
/- The document's reader of bytes: what is left, numbers, whole numbers, texts. -/
namespace Go.Proofs.YtoomcdgnnibjlaaGreat.Wr
open Go.RowKit Go.Proofs.YtoomcdgnnibjlaaGreatW.PrintWords Go.Proofs.YtoomcdgnnibjlaaGreatW.PrintLast Go.Proofs.YtoomcdgnnibjlaaGreat.PA
set_option linter.unusedVariables false
set_option linter.unusedSimpArgs false
attribute [local go_sem ↓] Go.wp_at_zero Go.wp_at_succ

@[reducible] def SC : List Nat := [106, 108]
/-- The document's reader: at g1 the bytes and how many have been read, at g2 the reader and whether it is bad. -/
structure CAt (w0 w : World) (g1 g2 : Nat) (A : Option Addr) (c : Nat) (B : Bs) (p : Nat) (bad : Bool) : Prop where
  b1 : w0.heap.size ≤ g1
  b2 : w0.heap.size ≤ g2
  below : Below w0.heap.size w0 w
  c1 : w.heap[g1]? = some (.cells #[.slice A B.length c, .int .i64 p] 106 (0, 0))
  c2 : w.heap[g2]? = some (.cells #[.pointer (some ⟨g1, 0, none⟩), .bool bad] 108 (0, 0))
  row : (Kd.int .u8).C w0 A B.length B
  cap : B.length ≤ c
  isB : IsB B
  le : p ≤ B.length
theorem CAt.now {w0 w : World} {g1 g2 c p : Nat} {A : Option Addr} {B : Bs} {bad : Bool} (h : CAt w0 w g1 g2 A c B p bad) : (Kd.int .u8).C w A B.length B := Kd.C_below h.row h.below
theorem CAt.ne {w0 w : World} {g1 g2 c p : Nat} {A : Option Addr} {B : Bs} {bad : Bool} (h : CAt w0 w g1 g2 A c B p bad) : g1 ≠ g2 := fun e => by
  have h1 := h.c1
  rw [e, h.c2] at h1
  cases h1
theorem CAt.stays {w0 w w' : World} {g1 g2 c p : Nat} {A : Option Addr} {B : Bs} {bad : Bool} (h : CAt w0 w g1 g2 A c B p bad) (hb : Below w.heap.size w w') : CAt w0 w' g1 g2 A c B p bad :=
  ⟨h.b1, h.b2, h.below.trans (hb.mono h.below.size), (hb.block _ (blk_lt h.c1)).trans h.c1, (hb.block _ (blk_lt h.c2)).trans h.c2, h.row, h.cap, h.isB, h.le⟩
/-- A write to a block of the call's own, of another type. -/
theorem CAt.other {w0 w W : World} {g1 g2 c p b t : Nat} {A : Option Addr} {B : Bs} {bad : Bool} {cs : Array Value} {fr : Nat × Nat} (h : CAt w0 w g1 g2 A c B p bad) (hb : w.heap[b]? = some (.cells cs t fr)) (ht : t ∉ SC)
    (hot : ∀ k, k ≠ b → W.heap[k]? = w.heap[k]?) (hbl : Below w0.heap.size w W) : CAt w0 W g1 g2 A c B p bad := by
  have n1 : g1 ≠ b := fun e => by
    have h1 := h.c1
    rw [e, hb] at h1
    cases h1
    exact ht (by simp)
  have n2 : g2 ≠ b := fun e => by
    have h1 := h.c2
    rw [e, hb] at h1
    cases h1
    exact ht (by simp)
  exact ⟨h.b1, h.b2, h.below.trans hbl, (hot _ n1).trans h.c1, (hot _ n2).trans h.c2, h.row, h.cap, h.isB, h.le⟩
/-- So many more have been read. -/
theorem CAt.moved {w0 w : World} {g1 g2 c p : Nat} {A : Option Addr} {B : Bs} {bad : Bool} (h : CAt w0 w g1 g2 A c B p bad) (p' : Nat) (hp : p' ≤ B.length) (i : Int) (hi : i = (p' : Int)) :
    CAt w0 (w.setCell ⟨g1, 1, none⟩ (.int .i64 i)) g1 g2 A c B p' bad ∧ Stp SC w (w.setCell ⟨g1, 1, none⟩ (.int .i64 i)) := by
  subst hi
  exact ⟨⟨h.b1, h.b2, h.below.setCell (p := ⟨g1, 1, none⟩) h.b1 _, by rw [blk_set h.c1]; rfl, blk_far h.c2 (p := ⟨g1, 1, none⟩) (fun e => h.ne e.symm) _, h.row, h.cap, h.isB, hp⟩, Stp.set (i := 1) h.c1 (by simp) _⟩
theorem CAt.turned {w0 w : World} {g1 g2 c p : Nat} {A : Option Addr} {B : Bs} {bad : Bool} (h : CAt w0 w g1 g2 A c B p bad) (b' : Bool) :
    CAt w0 (w.setCell ⟨g2, 1, none⟩ (.bool b')) g1 g2 A c B p b' ∧ Stp SC w (w.setCell ⟨g2, 1, none⟩ (.bool b')) :=
  ⟨⟨h.b1, h.b2, h.below.setCell (p := ⟨g2, 1, none⟩) h.b2 _, blk_far h.c1 (p := ⟨g2, 1, none⟩) (fun e => h.ne e) _, by rw [blk_set h.c2]; rfl, h.row, h.cap, h.isB, h.le⟩, Stp.set (i := 1) h.c2 (by simp) _⟩

theorem p256 (m : Nat) (h : m ≤ 7) : (256 : Int) ^ m ≤ 72057594037927936 := by
  rcases (show m = 0 ∨ m = 1 ∨ m = 2 ∨ m = 3 ∨ m = 4 ∨ m = 5 ∨ m = 6 ∨ m = 7 by omega) with rfl | rfl | rfl | rfl | rfl | rfl | rfl | rfl <;> decide
theorem of_l0 (l : Bs) (h : IsB l) (hl : l.length ≤ 8) : ∀ j, j ≤ l.length → ∀ k, j < k → folkmootref01_Of.l0 k l (of (l.drop j)) (wrap64 ((j : Int) - 1)) = some (of l) := by
  intro j
  induction j with
  | zero =>
    intro _ k hk
    obtain ⟨k, rfl⟩ : ∃ q, k = q + 1 := ⟨k - 1, by omega⟩
    have hw : wrap64 (((0 : Nat) : Int) - 1) = -1 := by unfold wrap64; omega
    unfold folkmootref01_Of.l0
    rw [hw, if_neg (by omega)]
    rfl
  | succ j ih =>
    intro hj k hk
    obtain ⟨k, rfl⟩ : ∃ q, k = q + 1 := ⟨k - 1, by omega⟩
    have hw : wrap64 (((j + 1 : Nat) : Int) - 1) = (j : Int) := by unfold wrap64; omega
    have hd : l.drop j = l[j] :: l.drop (j + 1) := List.drop_eq_getElem_cons (by omega)
    have ho : of (l.drop j) = l[j] + 256 * of (l.drop (j + 1)) := by rw [hd]; rfl
    have hr := of_range (l.drop (j + 1)) (fun q hq => h q (List.mem_of_mem_drop hq))
    have hb := h l[j] (List.getElem_mem (by omega))
    have hp := p256 (l.drop (j + 1)).length (by rw [List.length_drop]; omega)
    have hrd : rd l (j : Int) = l[j] := by simp [rd, List.getElem?_eq_getElem (show j < l.length by omega)]
    unfold folkmootref01_Of.l0
    rw [hw, if_pos (by omega), if_pos (by omega), if_pos (by omega), hrd]
    have hv : IntKind.u64.wrap (IntKind.u64.wrap (256 * of (l.drop (j + 1))) + IntKind.u64.wrap l[j]) = of (l.drop j) := by
      rw [IntKind.wrap_u64, IntKind.wrap_u64, IntKind.wrap_u64, ho]
      omega
    rw [hv]
    exact ih (by omega) k (by omega)
theorem of_f (l : Bs) (h : IsB l) (hl : l.length ≤ 8) : folkmootref01_Of.f (l.length + 1) l = some (of l) := by
  have h1 := of_l0 l h hl l.length (Nat.le_refl _) (l.length + 1) (by omega)
  rw [List.drop_length] at h1
  exact h1

theorem mid_cut2 (k1 k2 : IntKind) (j1 j2 : Int) (lo hi : Nat) {w : World} {A : Option Addr} {c : Nat} {l : Bs} (hj1 : j1 = (lo : Int)) (hj2 : j2 = (hi : Int)) (h : (Kd.int .u8).C w A l.length l) (hl : lo ≤ hi) (hm : hi ≤ l.length) (hc : l.length ≤ c) :
    ∃ (A' : Option Addr) (c' : Nat), (∀ W : World, (Instr.slice 22 (.slice A l.length c) (some (.int k1 j1)) (some (.int k2 j2)) none).run Tryz.prog W = .ok (.slice A' (hi - lo) c') W) ∧ (Kd.int .u8).C w A' (hi - lo) ((l.take hi).drop lo) ∧ hi - lo ≤ c' := by
  obtain ⟨i, hi', hs⟩ := infoBs
  have h1 := cut_mid (P := Tryz.prog) 22 5 k1 k2 Tryz.underlying22 hi' 1 hs A l.length c j1 j2 (by omega) (by omega) (by omega) hc
  rw [show j1.toNat = lo by omega, show j2.toNat = hi by omega] at h1
  have h2 := Kd.C_mid (c := c) h hl hm hc
  have h3 : ((l.take hi).drop lo).length = hi - lo := by rw [List.length_drop, List.length_take]; omega
  rw [h3] at h2
  exact ⟨_, _, h1, h2, by omega⟩

set_option maxRecDepth 100000 in
set_option maxHeartbeats 4000000 in
theorem cut_left {w0 w : World} {g1 g2 c p : Nat} {A : Option Addr} {B : Bs} {bad : Bool} (h : CAt w0 w g1 g2 A c B p bad) :
    Calls Tryz.prog 34 #[.pointer (some ⟨g1, 0, none⟩)] w fun e w' => e = .returned (.int .i64 ((B.length : Int) - (p : Int))) ∧ Below w.heap.size w w' := by
  have q0 := cell_blk h.c1 0 _ rfl
  have q1 := cell_blk h.c1 1 _ rfl
  have hx : B.length ≤ 9223372036854775807 := h.row.2.1
  have hle := h.le
  have hw : wrap64 ((B.length : Int) - (p : Int)) = (B.length : Int) - (p : Int) := by unfold wrap64; omega
  clear h
  go_enter Tryz.func34, Tryz.ntmps34
  go_wp2
  go_region
  all_goals (try go_wp2)
  all_goals (try go_ret)
  all_goals exact ⟨by simp [hw], by repeat (first | (with_reducible exact Below.refl _ _) | apply pw_below_drewN | apply below_drew1 | exact Below.refl _ _)⟩
set_option maxRecDepth 100000 in
set_option maxHeartbeats 4000000 in
theorem cut_small {w0 w : World} {g1 g2 c p : Nat} {A : Option Addr} {B : Bs} {bad : Bool} (N : Int) (n : Nat) (hN : N = (n : Int)) (hn : n ≤ 8) (h : CAt w0 w g1 g2 A c B p bad) (hp : p + n ≤ B.length) :
    Calls Tryz.prog 82 #[.pointer (some ⟨g1, 0, none⟩), .int .i64 N] w fun e w' => e = .returned (.int .u64 (of ((B.drop p).take n))) ∧ Below w.heap.size w w' := by
  subst hN
  have q0 := cell_blk h.c1 0 _ rfl
  have q1 := cell_blk h.c1 1 _ rfl
  have hx : B.length ≤ 9223372036854775807 := h.row.2.1
  have hw0 : wrap64 ((p : Int) + (n : Int)) = (p : Int) + (n : Int) := by unfold wrap64; omega
  have hw : IntKind.i64.wrap ((p : Int) + (n : Int)) = (p : Int) + (n : Int) := by rw [IntKind.wrap_i64]; omega
  have hw2 : (p : Int) + (n : Int) ≤ (c : Int) := by have := h.cap; omega
  have hw3 : (0 : Int) ≤ (p : Int) + (n : Int) := by omega
  have hw4 : ((p : Int) + (n : Int)).toNat = p + n := by omega
  have hC0 := Kd.C_mid (c := c) h.now (show p ≤ p + n by omega) hp h.cap
  have hl : ((B.take (p + n)).drop p) = (B.drop p).take n := by rw [List.drop_take]; congr 1; omega
  have hll : ((B.drop p).take n).length = n := by rw [List.length_take, List.length_drop]; omega
  rw [hl] at hC0
  have hC : (Kd.int .u8).C w (if c = p then A else A.map fun x => x.add p) ((B.drop p).take n).length ((B.drop p).take n) := by
    simpa [show (Kd.int .u8).sz = 1 from rfl] using hC0
  have C1 := Lib.hid (fun W hb => folkmootref01_Of.calls _ (if c = p then A else A.map fun x => x.add p) (c - p) _ _ W (Kd.C_below (w1 := W) hC hb) (by rw [hll]; have := h.cap; omega) (of_f _ (fun q hq => h.isB q (List.mem_of_mem_drop (List.mem_of_mem_take hq))) (by rw [hll]; exact hn)))
  rw [hll] at C1
  clear hC0
  clear hC hl h
  go_enter Tryz.func82, Tryz.ntmps82
  go_wp2
  go_region_law
    (first | ((refine goes_ Tryz.func96 (by kernel_rfl) rfl #[.slice (if c = p then A else A.map fun x => x.add p) n (c - p)] (by rfl) rfl rfl (by (try simp only [List.map_toArray, List.map_cons, List.map_nil]); rfl) ?_); refine (C1.out _ (by repeat (first | (with_reducible exact Below.refl _ _) | apply pw_below_drewN | apply below_drew1 | exact Below.refl _ _))).mono ?_; rintro e w1 ⟨rfl, hd⟩; refine ⟨_, rfl, ?_⟩))
  all_goals (try go_wp2)
  all_goals go_ret
  all_goals exact ⟨rfl, by
    have h1 := hd.below
    refine Below.trans ?_ h1
    repeat (first | (with_reducible exact Below.refl _ _) | apply pw_below_drewN | apply below_drew1 | exact Below.refl _ _)⟩
/-- What a read of the bytes by the document's reader does. -/
def NDone {α : Type} (d : Dc α) (mk : α → Value) (w0 : World) (g1 g2 : Nat) (A : Option Addr) (c : Nat) (B : Bs) (w : World) (p : Nat) (bad : Bool) : Ending → World → Prop :=
  fun e w' => ∃ x k p', e = .returned (.tuple #[mk x, .int .i64 k]) ∧ CAt w0 w' g1 g2 A c B p' bad ∧ Stp SC w w' ∧ (k = 0 ∧ d (B.drop p) = some (x, B.drop p') ∨ k ≠ 0 ∧ d (B.drop p) = none)
set_option maxRecDepth 100000 in
set_option maxHeartbeats 8000000 in
theorem cut_Number {w0 w : World} {g1 g2 c p : Nat} {A : Option Addr} {B : Bs} {bad : Bool} (h : CAt w0 w g1 g2 A c B p bad) :
    Calls Tryz.prog 59 #[.pointer (some ⟨g1, 0, none⟩)] w (NDone dNum (.int .i64) w0 g1 g2 A c B w p bad) := by
  have C1 := Lib.hid (cut_left h)
  have hx : B.length ≤ 9223372036854775807 := h.row.2.1
  have hle := h.le
  have hlen : (B.drop p).length = B.length - p := List.length_drop
  have HS := Lib.hid h
  by_cases h4 : (B.length : Int) - (p : Int) < 4
  · have hd : dNum (B.drop p) = none := if_pos (by omega)
    have HD := Lib.hid hd
    clear h hd
    go_enter Tryz.func59, Tryz.ntmps59
    go_wp2_with fail
    refine C1.out.mono ?_
    rintro e w1 ⟨rfl, hb⟩
    have H1 := Lib.hid (HS.out.stays hb)
    have T1 := Lib.hid (Stp.below (S := SC) hb)
    clear hb C1
    go_wp2
    go_ret2
    exact ⟨0, 10, p, rfl, H1.out, T1.out, .inr ⟨by decide, HD.out⟩⟩
  · have hdec : decide ((B.length : Int) - (p : Int) < 4) = false := decide_eq_false h4
    go_enter Tryz.func59, Tryz.ntmps59
    go_wp2_with fail
    refine C1.out.mono ?_
    rintro e w1 ⟨rfl, hb⟩
    have h1 := HS.out.stays hb
    have C2 := Lib.hid (cut_small 4 4 rfl (by decide) h1 (by omega))
    have hr := of_range ((B.drop p).take 4) (fun q hq => h.isB q (List.mem_of_mem_drop (List.mem_of_mem_take hq)))
    rw [List.length_take, hlen, Nat.min_eq_left (by omega), p4] at hr
    obtain ⟨x, hx0⟩ : ∃ x, of ((B.drop p).take 4) = x := ⟨_, rfl⟩
    rw [hx0] at hr C2
    have H1 := Lib.hid h1
    have T1 := Lib.hid (Stp.below (S := SC) hb)
    clear hb C1 h1
    go_wp2_with fail
    refine C2.out.mono ?_
    rintro e w2 ⟨rfl, hb⟩
    have h2 := H1.out.stays hb
    have T2 := Lib.hid (T1.out.trans (Stp.below hb))
    have H2 := Lib.hid h2
    have q1 := cell_blk h2.c1 1 _ rfl
    have f1 := frozen_blk h2.c1 1
    clear hb C2 T1 h2 hdec
    by_cases hm : 1000000000 < x
    · have hd : dNum (B.drop p) = none := by unfold dNum; rw [if_neg (by omega), hx0, if_pos hm]
      have HD := Lib.hid hd
      clear hd hx0
      go_wp2
      go_ret2
      exact ⟨0, 11, p, rfl, H2.out, T2.out, .inr ⟨by decide, HD.out⟩⟩
    · have hd : dNum (B.drop p) = some (x, B.drop (p + 4)) := by unfold dNum; rw [if_neg (by omega), hx0, if_neg hm, List.drop_drop]
      have HD := Lib.hid hd
      have hdm : decide (1000000000 < x) = false := decide_eq_false hm
      have hw : wrap64 ((p : Int) + 4) = (p : Int) + 4 := by unfold wrap64; omega
      have HM := Lib.hid (H2.out.moved (p + 4) (by omega) ((p : Int) + 4) (by omega))
      clear hd hx0
      go_wp2
      go_ret2
      exact ⟨x, 0, p + 4, rfl, HM.out.1, T2.out.trans HM.out.2, .inl ⟨rfl, HD.out⟩⟩
/-- The same, where it does not matter what is handed back. -/
def IDone {α β : Type} (d : Dc α) (mk : β → Value) (w0 : World) (g1 g2 : Nat) (A : Option Addr) (c : Nat) (B : Bs) (w : World) (p : Nat) (bad : Bool) : Ending → World → Prop :=
  fun e w' => ∃ y k p', e = .returned (.tuple #[mk y, .int .i64 k]) ∧ CAt w0 w' g1 g2 A c B p' bad ∧ Stp SC w w' ∧ (k = 0 ∧ (∃ x, d (B.drop p) = some (x, B.drop p')) ∨ k ≠ 0 ∧ d (B.drop p) = none)
set_option maxRecDepth 100000 in
set_option maxHeartbeats 8000000 in
theorem cut_Int {w0 w : World} {g1 g2 c p : Nat} {A : Option Addr} {B : Bs} {bad : Bool} (h : CAt w0 w g1 g2 A c B p bad) :
    Calls Tryz.prog 106 #[.pointer (some ⟨g1, 0, none⟩)] w (IDone dInt (.int .i64) w0 g1 g2 A c B w p bad) := by
  have C1 := Lib.hid (cut_left h)
  have hx : B.length ≤ 9223372036854775807 := h.row.2.1
  have hle := h.le
  have hlen : (B.drop p).length = B.length - p := List.length_drop
  have HS := Lib.hid h
  by_cases h4 : (B.length : Int) - (p : Int) < 8
  · have hd : dInt (B.drop p) = none := if_pos (by omega)
    have HD := Lib.hid hd
    clear h hd
    go_enter Tryz.func106, Tryz.ntmps106
    go_wp2_with fail
    refine C1.out.mono ?_
    rintro e w1 ⟨rfl, hb⟩
    have H1 := Lib.hid (HS.out.stays hb)
    have T1 := Lib.hid (Stp.below (S := SC) hb)
    clear hb C1
    go_wp2
    go_ret2
    exact ⟨0, 10, p, rfl, H1.out, T1.out, .inr ⟨by decide, HD.out⟩⟩
  · have hdec : decide ((B.length : Int) - (p : Int) < 8) = false := decide_eq_false h4
    go_enter Tryz.func106, Tryz.ntmps106
    go_wp2_with fail
    refine C1.out.mono ?_
    rintro e w1 ⟨rfl, hb⟩
    have h1 := HS.out.stays hb
    have C2 := Lib.hid (cut_small 8 8 rfl (by decide) h1 (by omega))
    obtain ⟨x, hx0⟩ : ∃ x, of ((B.drop p).take 8) = x := ⟨_, rfl⟩
    rw [hx0] at C2
    have H1 := Lib.hid h1
    have T1 := Lib.hid (Stp.below (S := SC) hb)
    clear hb C1 h1
    go_wp2_with fail
    refine C2.out.mono ?_
    rintro e w2 ⟨rfl, hb⟩
    have h2 := H1.out.stays hb
    have T2 := Lib.hid (T1.out.trans (Stp.below hb))
    have H2 := Lib.hid h2
    have q1 := cell_blk h2.c1 1 _ rfl
    have f1 := frozen_blk h2.c1 1
    clear hb C2 T1 h2 hdec
    have hd : dInt (B.drop p) = some (s64 x, B.drop (p + 8)) := by unfold dInt; rw [if_neg (by omega), hx0, List.drop_drop]
    have HD := Lib.hid hd
    have hw : wrap64 ((p : Int) + 8) = (p : Int) + 8 := by unfold wrap64; omega
    have HM := Lib.hid (H2.out.moved (p + 8) (by omega) ((p : Int) + 8) (by omega))
    clear hd hx0
    go_wp2
    go_ret2
    exact ⟨_, 0, p + 8, rfl, HM.out.1, T2.out.trans HM.out.2, .inl ⟨rfl, _, HD.out⟩⟩
end Go.Proofs.YtoomcdgnnibjlaaGreat.Wr
/- The document's reader: what a method does; numbers, texts, whole numbers. -/
namespace Go.Proofs.YtoomcdgnnibjlaaGreat.Wr
open Go.RowKit Go.Proofs.YtoomcdgnnibjlaaGreatW.PrintWords Go.Proofs.YtoomcdgnnibjlaaGreatW.PrintLast
set_option linter.unusedVariables false
set_option linter.unusedSimpArgs false
/-- Bad stays bad; what is not bad has been read (which value is handed back is told apart). -/
def CRel {α : Type} (d : Dc α) (B : Bs) (p : Nat) (bad : Bool) (p' : Nat) (bad' : Bool) : Prop :=
  (bad' = true → bad = true ∨ d (B.drop p) = none) ∧ (bad' = false → bad = false ∧ ∃ x, d (B.drop p) = some (x, B.drop p'))
theorem CRel.seq {α β : Type} {d : Dc α} {e : Dc β} {B : Bs} {p p1 p2 : Nat} {b b1 b2 : Bool} (h : CRel d B p b p1 b1) (k : CRel e B p1 b1 p2 b2) : CRel (dPair d e) B p b p2 b2 := by
  refine ⟨fun hb => ?_, fun hb => ?_⟩
  · rcases k.1 hb with h1 | h1
    · rcases h.1 h1 with h2 | h2
      · exact .inl h2
      · exact .inr (by simp [dPair, h2])
    · cases b1 with
      | true =>
        rcases h.1 rfl with h2 | h2
        · exact .inl h2
        · exact .inr (by simp [dPair, h2])
      | false =>
        obtain ⟨_, x, h3⟩ := h.2 rfl
        exact .inr (by simp [dPair, h3, h1])
  · obtain ⟨h1, y, h2⟩ := k.2 hb
    obtain ⟨h3, x, h4⟩ := h.2 h1
    exact ⟨h3, (x, y), by simp [dPair, h4, h2]⟩
/-- What a method of the document's reader does: P tells what is handed back. -/
def CDone {α : Type} (d : Dc α) (P : Value → World → Prop) (w0 : World) (g1 g2 : Nat) (A : Option Addr) (c : Nat) (B : Bs) (w : World) (p : Nat) (bad : Bool) : Ending → World → Prop :=
  fun e w' => ∃ v p' bad', e = .returned v ∧ P v w' ∧ CAt w0 w' g1 g2 A c B p' bad' ∧ Stp SC w w' ∧ CRel d B p bad p' bad'
set_option maxRecDepth 100000 in
set_option maxHeartbeats 8000000 in
theorem ct_number {w0 w : World} {g1 g2 c p : Nat} {A : Option Addr} {B : Bs} {bad : Bool} (h : CAt w0 w g1 g2 A c B p bad) :
    Calls Tryz.prog 33 #[.pointer (some ⟨g2, 0, none⟩)] w (fun e w' => ∃ x p' bad', e = .returned (.int .i64 x) ∧ CAt w0 w' g1 g2 A c B p' bad' ∧ Stp SC w w' ∧ CRel dNum B p bad p' bad' ∧ (bad' = false → dNum (B.drop p) = some (x, B.drop p'))) := by
  have C1 := Lib.hid (cut_Number h)
  have q0 := cell_blk h.c2 0 _ rfl
  clear h
  go_enter Tryz.func33, Tryz.ntmps33
  go_wp2_with fail
  refine C1.out.mono ?_
  rintro e w1 ⟨x, k, p', rfl, h1, T1', hk⟩
  have q0 := cell_blk h1.c2 0 _ rfl
  have q1 := cell_blk h1.c2 1 _ rfl
  have f1 := frozen_blk h1.c2 1
  have H1 := Lib.hid h1
  have T1 := Lib.hid T1'
  clear C1 h1 T1'
  cases bad with
  | true =>
    have HM := Lib.hid (H1.out.turned true)
    go_wp2
    go_ret
    exact ⟨x, p', true, rfl, HM.out.1, T1.out.trans HM.out.2, ⟨fun _ => .inl rfl, fun hh => by cases hh⟩, fun hh => by cases hh⟩
  | false =>
    rcases hk with ⟨rfl, hd⟩ | ⟨hk, hd⟩
    · have HM := Lib.hid (H1.out.turned false)
      have HD := Lib.hid hd
      clear hd
      go_wp2
      go_ret
      exact ⟨x, p', false, rfl, HM.out.1, T1.out.trans HM.out.2, ⟨(fun hh => by cases hh), fun _ => ⟨rfl, _, HD.out⟩⟩, fun _ => HD.out⟩
    · have HM := Lib.hid (H1.out.turned true)
      have HD := Lib.hid hd
      have y1 : (k == 0) = false := by simpa using hk
      have y2 : (k != 0) = true := by simpa using hk
      clear hd hk
      go_wp2
      go_ret
      exact ⟨x, p', true, rfl, HM.out.1, T1.out.trans HM.out.2, ⟨(fun _ => .inr HD.out), fun hh => by cases hh⟩, fun hh => by cases hh⟩
end Go.Proofs.YtoomcdgnnibjlaaGreat.Wr
/- The document's reader: texts, whole numbers, flags, how many. -/
namespace Go.Proofs.YtoomcdgnnibjlaaGreat.Wr
open Go.RowKit Go.Proofs.YtoomcdgnnibjlaaGreatW.PrintWords Go.Proofs.YtoomcdgnnibjlaaGreatW.PrintLast
set_option linter.unusedVariables false
set_option linter.unusedSimpArgs false
attribute [local go_sem ↓] Go.wp_at_zero Go.wp_at_succ
theorem text_nums (p m n c : Nat) (h : p + 4 + m ≤ n) (hn : n ≤ 9223372036854775807) (hc : n ≤ c) :
    wrap64 ((p : Int) + 4) = (p : Int) + 4 ∧ wrap64 ((p : Int) + 4 + (m : Int)) = (p : Int) + 4 + (m : Int) ∧ IntKind.i64.wrap ((p : Int) + 4) = (p : Int) + 4 ∧ IntKind.i64.wrap ((p : Int) + 4 + (m : Int)) = (p : Int) + 4 + (m : Int) ∧
    IntKind.i64.wrap (m : Int) = (m : Int) ∧ ((p : Int) + 4).toNat = p + 4 ∧ ((p : Int) + 4 + (m : Int)).toNat = p + 4 + m ∧ (0 : Int) ≤ (p : Int) + 4 ∧ (0 : Int) ≤ (p : Int) + 4 + (m : Int) ∧ (p : Int) + 4 + (m : Int) ≤ (c : Int) ∧ (p : Int) + 4 ≤ (p : Int) + 4 + (m : Int) := by
  refine ⟨?_, ?_, ?_, ?_, ?_, ?_, ?_, ?_, ?_, ?_, ?_⟩
  · unfold wrap64; omega
  · unfold wrap64; omega
  · rw [IntKind.wrap_i64]; omega
  · rw [IntKind.wrap_i64]; omega
  · rw [IntKind.wrap_i64]; omega
  all_goals omega
set_option maxRecDepth 100000 in
set_option maxHeartbeats 16000000 in
theorem cut_Text {w0 w : World} {g1 g2 c p : Nat} {A : Option Addr} {B : Bs} {bad : Bool} (h : CAt w0 w g1 g2 A c B p bad) :
    Calls Tryz.prog 81 #[.pointer (some ⟨g1, 0, none⟩)] w (IDone dText .string w0 g1 g2 A c B w p bad) := by
  have C1 := Lib.hid (cut_left h)
  have hx : B.length ≤ 9223372036854775807 := h.row.2.1
  have hle := h.le
  have hlen : (B.drop p).length = B.length - p := List.length_drop
  have HS := Lib.hid h
  by_cases h4 : (B.length : Int) - (p : Int) < 4
  · have hd : dText (B.drop p) = none := if_pos (by omega)
    have HD := Lib.hid hd
    clear h hd
    go_enter Tryz.func81, Tryz.ntmps81
    go_wp2_with fail
    refine C1.out.mono ?_
    rintro e w1 ⟨rfl, hb⟩
    have H1 := Lib.hid (HS.out.stays hb)
    have T1 := Lib.hid (Stp.below (S := SC) hb)
    clear hb C1
    go_wp2
    go_ret2
    exact ⟨_, 10, p, rfl, H1.out, T1.out, .inr ⟨by decide, HD.out⟩⟩
  · have hdec : decide ((B.length : Int) - (p : Int) < 4) = false := decide_eq_false h4
    go_enter Tryz.func81, Tryz.ntmps81
    go_wp2_with fail
    refine C1.out.mono ?_
    rintro e w1 ⟨rfl, hb⟩
    have h1 := HS.out.stays hb
    have C2 := Lib.hid (cut_small 4 4 rfl (by decide) h1 (by omega))
    have hr := of_range ((B.drop p).take 4) (fun q hq => h.isB q (List.mem_of_mem_drop (List.mem_of_mem_take hq)))
    rw [List.length_take, hlen, Nat.min_eq_left (by omega), p4] at hr
    obtain ⟨x, hx0⟩ : ∃ x, of ((B.drop p).take 4) = x := ⟨_, rfl⟩
    rw [hx0] at hr C2
    have H1 := Lib.hid h1
    have T1 := Lib.hid (Stp.below (S := SC) hb)
    clear hb C1 h1
    go_wp2_with fail
    refine C2.out.mono ?_
    rintro e w2 ⟨rfl, hb⟩
    have h2 := H1.out.stays hb
    have T2 := Lib.hid (T1.out.trans (Stp.below hb))
    have H2 := Lib.hid h2
    have C3 := Lib.hid (cut_left h2)
    clear hb C2 T1 h2 hdec
    by_cases hm : 65536 < x
    · have hd : dText (B.drop p) = none := by unfold dText; rw [if_neg (by omega), hx0, if_pos hm]
      have HD := Lib.hid hd
      clear hd hx0
      go_wp2
      go_ret2
      exact ⟨_, 11, p, rfl, H2.out, T2.out, .inr ⟨by decide, HD.out⟩⟩
    · have hdm : decide (65536 < x) = false := decide_eq_false hm
      go_wp2_with fail
      refine C3.out.mono ?_
      rintro e w3 ⟨rfl, hb⟩
      have h3 := H2.out.stays hb
      have T3 := Lib.hid (T2.out.trans (Stp.below hb))
      have H3 := Lib.hid h3
      obtain ⟨m, rfl⟩ := Int.eq_ofNat_of_zero_le hr.1
      have hwm : wrap64 (m : Int) = (m : Int) := by unfold wrap64; omega
      have hw4 : wrap64 ((B.length : Int) - (p : Int) - 4) = (B.length : Int) - (p : Int) - 4 := by unfold wrap64; omega
      clear hb C3 T2 hdm
      by_cases hk : (B.length : Int) - (p : Int) - 4 < (m : Int)
      · have hd : dText (B.drop p) = none := by unfold dText; rw [if_neg (by omega), hx0, if_neg (by omega), if_pos (by omega)]
        have HD := Lib.hid hd
        have hkd : decide ((B.length : Int) - (p : Int) - 4 < (m : Int)) = true := decide_eq_true hk
        clear hd hx0 h3 hk hm h4 hr hlen hle h
        go_wp2
        go_ret2
        exact ⟨_, 10, p, rfl, H3.out, T3.out, .inr ⟨by decide, HD.out⟩⟩
      · have hkd : decide ((B.length : Int) - (p : Int) - 4 < (m : Int)) = false := decide_eq_false hk
        have hd : dText (B.drop p) = some (toBA (((B.drop p).drop 4).take m), B.drop (p + 4 + m)) := by
          unfold dText
          rw [if_neg (by omega), hx0, if_neg (by omega), if_neg (by omega), Int.toNat_natCast, List.drop_drop, List.drop_drop, show p + (4 + m) = p + 4 + m by omega]
        have q0 := cell_blk h3.c1 0 _ rfl
        have q1 := cell_blk h3.c1 1 _ rfl
        have f1 := frozen_blk h3.c1 1
        have hcap := h3.cap
        have HD := Lib.hid hd
        have hC0 := Kd.C_mid (c := c) h3.now (show p + 4 ≤ p + 4 + m by omega) (by omega) h3.cap
        have hll : ((B.take (p + 4 + m)).drop (p + 4)).length = m := by rw [List.length_drop, List.length_take]; omega
        rw [hll] at hC0
        have hst := Kd.C_string (c := c - (p + 4)) Tryz.underlying22 Tryz.underlying5 Tryz.underlying9 (Kd.C_drew hC0)
        simp only [show (Kd.int .u8).sz = 1 from rfl, Nat.mul_one] at hst
        have ha : (A.map fun x => x.add (p + 4)) = A.map fun x => (⟨x.block, x.off + (p + 3 + 1), none⟩ : Addr) := by
          congr 1
        rw [ha] at hst
        obtain ⟨t, ht⟩ : ∃ t, strOfNums ((B.take (p + 4 + m)).drop (p + 4)) = t := ⟨_, rfl⟩
        rw [ht] at hst
        have hpm : p + 4 + m ≤ B.length := by omega
        have hpi : (p : Int) + 4 + (m : Int) = ((p + 4 + m : Nat) : Int) := by omega
        have HM0 := H3.out.moved (p + 4 + m) hpm ((p : Int) + 4 + (m : Int)) hpi
        obtain ⟨e1, e2, e3, e4, e5, t1, t2, b1, b2, b3, b4⟩ := text_nums p m B.length c hpm hx hcap
        clear hd hx0 h3 hC0 ht hll hk hm h4 hr hlen hle h
        go_upto_region 8 with (fail)
        have HM := Lib.hid (HM0.1.stays (w' := (w3.setCell ⟨g1, 1, none⟩ (.int .i64 ((p : Int) + 4 + (m : Int)))).drew) (Below.refl _ _).drew)
        have TM := Lib.hid ((T3.out.trans HM0.2).trans (Stp.below (w' := (w3.setCell ⟨g1, 1, none⟩ (.int .i64 ((p : Int) + 4 + (m : Int)))).drew) (Below.refl _ _).drew))
        clear HM0 hpm hpi
        go_region
        all_goals go_wp2
        all_goals go_ret2
        all_goals (first | exact ⟨t, 0, p + 4 + m, rfl, HM.out, TM.out, .inl ⟨rfl, _, HD.out⟩⟩ | (subst_vars; exact ⟨t, 0, p + 4 + m, rfl, HM.out, TM.out, .inl ⟨rfl, _, HD.out⟩⟩))
end Go.Proofs.YtoomcdgnnibjlaaGreat.Wr
/- The document's reader: texts and whole numbers. -/
namespace Go.Proofs.YtoomcdgnnibjlaaGreat.Wr
open Go.RowKit Go.Proofs.YtoomcdgnnibjlaaGreatW.PrintWords Go.Proofs.YtoomcdgnnibjlaaGreatW.PrintLast
set_option linter.unusedVariables false
set_option linter.unusedSimpArgs false
set_option maxRecDepth 100000 in
set_option maxHeartbeats 8000000 in
theorem ct_text {w0 w : World} {g1 g2 c p : Nat} {A : Option Addr} {B : Bs} {bad : Bool} (h : CAt w0 w g1 g2 A c B p bad) :
    Calls Tryz.prog 57 #[.pointer (some ⟨g2, 0, none⟩)] w (CDone dText (fun v _ => ∃ y : ByteArray, v = .string y) w0 g1 g2 A c B w p bad) := by
  have C1 := Lib.hid (cut_Text h)
  have q0 := cell_blk h.c2 0 _ rfl
  clear h
  go_enter Tryz.func57, Tryz.ntmps57
  go_wp2_with fail
  refine C1.out.mono ?_
  rintro e w1 ⟨x, k, p', rfl, h1, T1', hk⟩
  have q0 := cell_blk h1.c2 0 _ rfl
  have q1 := cell_blk h1.c2 1 _ rfl
  have f1 := frozen_blk h1.c2 1
  have H1 := Lib.hid h1
  have T1 := Lib.hid T1'
  clear C1 h1 T1'
  cases bad with
  | true =>
    have HM := Lib.hid (H1.out.turned true)
    go_wp2
    go_ret
    exact ⟨_, p', true, rfl, ⟨x, rfl⟩, HM.out.1, T1.out.trans HM.out.2, fun _ => .inl rfl, fun hh => by cases hh⟩
  | false =>
    rcases hk with ⟨rfl, x0, hd⟩ | ⟨hk, hd⟩
    · have HM := Lib.hid (H1.out.turned false)
      have HD := Lib.hid hd
      clear hd
      go_wp2
      go_ret
      exact ⟨_, p', false, rfl, ⟨x, rfl⟩, HM.out.1, T1.out.trans HM.out.2, (fun hh => by cases hh), fun _ => ⟨rfl, _, HD.out⟩⟩
    · have HM := Lib.hid (H1.out.turned true)
      have HD := Lib.hid hd
      have y1 : (k == 0) = false := by simpa using hk
      have y2 : (k != 0) = true := by simpa using hk
      clear hd hk
      go_wp2
      go_ret
      exact ⟨_, p', true, rfl, ⟨x, rfl⟩, HM.out.1, T1.out.trans HM.out.2, (fun _ => .inr HD.out), fun hh => by cases hh⟩
set_option maxRecDepth 100000 in
set_option maxHeartbeats 8000000 in
theorem ct_whole {w0 w : World} {g1 g2 c p : Nat} {A : Option Addr} {B : Bs} {bad : Bool} (h : CAt w0 w g1 g2 A c B p bad) :
    Calls Tryz.prog 103 #[.pointer (some ⟨g2, 0, none⟩)] w (CDone dInt (fun v _ => ∃ y : Int, v = .int .i64 y) w0 g1 g2 A c B w p bad) := by
  have C1 := Lib.hid (cut_Int h)
  have q0 := cell_blk h.c2 0 _ rfl
  clear h
  go_enter Tryz.func103, Tryz.ntmps103
  go_wp2_with fail
  refine C1.out.mono ?_
  rintro e w1 ⟨x, k, p', rfl, h1, T1', hk⟩
  have q0 := cell_blk h1.c2 0 _ rfl
  have q1 := cell_blk h1.c2 1 _ rfl
  have f1 := frozen_blk h1.c2 1
  have H1 := Lib.hid h1
  have T1 := Lib.hid T1'
  clear C1 h1 T1'
  cases bad with
  | true =>
    have HM := Lib.hid (H1.out.turned true)
    go_wp2
    go_ret
    exact ⟨_, p', true, rfl, ⟨x, rfl⟩, HM.out.1, T1.out.trans HM.out.2, fun _ => .inl rfl, fun hh => by cases hh⟩
  | false =>
    rcases hk with ⟨rfl, x0, hd⟩ | ⟨hk, hd⟩
    · have HM := Lib.hid (H1.out.turned false)
      have HD := Lib.hid hd
      clear hd
      go_wp2
      go_ret
      exact ⟨_, p', false, rfl, ⟨x, rfl⟩, HM.out.1, T1.out.trans HM.out.2, (fun hh => by cases hh), fun _ => ⟨rfl, _, HD.out⟩⟩
    · have HM := Lib.hid (H1.out.turned true)
      have HD := Lib.hid hd
      have y1 : (k == 0) = false := by simpa using hk
      have y2 : (k != 0) = true := by simpa using hk
      clear hd hk
      go_wp2
      go_ret
      exact ⟨_, p', true, rfl, ⟨x, rfl⟩, HM.out.1, T1.out.trans HM.out.2, (fun _ => .inr HD.out), fun hh => by cases hh⟩
end Go.Proofs.YtoomcdgnnibjlaaGreat.Wr
/- The document's reader: how many. -/
namespace Go.Proofs.YtoomcdgnnibjlaaGreat.Wr
open Go.RowKit Go.Proofs.YtoomcdgnnibjlaaGreatW.PrintWords Go.Proofs.YtoomcdgnnibjlaaGreatW.PrintLast
set_option linter.unusedVariables false
set_option linter.unusedSimpArgs false
set_option maxRecDepth 100000 in
set_option maxHeartbeats 8000000 in
theorem ct_many {w0 w : World} {g1 g2 c p : Nat} {A : Option Addr} {B : Bs} {bad : Bool} (h : CAt w0 w g1 g2 A c B p bad) :
    Calls Tryz.prog 32 #[.pointer (some ⟨g2, 0, none⟩)] w fun e w' => ∃ (n p' : Nat) (bad' : Bool), e = .returned (.int .i64 n) ∧ CAt w0 w' g1 g2 A c B p' bad' ∧ Stp SC w w' ∧ n ≤ 4096 ∧
      (bad' = true → n = 0 ∧ (bad = true ∨ dNum (B.drop p) = none ∨ ∃ y l, 4096 < y ∧ dNum (B.drop p) = some (y, l))) ∧ (bad' = false → bad = false ∧ dNum (B.drop p) = some ((n : Int), B.drop p')) := by
  have C1 := Lib.hid (ct_number h)
  have hIB : IsB (B.drop p) := fun q hq => h.isB q (List.mem_of_mem_drop hq)
  clear h
  go_enter Tryz.func32, Tryz.ntmps32
  go_wp2_with fail
  refine C1.out.mono ?_
  rintro e w1 ⟨x, p', bad', rfl, h1, T1', hr, hx⟩
  have q1 := cell_blk h1.c2 1 _ rfl
  have f1 := frozen_blk h1.c2 1
  have H1 := Lib.hid h1
  have T1 := Lib.hid T1'
  clear C1 h1 T1'
  cases bad' with
  | true =>
    have HM := Lib.hid (H1.out.turned true)
    have HR := Lib.hid (hr.1 rfl)
    clear hr hx
    go_wp2
    go_ret
    exact ⟨0, p', true, rfl, HM.out.1, T1.out.trans HM.out.2, by decide, fun _ => ⟨rfl, HR.out.elim .inl (fun hh => .inr (.inl hh))⟩, fun hh => by cases hh⟩
  | false =>
    have hd := hx rfl
    obtain ⟨hn0, hn1⟩ := dNum_range hIB hd
    obtain ⟨m, rfl⟩ := Int.eq_ofNat_of_zero_le hn0
    have hb := (hr.2 rfl).1
    subst hb
    by_cases h4 : 4096 < (m : Int)
    · have HM := Lib.hid (H1.out.turned true)
      have HD := Lib.hid hd
      have hdec : decide (4096 < (m : Int)) = true := decide_eq_true h4
      have H4 := Lib.hid h4
      clear hr hx hd hn0 hn1 h4
      go_wp2
      go_ret
      exact ⟨0, rfl, p', .inr ⟨HM.out.1, T1.out.trans HM.out.2, by decide, rfl, .inr ⟨_, H4.out, _, HD.out⟩⟩⟩
    · have HM := Lib.hid (H1.out.turned false)
      have HD := Lib.hid hd
      have hdec : decide (4096 < (m : Int)) = false := decide_eq_false h4
      have hm4 : m ≤ 4096 := by omega
      clear hr hx hd hn0 hn1 h4
      go_wp2
      go_ret
      exact ⟨m, rfl, p', .inl ⟨HM.out.1, T1.out.trans HM.out.2, hm4, HD.out⟩⟩
end Go.Proofs.YtoomcdgnnibjlaaGreat.Wr
/- The document's reader: a new one; whether all has been read. -/
namespace Go.Proofs.YtoomcdgnnibjlaaGreat.Wr
open Go.RowKit Go.Proofs.YtoomcdgnnibjlaaGreatW.PrintWords Go.Proofs.YtoomcdgnnibjlaaGreatW.PrintLast
set_option linter.unusedVariables false
set_option linter.unusedSimpArgs false
set_option maxRecDepth 100000 in
set_option maxHeartbeats 8000000 in
theorem ct_whole_end {w0 w : World} {g1 g2 c p : Nat} {A : Option Addr} {B : Bs} {bad : Bool} (h : CAt w0 w g1 g2 A c B p bad) :
    Calls Tryz.prog 14 #[.pointer (some ⟨g2, 0, none⟩)] w fun e w' => e = .returned (.bool (!bad && decide (B.drop p = []))) ∧ Below w.heap.size w w' := by
  have C1 := Lib.hid (cut_left h)
  have q0 := cell_blk h.c2 0 _ rfl
  have q1 := cell_blk h.c2 1 _ rfl
  have hle := h.le
  clear h
  cases bad with
  | true =>
    go_enter Tryz.func14, Tryz.ntmps14
    go_wp2
    go_ret
    exact ⟨rfl, Below.refl _ _⟩
  | false =>
    go_enter Tryz.func14, Tryz.ntmps14
    go_wp2_with fail
    refine C1.out.mono ?_
    rintro e w1 ⟨rfl, hb⟩
    by_cases hz : p = B.length
    · have y1 : ((B.length : Int) - (p : Int) == 0) = true := by simp [hz]
      have HB := Lib.hid hb
      clear hb
      go_wp2
      go_ret
      exact ⟨by simp [hz], HB.out⟩
    · have y1 : ((B.length : Int) - (p : Int) == 0) = false := by simp; omega
      have HB := Lib.hid hb
      clear hb
      go_wp2
      go_ret
      exact ⟨by simp; omega, HB.out⟩
set_option maxRecDepth 100000 in
set_option maxHeartbeats 8000000 in
theorem ct_new {A : Option Addr} {c : Nat} {B : Bs} (w : World) (hC : (Kd.int .u8).C w A B.length B) (hle : B.length ≤ c) (hB : IsB B) :
    Calls Tryz.prog 12 #[.slice A B.length c] w fun e w' => ∃ g1 g2 : Nat, e = .returned (.pointer (some ⟨g2, 0, none⟩)) ∧ CAt w w' g1 g2 A c B 0 false := by
  have h1 := blk_new w (.cells #[.slice A B.length c, .int .i64 0] 106)
  have h2 := blk_new (w.alloc (.cells #[.slice A B.length c, .int .i64 0] 106)) (.cells #[.pointer (some ⟨w.heap.size, 0, none⟩), .bool false] 108)
  rw [World.size_alloc] at h2
  have HA := Lib.hid (show CAt w ((w.alloc (.cells #[.slice A B.length c, .int .i64 0] 106)).alloc (.cells #[.pointer (some ⟨w.heap.size, 0, none⟩), .bool false] 108)) w.heap.size (w.heap.size + 1) A c B 0 false from
    ⟨Nat.le_refl _, by omega, ((Below.refl _ _).alloc (Nat.le_refl _) _).alloc (by simp only [World.size_alloc]; omega) _, by rw [Below.heap_alloc _ _ _ (by simp only [World.size_alloc]; omega)]; exact h1, h2, hC, hle, hB, Nat.zero_le _⟩)
  clear h1 h2 hC
  go_enter Tryz.func12, Tryz.ntmps12
  go_wp2
  go_ret
  exact ⟨_, _, rfl, HA.out⟩
end Go.Proofs.YtoomcdgnnibjlaaGreat.Wr
/- The document's reader: flags. -/
namespace Go.Proofs.YtoomcdgnnibjlaaGreat.Wr
open Go.RowKit Go.Proofs.YtoomcdgnnibjlaaGreatW.PrintWords Go.Proofs.YtoomcdgnnibjlaaGreatW.PrintLast
set_option linter.unusedVariables false
set_option linter.unusedSimpArgs false
theorem CAt.drew {w0 w : World} {g1 g2 c p : Nat} {A : Option Addr} {B : Bs} {bad : Bool} (h : CAt w0 w g1 g2 A c B p bad) (n : Nat) : CAt w0 (w.drewN n) g1 g2 A c B p bad := h.stays (pw_below_drewN (Below.refl _ _) n)
set_option maxRecDepth 100000 in
set_option maxHeartbeats 8000000 in
theorem ct_flag {w0 w : World} {g1 g2 c p : Nat} {A : Option Addr} {B : Bs} {bad : Bool} (h : CAt w0 w g1 g2 A c B p bad) :
    Calls Tryz.prog 58 #[.pointer (some ⟨g2, 0, none⟩)] w (CDone dFlag (fun v _ => ∃ y : Bool, v = .bool y) w0 g1 g2 A c B w p bad) := by
  have C1 := Lib.hid (cut_left h)
  have q0 := cell_blk h.c2 0 _ rfl
  have hle := h.le
  have HS := Lib.hid h
  clear h
  by_cases h1 : (B.length : Int) - (p : Int) < 1
  · have hdec : decide ((B.length : Int) - (p : Int) < 1) = true := decide_eq_true h1
    have hd : dFlag (B.drop p) = none := by rw [List.drop_eq_nil_of_le (by omega)]; rfl
    have HD := Lib.hid hd
    clear hd h1
    go_enter Tryz.func58, Tryz.ntmps58
    go_wp2_with fail
    refine C1.out.mono ?_
    rintro e w1 ⟨rfl, hb⟩
    have h1 := HS.out.stays hb
    have T1 := Lib.hid (Stp.below (S := SC) hb)
    have q1 := cell_blk h1.c2 1 _ rfl
    have f1 := frozen_blk h1.c2 1
    have HM := Lib.hid (h1.turned true)
    clear hb h1 C1
    go_wp2
    go_ret
    exact ⟨_, p, true, rfl, ⟨_, rfl⟩, HM.out.1, T1.out.trans HM.out.2, fun _ => .inr HD.out, fun hh => by cases hh⟩
  · have hdec : decide ((B.length : Int) - (p : Int) < 1) = false := decide_eq_false h1
    have hp : p < B.length := by omega
    have hx : B.length ≤ 9223372036854775807 := HS.out.row.2.1
    obtain ⟨ad, e0, g0⟩ := at_byte HS.out.row p hp
    obtain ⟨b, hbe⟩ : ∃ b, B[p] = b := ⟨_, rfl⟩
    have hdr : B.drop p = b :: B.drop (p + 1) := by rw [List.drop_eq_getElem_cons hp, hbe]
    have hrb := HS.out.isB B[p] (List.getElem_mem hp)
    rw [hbe] at g0 hrb
    subst e0
    have HD := Lib.hid hdr
    have G0 := Lib.hid g0
    have hw : wrap64 ((p : Int) + 1) = (p : Int) + 1 := by unfold wrap64; omega
    have hp0 : (0 : Int) ≤ (p : Int) := by omega
    have hp1 : (p : Int) < (B.length : Int) := by omega
    clear hdr g0 h1 hbe
    go_enter Tryz.func58, Tryz.ntmps58
    go_wp2_with fail
    refine C1.out.mono ?_
    rintro e w1 ⟨rfl, hb⟩
    have h1 := HS.out.stays hb
    have T1 := Lib.hid (Stp.below (S := SC) hb)
    have r0 := cell_blk h1.c2 0 _ rfl
    have r1 := cell_blk h1.c2 1 _ rfl
    have s0 := cell_blk h1.c1 0 _ rfl
    have s1 := cell_blk h1.c1 1 _ rfl
    have f1 := frozen_blk h1.c1 1
    have f2 := frozen_blk h1.c2 1
    have g1' := pw_cell_below h1.below G0.out
    have hne := h1.ne
    have H1 := Lib.hid h1
    clear hb h1 C1 HS G0 q0
    go_upto_region 4 with (fail)
    clear hdec
    go_quiet (fail)
    have h2 := (H1.out.drew nq).moved (p + 1) hp ((p : Int) + 1) (by omega)
    have T2 := Lib.hid ((T1.out.drew nq).trans h2.2)
    have H2 := Lib.hid h2.1
    clear h2
    cases bad with
    | true =>
      have HM := Lib.hid (H2.out.turned true)
      go_wp2
      go_ret
      exact ⟨_, p + 1, true, rfl, ⟨_, rfl⟩, HM.out.1, T2.out.trans HM.out.2, fun _ => .inl rfl, fun hh => by cases hh⟩
    | false =>
      by_cases hb1 : 1 < b
      · have HM := Lib.hid (H2.out.turned true)
        have hde : decide (1 < b) = true := decide_eq_true hb1
        have HB := Lib.hid (show dFlag (B.drop p) = none by rw [HD.out]; exact if_neg (by omega))
        clear hb1
        go_wp2
        go_ret
        exact ⟨_, p + 1, true, rfl, ⟨_, rfl⟩, HM.out.1, T2.out.trans HM.out.2, fun _ => .inr HB.out, fun hh => by cases hh⟩
      · have HM := Lib.hid (H2.out.turned false)
        have hde : decide (1 < b) = false := decide_eq_false hb1
        have HB := Lib.hid (show dFlag (B.drop p) = some (decide (b = 1), B.drop (p + 1)) by rw [HD.out]; exact if_pos (by omega))
        clear hb1
        go_wp2
        go_ret
        exact ⟨_, p + 1, false, rfl, ⟨_, rfl⟩, HM.out.1, T2.out.trans HM.out.2, (fun hh => by cases hh), fun _ => ⟨rfl, _, HB.out⟩⟩
end Go.Proofs.YtoomcdgnnibjlaaGreat.Wr
/- The document's reader: what frames keep of it; lists by rounds. -/
namespace Go.Proofs.YtoomcdgnnibjlaaGreat.Wr
open Go.RowKit Go.Proofs.YtoomcdgnnibjlaaGreatW.PrintWords Go.Proofs.YtoomcdgnnibjlaaGreatW.PrintLast
set_option linter.unusedVariables false
set_option linter.unusedSimpArgs false
theorem CAt.stp {S : List Nat} {w0 w w' : World} {g1 g2 c p : Nat} {A : Option Addr} {B : Bs} {bad : Bool} (h : CAt w0 w g1 g2 A c B p bad) (T : Stp S w w') (hS : ∀ q, q ∈ SC → q ∉ S) (hb : Below w0.heap.size w w') : CAt w0 w' g1 g2 A c B p bad :=
  ⟨h.b1, h.b2, h.below.trans hb, T.keep h.c1 (hS _ (by simp)), T.keep h.c2 (hS _ (by simp)), h.row, h.cap, h.isB, h.le⟩
theorem Stp.only {w W : World} {b t : Nat} {cs : Array Value} {fr : Nat × Nat} (hb : w.heap[b]? = some (.cells cs t fr)) (hot : ∀ k, k ≠ b → W.heap[k]? = w.heap[k]?) (hbl : Below 0 w W) : Stp [t] w W :=
  ⟨hbl.os, hbl.tape, hbl.output, hbl.size, fun k o hk hs => (hot k (fun e => by
    rw [e, hb] at hk
    cases hk
    exact hs _ _ _ rfl (by simp))).trans hk⟩
/-- One field of a box of the call's own is stored. -/
theorem put_one {w : World} {b t : Nat} {cs : Array Value} (hb : w.heap[b]? = some (.cells cs t (0, 0))) (j : Nat) (v : Value) :
    ∃ W, w.setCell ⟨b, j, none⟩ v = W ∧ W.heap[b]? = some (.cells (cs.setIfInBounds j v) t (0, 0)) ∧ Stp [t] w W ∧ (∀ B, B ≤ b → Below B w W) ∧ (∀ k, k ≠ b → W.heap[k]? = w.heap[k]?) :=
  have hot : ∀ k, k ≠ b → (w.setCell ⟨b, j, none⟩ v).heap[k]? = w.heap[k]? := fun k hk => Below.heap_setCell w ⟨b, j, none⟩ v k hk
  have hbl : ∀ B, B ≤ b → Below B w (w.setCell ⟨b, j, none⟩ v) := fun B hB => (Below.refl _ _).setCell (p := ⟨b, j, none⟩) hB _
  ⟨_, rfl, blk_set hb j v, Stp.only hb hot (hbl 0 (Nat.zero_le _)), hbl, hot⟩
theorem put_many {w : World} {b t : Nat} (pre old vs post : List Value) (hb : w.heap[b]? = some (.cells (pre ++ (old ++ post)).toArray t (0, 0))) (hl : old.length = vs.length) :
    ∃ W, w.setCells b pre.length vs = W ∧ W.heap[b]? = some (.cells (pre ++ (vs ++ post)).toArray t (0, 0)) ∧ Stp [t] w W ∧ (∀ B, B ≤ b → Below B w W) ∧ (∀ k, k ≠ b → W.heap[k]? = w.heap[k]?) := by
  obtain ⟨cur, h1, _, h2⟩ := setCells_row vs pre.length w _ hb (by simp; omega)
  obtain ⟨s1, s2, s3, s4⟩ := setCells_same b vs pre.length w
  have hot : ∀ k, k ≠ b → (w.setCells b pre.length vs).heap[k]? = w.heap[k]? := fun k hk => setCells_far vs _ k hk
  have hbl : ∀ B, B ≤ b → Below B w (w.setCells b pre.length vs) := fun B hB => ⟨s1, s2, s3, by rw [s4]; exact Nat.le_refl _, fun k hk => setCells_far vs _ k (by omega)⟩
  refine ⟨_, rfl, ?_, Stp.only hb hot (hbl 0 (Nat.zero_le _)), hbl, hot⟩
  rw [h1]
  have h3 : cur.toList = pre ++ (vs ++ post) := by
    rw [h2]
    have e1 : (pre ++ (old ++ post)).take pre.length = pre := List.take_left
    have e2 : (pre ++ (old ++ post)).drop (pre.length + vs.length) = post := by
      rw [← List.drop_drop, List.drop_left, ← hl, List.drop_left]
    simp only [e1, e2, List.append_assoc]
  rw [← h3]
theorem setCells_alloc {w : World} {t : Nat} : ∀ (cs pre zs : List Value), zs.length = cs.length → (w.alloc (.cells (pre ++ zs).toArray t)).setCells w.heap.size pre.length cs = w.alloc (.cells (pre ++ cs).toArray t)
  | [], pre, zs, h => by
    cases zs with
    | nil => rfl
    | cons _ _ => cases h
  | v :: cs, pre, [], h => by cases h
  | v :: cs, pre, z :: zs, h => by
    show ((w.alloc (.cells (pre ++ z :: zs).toArray t)).setCell ⟨w.heap.size, pre.length, none⟩ v).setCells w.heap.size (pre.length + 1) cs = _
    rw [World.setCell_alloc_at _ _ _ _ _ rfl]
    have h1 : (pre ++ z :: zs).toArray.setIfInBounds pre.length v = ((pre ++ [v]) ++ zs).toArray := by simp
    rw [h1]
    have h2 := setCells_alloc (w := w) (t := t) cs (pre ++ [v]) zs (by simpa using h)
    simp only [List.length_append, List.length_cons, List.length_nil, Nat.zero_add] at h2
    rw [h2]
    simp
theorem blk_alloc {w : World} {t : Nat} (cs : List Value) : (w.alloc (.cells cs.toArray t)).heap[w.heap.size]? = some (.cells cs.toArray t (0, 0)) := blk_new w _
/-- A new box, filled at once. -/
theorem new_box {w : World} {t n : Nat} {zs cs : List Value} (hz : zs.length = n) (hc : cs.length = n) :
    ∃ W0, w.alloc (.cells zs.toArray t) = W0 ∧ W0.there w.heap.size 0 cs.toArray.size ∧ ∃ W1, W0.setCells w.heap.size 0 cs.toArray.toList = W1 ∧ w.alloc (.cells cs.toArray t) = W1 ∧ W1.heap[w.heap.size]? = some (.cells cs.toArray t (0, 0)) ∧ Below w.heap.size w W1 := by
  have hb' : (w.alloc (.cells zs.toArray t)).heap[w.heap.size]? = some (.cells ([] ++ (zs ++ [])).toArray t (0, 0)) := by simpa using blk_alloc zs
  refine ⟨_, rfl, ?_, _, rfl, (setCells_alloc cs [] zs (by rw [hz, hc])).symm, ?_, ?_⟩
  · have hs : cs.toArray.size = zs.length := by simp [hz, hc]
    rw [hs]
    exact there_blk [] zs [] hb'
  · rw [show (w.alloc (.cells zs.toArray t)).setCells w.heap.size 0 cs.toArray.toList = w.alloc (.cells cs.toArray t) from setCells_alloc cs [] zs (by rw [hz, hc])]
    exact blk_alloc cs
  · rw [show (w.alloc (.cells zs.toArray t)).setCells w.heap.size 0 cs.toArray.toList = w.alloc (.cells cs.toArray t) from setCells_alloc cs [] zs (by rw [hz, hc])]
    exact (Below.refl _ _).alloc (Nat.le_refl _) _
/-- The box of a result and a box of the call's own, both of zeros. -/
theorem two_boxes {w : World} {t n : Nat} {zs : List Value} (hz : zs.length = n) :
    ∃ W0, (w.alloc (.cells zs.toArray t)).alloc (.cells zs.toArray t) = W0 ∧ W0.there (w.heap.size + 1) 0 zs.toArray.size ∧ W0.setCells (w.heap.size + 1) 0 zs.toArray.toList = W0 ∧ W0.heap[w.heap.size]? = some (.cells zs.toArray t (0, 0)) ∧ W0.heap[w.heap.size + 1]? = some (.cells zs.toArray t (0, 0)) ∧ Below w.heap.size w W0 := by
  obtain ⟨W0, h0, h1, W1, h2, h5, h3, h4⟩ := new_box (w := w.alloc (.cells zs.toArray t)) (t := t) hz hz
  rw [World.size_alloc] at h1 h2 h3 h4
  have hb : Below w.heap.size w (w.alloc (.cells zs.toArray t)) := (Below.refl _ _).alloc (Nat.le_refl _) _
  have he : W1 = W0 := h5.symm.trans h0
  subst he
  exact ⟨W1, h0, h1, h2, (h4.block _ (Nat.lt_succ_self _)).trans (blk_alloc zs), h3, hb.trans (h4.mono (Nat.le_succ _))⟩
/-- What an append to a row of the call's own leaves as it was. -/
theorem Stp.row {α : Type} {d : Kd α} {e base : Nat} {ok : Nat → Prop} {w w' : World} {v : Value} {xs : List α} (h : d.R e w base ok v xs) (hg : w.grownBy w' v.ownBlock) : Stp [e] w w' :=
  Stp.grown hg (fun k hk => by
    obtain ⟨inner, ho⟩ := Kd.R_own h
    obtain ⟨cells, hc⟩ := own_typed ho k hk
    exact ⟨_, _, _, hc, by simp⟩)

/-- A row of the call's own ahead of a box that is made. -/
theorem row_lt {α : Type} {d : Kd α} {e base : Nat} {w : World} {v : Value} {xs : List α} (h : d.R e w base (fun _ => True) v xs) : d.R e w base (fun k => k < w.heap.size) v xs :=
  Kd.R_mono (Kd.R_bound h) (fun _ hk => hk.2.2.1)
theorem row_all {α : Type} {d : Kd α} {e base m : Nat} {w : World} {v : Value} {xs : List α} (h : d.R e w base (fun k => k < m) v xs) : d.R e w base (fun _ => True) v xs :=
  Kd.R_mono h (fun _ _ => trivial)
theorem row_apart {α : Type} {d : Kd α} {e base b : Nat} {w W : World} {v : Value} {xs : List α} (h : d.R e w base (fun k => k < b) v xs) (hot : ∀ k, k ≠ b → W.heap[k]? = w.heap[k]?) : d.R e W base (fun k => k < b) v xs :=
  Kd.R_move h (fun k hk => hot k (Nat.ne_of_lt hk))
/-- How many: what is told. -/
def MRel (B : Bs) (p : Nat) (bad : Bool) (n p' : Nat) (bad' : Bool) : Prop :=
  (bad' = true → n = 0 ∧ (bad = true ∨ dNum (B.drop p) = none ∨ ∃ y l, 4096 < y ∧ dNum (B.drop p) = some (y, l))) ∧ (bad' = false → bad = false ∧ dNum (B.drop p) = some ((n : Int), B.drop p'))
theorem ct_count {w0 w : World} {g1 g2 c p : Nat} {A : Option Addr} {B : Bs} {bad : Bool} (h : CAt w0 w g1 g2 A c B p bad) :
    Calls Tryz.prog 32 #[.pointer (some ⟨g2, 0, none⟩)] w fun e w' => ∃ (n p' : Nat) (bad' : Bool), e = .returned (.int .i64 n) ∧ CAt w0 w' g1 g2 A c B p' bad' ∧ Stp SC w w' ∧ n ≤ 4096 ∧ MRel B p bad n p' bad' := ct_many h
theorem ct_num {w0 w : World} {g1 g2 c p : Nat} {A : Option Addr} {B : Bs} {bad : Bool} (h : CAt w0 w g1 g2 A c B p bad) :
    Calls Tryz.prog 33 #[.pointer (some ⟨g2, 0, none⟩)] w (CDone dNum (fun v _ => ∃ y : Int, v = .int .i64 y) w0 g1 g2 A c B w p bad) :=
  (ct_number h).mono fun _ _ ⟨x, p', b', he, h1, h2, h3, _⟩ => ⟨_, p', b', he, ⟨x, rfl⟩, h1, h2, h3⟩
/-- k elements of n have been read. -/
def TRel {α : Type} (d : Dc α) (B : Bs) (p1 : Nat) (bad1 : Bool) (n k pr : Nat) (br : Bool) : Prop :=
  (br = true → bad1 = true ∨ dTimes d n (B.drop p1) = none) ∧ (br = false → bad1 = false ∧ ∃ xs, dTimes d k (B.drop p1) = some (xs, B.drop pr))
theorem TRel.start {α : Type} (d : Dc α) (B : Bs) (p1 : Nat) (bad1 : Bool) (n : Nat) : TRel d B p1 bad1 n 0 p1 bad1 := ⟨fun h => .inl h, fun h => ⟨h, [], rfl⟩⟩
theorem TRel.step {α : Type} {d : Dc α} {B : Bs} {p1 n k pr p2 : Nat} {bad1 b2 : Bool} (h : TRel d B p1 bad1 n k pr false) (hk : k < n) (hc : CRel d B pr false p2 b2) : TRel d B p1 bad1 n (k + 1) p2 b2 := by
  obtain ⟨h1, xs, h2⟩ := h.2 rfl
  refine ⟨fun hb => ?_, fun hb => ?_⟩
  · rcases hc.1 hb with h3 | h3
    · cases h3
    · exact .inr (times_none d h2 h3 hk)
  · obtain ⟨_, x, h3⟩ := hc.2 hb
    exact ⟨h1, xs ++ [x], by rw [dTimes_snoc, h2]; simp only [Option.bind_some, h3, Option.map_some]⟩
theorem TRel.done {α : Type} {d : Dc α} {B : Bs} {p p1 n k pr : Nat} {bad bad1 br : Bool} (h : TRel d B p1 bad1 n k pr br) (hm : MRel B p bad n p1 bad1) (h4 : n ≤ 4096) (hk : k = n ∨ br = true) : CRel (dList d) B p bad pr br := by
  have key : bad1 = false → dList d (B.drop p) = dTimes d n (B.drop p1) := fun hb => by
    obtain ⟨_, h1⟩ := hm.2 hb
    simp only [dList, h1, Option.bind_some, Int.toNat_natCast]
    exact if_neg (by omega)
  refine ⟨fun hb => ?_, fun hb => ?_⟩
  · have hh : bad1 = true → bad = true ∨ dList d (B.drop p) = none := fun h1 => by
      rcases (hm.1 h1).2 with h2 | h2 | ⟨y, l, h2, h3⟩
      · exact .inl h2
      · exact .inr (by simp only [dList, h2, Option.bind_none])
      · exact .inr (by simp only [dList, h3, Option.bind_some]; exact if_pos h2)
    rcases h.1 hb with h1 | h1
    · exact hh h1
    · cases hb1 : bad1 with
      | true => exact hh hb1
      | false => exact .inr (by rw [key hb1, h1])
  · obtain ⟨h1, xs, h2⟩ := h.2 hb
    have hkn : k = n := hk.elim id (fun e => by rw [hb] at e; cases e)
    subst hkn
    exact ⟨(hm.2 h1).1, xs, by rw [key h1, h2]⟩
/-- What a struct's reader does: some struct comes out. -/
abbrev POf {α : Type} (k : Kd α) (w : World) : Value → World → Prop := fun v w' => ∃ x cs, k.M w' w.heap.size (fun _ => True) x cs ∧ v = .agg cs.toArray
abbrev RowOf {α : Type} (k : Kd α) (e : Nat) (w : World) : Value → World → Prop := fun v w' => ∃ xs : List α, k.R e w' w.heap.size (fun _ => True) v xs
end Go.Proofs.YtoomcdgnnibjlaaGreat.Wr
/- The document's reader: rows. -/
namespace Go.Proofs.YtoomcdgnnibjlaaGreat.Wr
open Go.RowKit Go.Proofs.YtoomcdgnnibjlaaGreatW.PrintWords Go.Proofs.YtoomcdgnnibjlaaGreatW.PrintLast
set_option linter.unusedVariables false
set_option linter.unusedSimpArgs false

set_option maxRecDepth 100000 in
set_option maxHeartbeats 16000000 in
theorem ct_texts {w0 w : World} {g1 g2 c p0 : Nat} {A : Option Addr} {B : Bs} {b0 : Bool} (h : CAt w0 w g1 g2 A c B p0 b0) :
    Calls Tryz.prog 56 #[.pointer (some ⟨g2, 0, none⟩)] w (CDone (dList dText) (RowOf Kd.string 9 w) w0 g1 g2 A c B w p0 b0) := by
  have HSZ := Lib.hid h.below.size
  have C1 := Lib.hid (ct_count h)
  clear h
  go_enter Tryz.func56, Tryz.ntmps56
  go_wp2_with fail
  refine C1.out.mono ?_
  rintro e w1 ⟨n, p1, b1, rfl, S1', T1', hn4, hMR⟩
  have S1 := Lib.hid S1'
  have T1 := Lib.hid T1'
  have HMR := Lib.hid hMR
  clear S1' T1' hMR C1
  go_wp2_with fail
  go_loopw [4, 5] (fun v i wr => ∃ k : Nat, k ≤ n ∧ i = .int .i64 k ∧ ∃ (xs : List ByteArray) (pr : Nat) (br : Bool), xs.length = k ∧ Kd.string.R 9 wr w.heap.size (fun _ => True) v xs ∧ CAt w0 wr g1 g2 A c B pr br ∧ Stp SC w wr ∧ TRel dText B p1 b1 n k pr br) (fun _ i _ => n - (intOf i).toNat)
  case atStart => exact ⟨0, Nat.zero_le _, rfl, [], p1, b1, rfl, Kd.R_nil _ _ _ _ _, S1.out, T1.out, TRel.start _ _ _ _ _⟩
  case round =>
    obtain ⟨k, hk, rfl, xs, pr, br, hxl, hR, hS, hT, hL⟩ := hrel
    obtain ⟨A1, c1, hv, _, _⟩ := Kd.R_reads hR
    subst hv
    have HX := Lib.hid hxl
    have RX := Lib.hid hR
    have SR_ := Lib.hid hS
    have TR := Lib.hid hT
    have HL := Lib.hid hL
    clear hxl hR hS hT hL S1 T1
    have q1 := cell_blk SR_.out.c2 1 _ rfl
    go_upto_region 4 with (fail)
    go_cut [18] (fun v w' => v = .bool (decide (k < n) && !br) ∧ w' = wr)
    case first =>
      by_cases hlt : k < n
      · have hlt' : (k : Int) < (n : Int) := by omega
        cases br with
        | true =>
          go_wp2
          go_meet
          case rel => exact ⟨by simp [hlt], rfl⟩
        | false =>
          go_wp2
          go_meet
          case rel => exact ⟨by simp [hlt], rfl⟩
      · have hlt' : ¬ (k : Int) < (n : Int) := by omega
        go_wp2
        go_meet
        case rel => exact ⟨by simp [hlt], rfl⟩
    case rest =>
      obtain ⟨hb_, hw_⟩ := hcut
      replace hw_ := hw_.symm
      subst hw_
      subst hb_
      clear q1
      by_cases hgo : k < n ∧ br = false
      · obtain ⟨hlt, hbr⟩ := hgo
        subst hbr
        rw [show (decide (k < n) && !false) = true by simp [hlt]]
        go_wp2_with fail
        refine (ct_text SR_.out).mono ?_
        rintro e y1 ⟨_, p1, b1, rfl, ⟨x1, rfl⟩, S', T', hr⟩
        have RX' := T'.R RX.out (by decide)
        clear RX
        have RX := Lib.hid RX'
        clear RX'
        have S1 := Lib.hid S'
        have T1 := Lib.hid (TR.out.trans T')
        have HL1 := Lib.hid (HL.out.step hlt hr)
        clear S' T' hr SR_ TR HL
        have HE := Lib.hid (elem_ok (d := Kd.string) (cs := [.string x1]) (x := x1) (w := y1) (b := y1.heap.size) (base := w.heap.size) (v := Value.slice A1 xs.length c1) rfl (fun k hk => Kd.R_lt RX.out k hk) (Nat.le_trans T1.out.size (Nat.le_refl _)))
        go_wp2_with ((with_reducible refine gate_builtin (b := .append) (xs := #[.tmp 23, .tmp 25]) rfl ?_); at_builtin; refine Kd.R_append Kd.string (w0 := y1) w.heap.size rfl (.tmp 23) (.tmp 25) 28 9 (.string ⟨#[]⟩) 16 rfl Tryz.underlying28 info_text rfl (by decide) (by decide) (.slice A1 xs.length c1) xs x1 [.string x1] (fun _ => True) (fun k => True ∧ some k ≠ (Value.ownBlock (.slice A1 xs.length c1))) rfl rfl HE.out (fun _ h => h) (fun _ _ => trivial) RX.out (Below.refl _ _) (Nat.le_trans T1.out.size (Nat.le_refl _)) (by have := HX.out; omega) ?_; intro v1 w4 ho hb hg hat; have RX4 := Lib.hid ho; have HB4 := Lib.hid hb; have HG4 := Lib.hid hg; clear ho hb hg hat)
        have hst := Stp.row RX.out HG4.out
        have S4' := S1.out.stp hst (by decide) (HB4.out.mono (Nat.le_trans HSZ.out (Nat.le_refl _)))
        have T4' := T1.out.then HB4.out
        clear hst S1 T1
        have S4 := Lib.hid S4'
        have T4 := Lib.hid T4'
        clear S4' T4'
        clear RX
        have HX4 := Lib.hid (show (xs ++ [x1]).length = k + 1 by rw [List.length_append, HX.out]; rfl)
        go_wp2
        go_roundw
        case rel => exact ⟨k + 1, by omega, by simp, _, p1, b1, HX4.out, RX4.out, S4.out, T4.out, HL1.out⟩
        case measure => simp [intOf]; omega
      · have hbf : (decide (k < n) && !br) = false := by
          cases br with
          | true => simp
          | false => simpa using hgo
        have HGO := Lib.hid (show k = n ∨ br = true by
          cases br with
          | true => exact .inr rfl
          | false => exact .inl (by have : ¬ (k < n) := fun hh => hgo ⟨hh, rfl⟩
                                    omega))
        rw [hbf]
        clear hbf hgo
        go_wp2
        go_ret
        exact ⟨_, pr, br, rfl, ⟨xs, RX.out⟩, SR_.out, TR.out, HL.out.done HMR.out hn4 HGO.out⟩
set_option maxRecDepth 100000 in
set_option maxHeartbeats 16000000 in
theorem ct_columns {w0 w : World} {g1 g2 c p0 : Nat} {A : Option Addr} {B : Bs} {b0 : Bool} (h : CAt w0 w g1 g2 A c B p0 b0) :
    Calls Tryz.prog 94 #[.pointer (some ⟨g2, 0, none⟩)] w (CDone (dList dColumn) (RowOf kColumn 167 w) w0 g1 g2 A c B w p0 b0) := by
  have HSZ := Lib.hid h.below.size
  have C1 := Lib.hid (ct_count h)
  clear h
  go_enter Tryz.func94, Tryz.ntmps94
  go_wp2_with fail
  refine C1.out.mono ?_
  rintro e w1 ⟨n, p1, b1, rfl, S1', T1', hn4, hMR⟩
  have S1 := Lib.hid S1'
  have T1 := Lib.hid T1'
  have HMR := Lib.hid hMR
  clear S1' T1' hMR C1
  go_wp2_with fail
  go_loopw [4, 5] (fun v i wr => ∃ k : Nat, k ≤ n ∧ i = .int .i64 k ∧ ∃ (xs : List TColumn) (pr : Nat) (br : Bool), xs.length = k ∧ kColumn.R 167 wr w.heap.size (fun _ => True) v xs ∧ CAt w0 wr g1 g2 A c B pr br ∧ Stp SC w wr ∧ TRel dColumn B p1 b1 n k pr br) (fun _ i _ => n - (intOf i).toNat)
  case atStart => exact ⟨0, Nat.zero_le _, rfl, [], p1, b1, rfl, Kd.R_nil _ _ _ _ _, S1.out, T1.out, TRel.start _ _ _ _ _⟩
  case round =>
    obtain ⟨k, hk, rfl, xs, pr, br, hxl, hR, hS, hT, hL⟩ := hrel
    obtain ⟨A1, c1, hv, _, _⟩ := Kd.R_reads hR
    subst hv
    have HX := Lib.hid hxl
    have RX := Lib.hid hR
    have SR_ := Lib.hid hS
    have TR := Lib.hid hT
    have HL := Lib.hid hL
    clear hxl hR hS hT hL S1 T1
    have q1 := cell_blk SR_.out.c2 1 _ rfl
    go_upto_region 4 with (fail)
    go_cut [18] (fun v w' => v = .bool (decide (k < n) && !br) ∧ w' = wr)
    case first =>
      by_cases hlt : k < n
      · have hlt' : (k : Int) < (n : Int) := by omega
        cases br with
        | true =>
          go_wp2
          go_meet
          case rel => exact ⟨by simp [hlt], rfl⟩
        | false =>
          go_wp2
          go_meet
          case rel => exact ⟨by simp [hlt], rfl⟩
      · have hlt' : ¬ (k : Int) < (n : Int) := by omega
        go_wp2
        go_meet
        case rel => exact ⟨by simp [hlt], rfl⟩
    case rest =>
      obtain ⟨hb_, hw_⟩ := hcut
      replace hw_ := hw_.symm
      subst hw_
      subst hb_
      clear q1
      by_cases hgo : k < n ∧ br = false
      · obtain ⟨hlt, hbr⟩ := hgo
        subst hbr
        rw [show (decide (k < n) && !false) = true by simp [hlt]]
        have RX' := row_lt RX.out
        clear RX
        have RX := Lib.hid RX'
        clear RX'
        have HZ := Lib.hid (all_oneCell_toArray (kColumn.K_one (kColumn.K_of_M (w := w) (base := 0) (ok := fun _ => True) (mkMColumn ((⟨#[]⟩ : ByteArray), 0, false) ))))
        obtain ⟨V0, hV0, hth, V1, hV1, hVA, hbx, hbl⟩ := new_box (w := wr) (t := 167) (zs := [.string ⟨#[]⟩, .int .i64 0, .bool false]) (cs := [.string ⟨#[]⟩, .int .i64 0, .bool false]) rfl rfl
        have hst : Stp [] wr V1 := Stp.below hbl
        have RX' := hst.R RX.out (by decide)
        clear RX
        have RX := Lib.hid RX'
        clear RX'
        have S' := SR_.out.stays hbl
        have T' := TR.out.trans (Stp.below hbl)
        have HWE := Lib.hid TR.out.size
        have Be := Lib.hid hbx
        have HV0 := Lib.hid hV0
        have HV1 := Lib.hid hV1
        have HVA := Lib.hid hVA
        have HTH0 := Lib.hid hth
        clear hV0 hV1 hVA hth hst hbx hbl SR_ TR
        have S1 := Lib.hid S'
        have T1 := Lib.hid T'
        clear S' T'
        go_wp2_with (((with_reducible refine gate_store (t := 167) rfl ?_); rw [show wr.alloc (.cells #[.string ⟨#[]⟩, .int .i64 0, .bool false] 167) = V0 from HV0.out]; refine wpList_store_mid rfl 167 _ _ rfl wr.heap.size 0 #[.string ⟨#[]⟩, .int .i64 0, .bool false] rfl rfl HTH0.out (by kernel_rfl) HZ.out ?_; (first | rw [HV1.out] | (erw [HV1.out]))))
        try rw [HVA.out]
        clear HV0 HV1 HVA HTH0 HZ
        refine (ct_text S1.out).mono ?_
        rintro e y2 ⟨_, p2, b2, rfl, ⟨x2, rfl⟩, S', T', hr⟩
        have Be' := T'.keep Be.out (by decide)
        have RX' := T'.R RX.out (by decide)
        clear Be
        have Be := Lib.hid Be'
        clear Be'
        clear RX
        have RX := Lib.hid RX'
        clear RX'
        have S2 := Lib.hid S'
        have T2 := Lib.hid (T1.out.trans T')
        have L2 := Lib.hid hr
        clear S' T' hr S1 T1
        have hbx := Be.out
        have q := cell_blk hbx 0 _ rfl
        have fz := frozen_at hbx 0
        obtain ⟨w2, hw, hb2, hst, hbl, hot⟩ := put_one hbx 0 (.string x2)
        have Be' : w2.heap[wr.heap.size]? = some (.cells #[.string x2, .int .i64 0, .bool false] 167 (0, 0)) := hb2
        have RX' := row_apart RX.out hot
        clear Be
        have Be := Lib.hid Be'
        clear Be'
        clear RX
        have RX := Lib.hid RX'
        clear RX'
        have S2' := S2.out.stp hst (by decide) (hbl _ (by have := HSZ.out; have := HWE.out; omega))
        have T2' := T2.out.then (hbl w.heap.size (by have := HSZ.out; have := HWE.out; omega))
        have HV := Lib.hid hw
        clear hw hb2 hst hbl hot hbx
        clear S2 T2
        have S2s := Lib.hid S2'
        have T2s := Lib.hid T2'
        clear S2' T2'
        go_wp2_with (fail)
        first | rw [HV.out] | (erw [HV.out])
        clear HV q fz
        refine (ct_num S2s.out).mono ?_
        rintro e y3 ⟨_, p3, b3, rfl, ⟨x3, rfl⟩, S', T', hr⟩
        have Be' := T'.keep Be.out (by decide)
        have RX' := T'.R RX.out (by decide)
        clear Be
        have Be := Lib.hid Be'
        clear Be'
        clear RX
        have RX := Lib.hid RX'
        clear RX'
        have S3 := Lib.hid S'
        have T3 := Lib.hid (T2s.out.trans T')
        have L3 := Lib.hid hr
        clear S' T' hr S2s T2s
        have hbx := Be.out
        have q := cell_blk hbx 1 _ rfl
        have fz := frozen_at hbx 1
        obtain ⟨w3, hw, hb2, hst, hbl, hot⟩ := put_one hbx 1 (.int .i64 x3)
        have Be' : w3.heap[wr.heap.size]? = some (.cells #[.string x2, .int .i64 x3, .bool false] 167 (0, 0)) := hb2
        have RX' := row_apart RX.out hot
        clear Be
        have Be := Lib.hid Be'
        clear Be'
        clear RX
        have RX := Lib.hid RX'
        clear RX'
        have S3' := S3.out.stp hst (by decide) (hbl _ (by have := HSZ.out; have := HWE.out; omega))
        have T3' := T3.out.then (hbl w.heap.size (by have := HSZ.out; have := HWE.out; omega))
        have HV := Lib.hid hw
        clear hw hb2 hst hbl hot hbx
        clear S3 T3
        have S3s := Lib.hid S3'
        have T3s := Lib.hid T3'
        clear S3' T3'
        go_wp2_with (fail)
        first | rw [HV.out] | (erw [HV.out])
        clear HV q fz
        refine (ct_flag S3s.out).mono ?_
        rintro e y4 ⟨_, p4, b4, rfl, ⟨x4, rfl⟩, S', T', hr⟩
        have Be' := T'.keep Be.out (by decide)
        have RX' := T'.R RX.out (by decide)
        clear Be
        have Be := Lib.hid Be'
        clear Be'
        clear RX
        have RX := Lib.hid RX'
        clear RX'
        have S4 := Lib.hid S'
        have T4 := Lib.hid (T3s.out.trans T')
        have L4 := Lib.hid hr
        clear S' T' hr S3s T3s
        have hbx := Be.out
        have q := cell_blk hbx 2 _ rfl
        have fz := frozen_at hbx 2
        obtain ⟨w4, hw, hb2, hst, hbl, hot⟩ := put_one hbx 2 (.bool x4)
        have Be' : w4.heap[wr.heap.size]? = some (.cells #[.string x2, .int .i64 x3, .bool x4] 167 (0, 0)) := hb2
        have RX' := row_apart RX.out hot
        clear Be
        have Be := Lib.hid Be'
        clear Be'
        clear RX
        have RX := Lib.hid RX'
        clear RX'
        have S4' := S4.out.stp hst (by decide) (hbl _ (by have := HSZ.out; have := HWE.out; omega))
        have T4' := T4.out.then (hbl w.heap.size (by have := HSZ.out; have := HWE.out; omega))
        have HV := Lib.hid hw
        clear hw hb2 hst hbl hot hbx
        clear S4 T4
        have S4s := Lib.hid S4'
        have T4s := Lib.hid T4'
        clear S4' T4'
        go_upto_region 10 with (fail)
        first | rw [HV.out] | (erw [HV.out])
        clear HV q fz
        have RX' := row_all RX.out
        clear RX
        have RX := Lib.hid RX'
        clear RX'
        have HL' := Lib.hid (HL.out.step hlt (CRel.seq L2.out (CRel.seq L3.out (L4.out))))
        clear HL
        have HE := Lib.hid (elem_ok (mkMColumn (w := w4) (base := w4.heap.size) (ok := fun _ => True) (x2, x3, x4)) (fun k hk => Kd.R_lt RX.out k hk) (Nat.le_trans T4s.out.size (Nat.le_refl _)) (v := Value.slice A1 xs.length c1))
        have HRG := Lib.hid (range_blk [] [.string x2, .int .i64 x3, .bool x4] [] Be.out)
        go_wp2_with (first | ((with_reducible refine gate_load (t := 167) rfl ?_); refine wpList_load_mid rfl 167 _ rfl (wr.heap.size) 0 rfl [.string x2, .int .i64 x3, .bool x4] _ HRG.out Tryz.underlying167 rfl (by kernel_rfl) ?_) | ((with_reducible refine gate_builtin (b := .append) (xs := #[.tmp 31, .tmp 33]) rfl ?_); at_builtin; refine Kd.R_append kColumn (w0 := w4) w.heap.size rfl (.tmp 31) (.tmp 33) 61 167 (.agg #[.string ⟨#[]⟩, .int .i64 0, .bool false]) 32 rfl Tryz.underlying61 info_Column rfl (by decide) (by decide) (.slice A1 xs.length c1) xs (x2, x3, x4) [.string x2, .int .i64 x3, .bool x4] (fun _ => True) (fun k => True ∧ some k ≠ (Value.ownBlock (.slice A1 xs.length c1))) rfl rfl HE.out (fun _ h => h) (fun _ _ => trivial) RX.out (Below.refl _ _) (Nat.le_trans T4s.out.size (Nat.le_refl _)) (by have := HX.out; omega) ?_; intro v1 w4 ho hb hg hat; have RX4 := Lib.hid ho; have HB4 := Lib.hid hb; have HG4 := Lib.hid hg; clear ho hb hg hat))
        clear HRG HE
        clear Be
        have hst := Stp.row RX.out HG4.out
        have S4' := S4s.out.stp hst (by decide) (HB4.out.mono (Nat.le_trans HSZ.out (Nat.le_refl _)))
        have T4' := T4s.out.then HB4.out
        clear hst S4s T4s
        have S4 := Lib.hid S4'
        have T4 := Lib.hid T4'
        clear S4' T4'
        clear RX
        have HX4 := Lib.hid (show (xs ++ [(x2, x3, x4)]).length = k + 1 by rw [List.length_append, HX.out]; rfl)
        go_wp2
        go_roundw
        case rel => exact ⟨k + 1, by omega, by simp, _, p4, b4, HX4.out, RX4.out, S4.out, T4.out, HL'.out⟩
        case measure => simp [intOf]; omega
      · have hbf : (decide (k < n) && !br) = false := by
          cases br with
          | true => simp
          | false => simpa using hgo
        have HGO := Lib.hid (show k = n ∨ br = true by
          cases br with
          | true => exact .inr rfl
          | false => exact .inl (by have : ¬ (k < n) := fun hh => hgo ⟨hh, rfl⟩
                                    omega))
        rw [hbf]
        clear hbf hgo
        go_wp2
        go_ret
        exact ⟨_, pr, br, rfl, ⟨xs, RX.out⟩, SR_.out, TR.out, HL.out.done HMR.out hn4 HGO.out⟩
end Go.Proofs.YtoomcdgnnibjlaaGreat.Wr
/- The document's reader: a config, a rule. -/
namespace Go.Proofs.YtoomcdgnnibjlaaGreat.Wr
open Go.RowKit Go.Proofs.YtoomcdgnnibjlaaGreatW.PrintWords Go.Proofs.YtoomcdgnnibjlaaGreatW.PrintLast
set_option linter.unusedVariables false
set_option linter.unusedSimpArgs false

set_option maxRecDepth 100000 in
set_option maxHeartbeats 16000000 in
theorem ct_Rule {w0 w : World} {g1 g2 c p0 : Nat} {A : Option Addr} {B : Bs} {b0 : Bool} (h : CAt w0 w g1 g2 A c B p0 b0) :
    Calls Tryz.prog 95 #[.pointer (some ⟨g2, 0, none⟩)] w (CDone dRule (POf kRule w) w0 g1 g2 A c B w p0 b0) := by
  obtain ⟨V1, hV0, hth, hV1, hr0, hx0, hbl⟩ := two_boxes (w := w) (t := 64) (zs := [.string ⟨#[]⟩, .int .i64 0, .slice none 0 0, .int .i64 0, .int .i64 0, .string ⟨#[]⟩, .string ⟨#[]⟩, .string ⟨#[]⟩]) rfl
  have HSZ := Lib.hid h.below.size
  have S0 := Lib.hid (h.stays hbl)
  have T0 := Lib.hid (Stp.below (S := SC) hbl)
  have Br := Lib.hid hr0
  have Bx := Lib.hid hx0
  have HV0 := Lib.hid hV0
  have HV1 := Lib.hid hV1
  have HTH0 := Lib.hid hth
  clear h hV0 hth hV1 hr0 hx0 hbl
  go_enter Tryz.func95, Tryz.ntmps95
  have HZ := Lib.hid (all_oneCell_toArray (kRule.K_one (kRule.K_of_M (w := w) (base := 0) (ok := fun _ => True) (mkMRule ((⟨#[]⟩ : ByteArray), 0, [], 0, 0, (⟨#[]⟩ : ByteArray), (⟨#[]⟩ : ByteArray), (⟨#[]⟩ : ByteArray)) (Kd.R_nil _ _ _ _ _)))))
  go_wp2_with (((with_reducible refine gate_store (t := 64) rfl ?_); rw [show (w.alloc (.cells #[.string ⟨#[]⟩, .int .i64 0, .slice none 0 0, .int .i64 0, .int .i64 0, .string ⟨#[]⟩, .string ⟨#[]⟩, .string ⟨#[]⟩] 64)).alloc (.cells #[.string ⟨#[]⟩, .int .i64 0, .slice none 0 0, .int .i64 0, .int .i64 0, .string ⟨#[]⟩, .string ⟨#[]⟩, .string ⟨#[]⟩] 64) = V1 from HV0.out]; refine wpList_store_mid rfl 64 _ _ rfl (w.heap.size + 1) 0 #[.string ⟨#[]⟩, .int .i64 0, .slice none 0 0, .int .i64 0, .int .i64 0, .string ⟨#[]⟩, .string ⟨#[]⟩, .string ⟨#[]⟩] rfl rfl HTH0.out (by kernel_rfl) HZ.out ?_; (first | rw [HV1.out] | (erw [HV1.out]))))
  try rw [HV0.out]
  clear HV0 HV1 HTH0 HZ
  refine (ct_text S0.out).mono ?_
  rintro e y1 ⟨_, p1, b1, rfl, ⟨x1, rfl⟩, S', T', hr⟩
  have Br' := T'.keep Br.out (by decide)
  have Bx' := T'.keep Bx.out (by decide)
  clear Br
  have Br := Lib.hid Br'
  clear Br'
  clear Bx
  have Bx := Lib.hid Bx'
  clear Bx'
  have S1 := Lib.hid S'
  have T1 := Lib.hid (T0.out.trans T')
  have L1 := Lib.hid hr
  clear S' T' hr S0 T0
  have hbx := Bx.out
  have q := cell_blk hbx 0 _ rfl
  have fz := frozen_at hbx 0
  obtain ⟨w1, hw, hb2, hst, hbl, hot⟩ := put_one hbx 0 (.string x1)
  have Bx' : w1.heap[w.heap.size + 1]? = some (.cells #[.string x1, .int .i64 0, .slice none 0 0, .int .i64 0, .int .i64 0, .string ⟨#[]⟩, .string ⟨#[]⟩, .string ⟨#[]⟩] 64 (0, 0)) := hb2
  have Br' := (hot _ (by omega)).trans Br.out
  clear Br
  have Br := Lib.hid Br'
  clear Br'
  clear Bx
  have Bx := Lib.hid Bx'
  clear Bx'
  have S1' := S1.out.stp hst (by decide) (hbl _ (by have := HSZ.out; omega))
  have T1' := T1.out.then (hbl w.heap.size (by have := HSZ.out; omega))
  have HV := Lib.hid hw
  clear hw hb2 hst hbl hot hbx
  clear S1 T1
  have S1s := Lib.hid S1'
  have T1s := Lib.hid T1'
  clear S1' T1'
  go_wp2_with (fail)
  first | rw [HV.out] | (erw [HV.out])
  clear HV q fz
  refine (ct_num S1s.out).mono ?_
  rintro e y2 ⟨_, p2, b2, rfl, ⟨x2, rfl⟩, S', T', hr⟩
  have Br' := T'.keep Br.out (by decide)
  have Bx' := T'.keep Bx.out (by decide)
  clear Br
  have Br := Lib.hid Br'
  clear Br'
  clear Bx
  have Bx := Lib.hid Bx'
  clear Bx'
  have S2 := Lib.hid S'
  have T2 := Lib.hid (T1s.out.trans T')
  have L2 := Lib.hid hr
  clear S' T' hr S1s T1s
  have hbx := Bx.out
  have q := cell_blk hbx 1 _ rfl
  have fz := frozen_at hbx 1
  obtain ⟨w2, hw, hb2, hst, hbl, hot⟩ := put_one hbx 1 (.int .i64 x2)
  have Bx' : w2.heap[w.heap.size + 1]? = some (.cells #[.string x1, .int .i64 x2, .slice none 0 0, .int .i64 0, .int .i64 0, .string ⟨#[]⟩, .string ⟨#[]⟩, .string ⟨#[]⟩] 64 (0, 0)) := hb2
  have Br' := (hot _ (by omega)).trans Br.out
  clear Br
  have Br := Lib.hid Br'
  clear Br'
  clear Bx
  have Bx := Lib.hid Bx'
  clear Bx'
  have S2' := S2.out.stp hst (by decide) (hbl _ (by have := HSZ.out; omega))
  have T2' := T2.out.then (hbl w.heap.size (by have := HSZ.out; omega))
  have HV := Lib.hid hw
  clear hw hb2 hst hbl hot hbx
  clear S2 T2
  have S2s := Lib.hid S2'
  have T2s := Lib.hid T2'
  clear S2' T2'
  go_wp2_with (fail)
  first | rw [HV.out] | (erw [HV.out])
  clear HV q fz
  refine (ct_texts S2s.out).mono ?_
  rintro e y3 ⟨u, p3, b3, rfl, ⟨x3, hR⟩, S', T', hr⟩
  have Br' := T'.keep Br.out (by decide)
  have Bx' := T'.keep Bx.out (by decide)
  obtain ⟨A3, c3, hu, _, _⟩ := Kd.R_reads hR
  subst hu
  have R3_ := Kd.R_lower hR T2s.out.size
  have R3 := Lib.hid R3_
  clear hR R3_
  clear Br
  have Br := Lib.hid Br'
  clear Br'
  clear Bx
  have Bx := Lib.hid Bx'
  clear Bx'
  have S3 := Lib.hid S'
  have T3 := Lib.hid (T2s.out.trans T')
  have L3 := Lib.hid hr
  clear S' T' hr S2s T2s
  have hbx := Bx.out
  have q := cell_blk hbx 2 _ rfl
  have fz := frozen_at hbx 2
  obtain ⟨w3, hw, hb2, hst, hbl, hot⟩ := put_one hbx 2 (.slice A3 x3.length c3)
  have Bx' : w3.heap[w.heap.size + 1]? = some (.cells #[.string x1, .int .i64 x2, .slice A3 x3.length c3, .int .i64 0, .int .i64 0, .string ⟨#[]⟩, .string ⟨#[]⟩, .string ⟨#[]⟩] 64 (0, 0)) := hb2
  have Br' := (hot _ (by omega)).trans Br.out
  have R3' := hst.R R3.out (by decide)
  clear Br
  have Br := Lib.hid Br'
  clear Br'
  clear Bx
  have Bx := Lib.hid Bx'
  clear Bx'
  clear R3
  have R3 := Lib.hid R3'
  clear R3'
  have S3' := S3.out.stp hst (by decide) (hbl _ (by have := HSZ.out; omega))
  have T3' := T3.out.then (hbl w.heap.size (by have := HSZ.out; omega))
  have HV := Lib.hid hw
  clear hw hb2 hst hbl hot hbx
  clear S3 T3
  have S3s := Lib.hid S3'
  have T3s := Lib.hid T3'
  clear S3' T3'
  go_wp2_with (fail)
  first | rw [HV.out] | (erw [HV.out])
  clear HV q fz
  refine (ct_whole S3s.out).mono ?_
  rintro e y4 ⟨_, p4, b4, rfl, ⟨x4, rfl⟩, S', T', hr⟩
  have Br' := T'.keep Br.out (by decide)
  have Bx' := T'.keep Bx.out (by decide)
  have R3' := T'.R R3.out (by decide)
  clear Br
  have Br := Lib.hid Br'
  clear Br'
  clear Bx
  have Bx := Lib.hid Bx'
  clear Bx'
  clear R3
  have R3 := Lib.hid R3'
  clear R3'
  have S4 := Lib.hid S'
  have T4 := Lib.hid (T3s.out.trans T')
  have L4 := Lib.hid hr
  clear S' T' hr S3s T3s
  have hbx := Bx.out
  have q := cell_blk hbx 3 _ rfl
  have fz := frozen_at hbx 3
  obtain ⟨w4, hw, hb2, hst, hbl, hot⟩ := put_one hbx 3 (.int .i64 x4)
  have Bx' : w4.heap[w.heap.size + 1]? = some (.cells #[.string x1, .int .i64 x2, .slice A3 x3.length c3, .int .i64 x4, .int .i64 0, .string ⟨#[]⟩, .string ⟨#[]⟩, .string ⟨#[]⟩] 64 (0, 0)) := hb2
  have Br' := (hot _ (by omega)).trans Br.out
  have R3' := hst.R R3.out (by decide)
  clear Br
  have Br := Lib.hid Br'
  clear Br'
  clear Bx
  have Bx := Lib.hid Bx'
  clear Bx'
  clear R3
  have R3 := Lib.hid R3'
  clear R3'
  have S4' := S4.out.stp hst (by decide) (hbl _ (by have := HSZ.out; omega))
  have T4' := T4.out.then (hbl w.heap.size (by have := HSZ.out; omega))
  have HV := Lib.hid hw
  clear hw hb2 hst hbl hot hbx
  clear S4 T4
  have S4s := Lib.hid S4'
  have T4s := Lib.hid T4'
  clear S4' T4'
  go_wp2_with (fail)
  first | rw [HV.out] | (erw [HV.out])
  clear HV q fz
  refine (ct_whole S4s.out).mono ?_
  rintro e y5 ⟨_, p5, b5, rfl, ⟨x5, rfl⟩, S', T', hr⟩
  have Br' := T'.keep Br.out (by decide)
  have Bx' := T'.keep Bx.out (by decide)
  have R3' := T'.R R3.out (by decide)
  clear Br
  have Br := Lib.hid Br'
  clear Br'
  clear Bx
  have Bx := Lib.hid Bx'
  clear Bx'
  clear R3
  have R3 := Lib.hid R3'
  clear R3'
  have S5 := Lib.hid S'
  have T5 := Lib.hid (T4s.out.trans T')
  have L5 := Lib.hid hr
  clear S' T' hr S4s T4s
  have hbx := Bx.out
  have q := cell_blk hbx 4 _ rfl
  have fz := frozen_at hbx 4
  obtain ⟨w5, hw, hb2, hst, hbl, hot⟩ := put_one hbx 4 (.int .i64 x5)
  have Bx' : w5.heap[w.heap.size + 1]? = some (.cells #[.string x1, .int .i64 x2, .slice A3 x3.length c3, .int .i64 x4, .int .i64 x5, .string ⟨#[]⟩, .string ⟨#[]⟩, .string ⟨#[]⟩] 64 (0, 0)) := hb2
  have Br' := (hot _ (by omega)).trans Br.out
  have R3' := hst.R R3.out (by decide)
  clear Br
  have Br := Lib.hid Br'
  clear Br'
  clear Bx
  have Bx := Lib.hid Bx'
  clear Bx'
  clear R3
  have R3 := Lib.hid R3'
  clear R3'
  have S5' := S5.out.stp hst (by decide) (hbl _ (by have := HSZ.out; omega))
  have T5' := T5.out.then (hbl w.heap.size (by have := HSZ.out; omega))
  have HV := Lib.hid hw
  clear hw hb2 hst hbl hot hbx
  clear S5 T5
  have S5s := Lib.hid S5'
  have T5s := Lib.hid T5'
  clear S5' T5'
  go_wp2_with (fail)
  first | rw [HV.out] | (erw [HV.out])
  clear HV q fz
  refine (ct_text S5s.out).mono ?_
  rintro e y6 ⟨_, p6, b6, rfl, ⟨x6, rfl⟩, S', T', hr⟩
  have Br' := T'.keep Br.out (by decide)
  have Bx' := T'.keep Bx.out (by decide)
  have R3' := T'.R R3.out (by decide)
  clear Br
  have Br := Lib.hid Br'
  clear Br'
  clear Bx
  have Bx := Lib.hid Bx'
  clear Bx'
  clear R3
  have R3 := Lib.hid R3'
  clear R3'
  have S6 := Lib.hid S'
  have T6 := Lib.hid (T5s.out.trans T')
  have L6 := Lib.hid hr
  clear S' T' hr S5s T5s
  have hbx := Bx.out
  have q := cell_blk hbx 5 _ rfl
  have fz := frozen_at hbx 5
  obtain ⟨w6, hw, hb2, hst, hbl, hot⟩ := put_one hbx 5 (.string x6)
  have Bx' : w6.heap[w.heap.size + 1]? = some (.cells #[.string x1, .int .i64 x2, .slice A3 x3.length c3, .int .i64 x4, .int .i64 x5, .string x6, .string ⟨#[]⟩, .string ⟨#[]⟩] 64 (0, 0)) := hb2
  have Br' := (hot _ (by omega)).trans Br.out
  have R3' := hst.R R3.out (by decide)
  clear Br
  have Br := Lib.hid Br'
  clear Br'
  clear Bx
  have Bx := Lib.hid Bx'
  clear Bx'
  clear R3
  have R3 := Lib.hid R3'
  clear R3'
  have S6' := S6.out.stp hst (by decide) (hbl _ (by have := HSZ.out; omega))
  have T6' := T6.out.then (hbl w.heap.size (by have := HSZ.out; omega))
  have HV := Lib.hid hw
  clear hw hb2 hst hbl hot hbx
  clear S6 T6
  have S6s := Lib.hid S6'
  have T6s := Lib.hid T6'
  clear S6' T6'
  go_wp2_with (fail)
  first | rw [HV.out] | (erw [HV.out])
  clear HV q fz
  refine (ct_text S6s.out).mono ?_
  rintro e y7 ⟨_, p7, b7, rfl, ⟨x7, rfl⟩, S', T', hr⟩
  have Br' := T'.keep Br.out (by decide)
  have Bx' := T'.keep Bx.out (by decide)
  have R3' := T'.R R3.out (by decide)
  clear Br
  have Br := Lib.hid Br'
  clear Br'
  clear Bx
  have Bx := Lib.hid Bx'
  clear Bx'
  clear R3
  have R3 := Lib.hid R3'
  clear R3'
  have S7 := Lib.hid S'
  have T7 := Lib.hid (T6s.out.trans T')
  have L7 := Lib.hid hr
  clear S' T' hr S6s T6s
  have hbx := Bx.out
  have q := cell_blk hbx 6 _ rfl
  have fz := frozen_at hbx 6
  obtain ⟨w7, hw, hb2, hst, hbl, hot⟩ := put_one hbx 6 (.string x7)
  have Bx' : w7.heap[w.heap.size + 1]? = some (.cells #[.string x1, .int .i64 x2, .slice A3 x3.length c3, .int .i64 x4, .int .i64 x5, .string x6, .string x7, .string ⟨#[]⟩] 64 (0, 0)) := hb2
  have Br' := (hot _ (by omega)).trans Br.out
  have R3' := hst.R R3.out (by decide)
  clear Br
  have Br := Lib.hid Br'
  clear Br'
  clear Bx
  have Bx := Lib.hid Bx'
  clear Bx'
  clear R3
  have R3 := Lib.hid R3'
  clear R3'
  have S7' := S7.out.stp hst (by decide) (hbl _ (by have := HSZ.out; omega))
  have T7' := T7.out.then (hbl w.heap.size (by have := HSZ.out; omega))
  have HV := Lib.hid hw
  clear hw hb2 hst hbl hot hbx
  clear S7 T7
  have S7s := Lib.hid S7'
  have T7s := Lib.hid T7'
  clear S7' T7'
  go_wp2_with (fail)
  first | rw [HV.out] | (erw [HV.out])
  clear HV q fz
  refine (ct_text S7s.out).mono ?_
  rintro e y8 ⟨_, p8, b8, rfl, ⟨x8, rfl⟩, S', T', hr⟩
  have Br' := T'.keep Br.out (by decide)
  have Bx' := T'.keep Bx.out (by decide)
  have R3' := T'.R R3.out (by decide)
  clear Br
  have Br := Lib.hid Br'
  clear Br'
  clear Bx
  have Bx := Lib.hid Bx'
  clear Bx'
  clear R3
  have R3 := Lib.hid R3'
  clear R3'
  have S8 := Lib.hid S'
  have T8 := Lib.hid (T7s.out.trans T')
  have L8 := Lib.hid hr
  clear S' T' hr S7s T7s
  have hbx := Bx.out
  have q := cell_blk hbx 7 _ rfl
  have fz := frozen_at hbx 7
  obtain ⟨w8, hw, hb2, hst, hbl, hot⟩ := put_one hbx 7 (.string x8)
  have Bx' : w8.heap[w.heap.size + 1]? = some (.cells #[.string x1, .int .i64 x2, .slice A3 x3.length c3, .int .i64 x4, .int .i64 x5, .string x6, .string x7, .string x8] 64 (0, 0)) := hb2
  have Br' := (hot _ (by omega)).trans Br.out
  have R3' := hst.R R3.out (by decide)
  clear Br
  have Br := Lib.hid Br'
  clear Br'
  clear Bx
  have Bx := Lib.hid Bx'
  clear Bx'
  clear R3
  have R3 := Lib.hid R3'
  clear R3'
  have S8' := S8.out.stp hst (by decide) (hbl _ (by have := HSZ.out; omega))
  have T8' := T8.out.then (hbl w.heap.size (by have := HSZ.out; omega))
  have HV := Lib.hid hw
  clear hw hb2 hst hbl hot hbx
  clear S8 T8
  have S8s := Lib.hid S8'
  have T8s := Lib.hid T8'
  clear S8' T8'
  go_upto_region 10 with (fail)
  first | rw [HV.out] | (erw [HV.out])
  clear HV q fz
  have HM := Lib.hid (mkMRule (w := w8) (base := w.heap.size) (ok := fun _ => True) (x1, x2, x3, x4, x5, x6, x7, x8) R3.out)
  obtain ⟨WF, hWF, hbF, hst, hblF, hotF⟩ := put_many [] [.string ⟨#[]⟩, .int .i64 0, .slice none 0 0, .int .i64 0, .int .i64 0, .string ⟨#[]⟩, .string ⟨#[]⟩, .string ⟨#[]⟩] [.string x1, .int .i64 x2, .slice A3 x3.length c3, .int .i64 x4, .int .i64 x5, .string x6, .string x7, .string x8] [] Br.out rfl
  have HF := Lib.hid hWF
  have BF := Lib.hid hbF
  have HFT := Lib.hid (there_blk [] [.string ⟨#[]⟩, .int .i64 0, .slice none 0 0, .int .i64 0, .int .i64 0, .string ⟨#[]⟩, .string ⟨#[]⟩, .string ⟨#[]⟩] [] Br.out)
  have HRG := Lib.hid (range_blk [] [.string x1, .int .i64 x2, .slice A3 x3.length c3, .int .i64 x4, .int .i64 x5, .string x6, .string x7, .string x8] [] Bx.out)
  have HON := Lib.hid (all_oneCell_toArray (kRule.K_one (kRule.K_of_M HM.out)))
  have HMF := Lib.hid (hst.M HM.out (by decide))
  have SF := Lib.hid (S8s.out.stp hst (by decide) (hblF _ HSZ.out))
  have TF := Lib.hid (T8s.out.then (hblF _ (Nat.le_refl _)))
  clear hWF hbF hst hblF hotF HM Bx Br R3
  go_wp2_with (first | ((with_reducible refine gate_load (t := 64) rfl ?_); refine wpList_load_mid rfl 64 _ rfl (w.heap.size + 1) 0 rfl [.string x1, .int .i64 x2, .slice A3 x3.length c3, .int .i64 x4, .int .i64 x5, .string x6, .string x7, .string x8] _ HRG.out Tryz.underlying64 rfl (by kernel_rfl) ?_) | ((with_reducible refine gate_store (t := 64) rfl ?_); refine wpList_store_mid rfl 64 _ _ rfl w.heap.size 0 #[.string x1, .int .i64 x2, .slice A3 x3.length c3, .int .i64 x4, .int .i64 x5, .string x6, .string x7, .string x8] rfl rfl HFT.out (by kernel_rfl) HON.out ?_; (first | rw [HF.out] | (erw [HF.out]))))
  refine bodyPost_ret (v := .agg #[.string x1, .int .i64 x2, .slice A3 x3.length c3, .int .i64 x4, .int .i64 x5, .string x6, .string x7, .string x8]) (results_cell_row rfl _ _ w.heap.size 64 #[.string x1, .int .i64 x2, .slice A3 x3.length c3, .int .i64 x4, .int .i64 x5, .string x6, .string x7, .string x8] (0, 0) _ rfl BF.out Tryz.underlying64 rfl (by kernel_rfl)) rfl ?_
  exact ⟨_, p8, b8, rfl, ⟨(x1, x2, x3, x4, x5, x6, x7, x8), _, HMF.out, rfl⟩, SF.out, TF.out, CRel.seq L1.out (CRel.seq L2.out (CRel.seq L3.out (CRel.seq L4.out (CRel.seq L5.out (CRel.seq L6.out (CRel.seq L7.out (L8.out)))))))⟩
end Go.Proofs.YtoomcdgnnibjlaaGreat.Wr
