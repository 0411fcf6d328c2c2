/- Texts put together: WrE, WrF, PutMachine, RrE, RrF, GetMachine, Ext, LawWireMore. -/
import Derived.Test.YtoomcdgnnibjlaaMxb
import Derived.Test.YtoomcdgnnibjlaaMxa
/- The program's writer. -/
namespace Go.Proofs.Ytoomcdgnnibjlaa.Wr
open Go.RowKit Go.Proofs.YtoomcdgnnibjlaaW.PrintWords Go.Proofs.YtoomcdgnnibjlaaW.PrintLast
set_option linter.unusedVariables false
set_option linter.unusedSimpArgs false

set_option maxRecDepth 100000 in
set_option maxHeartbeats 16000000 in
theorem wr_many_Rule (A : Option Addr) (c : Nat) {l : List TRule} {w0 w : World} {g : Nat} {v : Value} {z0 : Bs} (h0 : kRule.C w0 A l.length l) (hS : WAt w0 w g v z0) (hr : z0.length + wList wRule l < 140737488355328) :
    Calls Try.prog 158 #[.pointer (some ⟨g, 0, none⟩), .slice A l.length c, .func (.func 90) #[] #[]] w (WDone w0 g w (eList eRule l) z0) := by
  have hx1 : l.length ≤ 9223372036854775807 := h0.2.1
  have S0 := Lib.hid hS
  clear hS
  by_cases h4 : 4096 < l.length
  · have HE := Lib.hid (show eList eRule l = .error 2 from if_pos h4)
    have h4' : (4096 : Int) < (l.length : Int) := by omega
    clear h4 hr
    go_enter Try.func158, Try.ntmps158
    go_wp2
    exact ⟨rfl, .inr ⟨2, HE.out, rfl, S0.out.below, Stp.refl _ _⟩⟩
  · have hlen : eList eRule l = cat (eNum l.length) (cats (l.map eRule)) := if_neg h4
    have hnum : eNum (l.length : Int) = .ok (lows (l.length : Int) 4) := if_pos ⟨by omega, by omega⟩
    have hwl : wList wRule l = 4 + wSum wRule l := if_neg h4
    rw [hwl] at hr
    rw [hnum] at hlen
    clear hwl
    have HL := Lib.hid hlen
    have HN := Lib.hid hnum
    clear hlen hnum
    have h4' : (l.length : Int) ≤ 4096 := by omega
    go_enter Try.func158, Try.ntmps158
    go_wp2_with fail
    refine (wr_number (l.length : Int) S0.out (by omega)).mono ?_
    rintro e w1 (⟨b1, hb1, rfl, v1, S1', T1'⟩ | ⟨c1, hc1, _⟩)
    rotate_left
    · exact absurd (HN.out.symm.trans hc1) (by simp)
    rw [HN.out] at hb1
    cases hb1
    have S1 := Lib.hid S1'
    have T1 := Lib.hid T1'
    clear S1' T1' S0
    go_wp2_with fail
    go_loopw [19] (fun i wr => ∃ k : Nat, k ≤ l.length ∧ i = .int .i64 k ∧ ∃ vr b, cats ((l.take k).map eRule) = .ok b ∧ WAt w0 wr g vr (z0 ++ lows (l.length : Int) 4 ++ b) ∧ Stp SW w wr) (fun i _ => l.length - (intOf i).toNat)
    case atStart => exact ⟨0, Nat.zero_le _, rfl, v1, [], rfl, by rw [List.append_nil]; exact S1.out, T1.out⟩
    case round =>
      obtain ⟨k, hk, rfl, vr, b, hb, hS, hT⟩ := hrel
      have SR := Lib.hid hS
      have TR := Lib.hid hT
      have HBK := Lib.hid hb
      clear hS hT hb S1 T1
      by_cases hlt : k < l.length
      · have hroom : (z0 ++ lows (l.length : Int) 4 ++ b).length + wRule l[k] < 140737488355328 := by
          have h1 := cats_len codRule.len _ _ HBK.out
          have h2 := wSum_take wRule l k hlt
          have h3 := wSum_le wRule l (k + 1)
          rw [List.length_append, List.length_append, lows_length]
          omega
        obtain ⟨ad, B2, d2, e0, g0, g1, g2, g3, g4, g5, g6, g7, _, m2⟩ := atRule h0 k hlt
        cases e0
        have g0' := pw_cell_below SR.out.below g0
        clear g0
        have g1' := pw_cell_below SR.out.below g1
        clear g1
        have g2' := pw_cell_below SR.out.below g2
        clear g2
        have g3' := pw_cell_below SR.out.below g3
        clear g3
        have g4' := pw_cell_below SR.out.below g4
        clear g4
        have g5' := pw_cell_below SR.out.below g5
        clear g5
        have g6' := pw_cell_below SR.out.below g6
        clear g6
        have g7' := pw_cell_below SR.out.below g7
        clear g7
        obtain ⟨W1, hW1, Z0', TB'⟩ := wr_box SR.out TR.out #[.string l[k].1, .int .i64 l[k].2.1, .slice B2 l[k].2.2.1.length d2, .int .i64 l[k].2.2.2.1, .int .i64 l[k].2.2.2.2.1, .string l[k].2.2.2.2.2.1, .string l[k].2.2.2.2.2.2.1, .string l[k].2.2.2.2.2.2.2] 46
        clear SR TR
        have SR := Lib.hid Z0'
        have TR := Lib.hid TB'
        have HW1 := Lib.hid hW1
        clear Z0' TB' hW1
        go_wp2_with fail
        clear g0' g1' g2' g3' g4' g5' g6' g7'
        rw [HW1.out]
        clear HW1
        refine (wr_rule l[k] B2 d2 m2 SR.out hroom).mono ?_
        rintro e w2 (⟨b2, hb2, rfl, v2, S2', T2'⟩ | ⟨c2, hc2, rfl, hbe, T2'⟩)
        rotate_left
        · exact ⟨rfl, .inr ⟨c2, by rw [HL.out, cats_fault _ l k hlt HBK.out hc2]; rfl, rfl, hbe, TR.out.trans T2'⟩⟩
        have hb3 : cats ((l.take (k + 1)).map eRule) = .ok (b ++ b2) := by rw [cats_take _ l k hlt, HBK.out, hb2]; rfl
        rw [List.append_assoc] at S2'
        have S2 := Lib.hid S2'
        have T2 := Lib.hid (TR.out.trans T2')
        have HB3 := Lib.hid hb3
        clear S2' T2' hb3 hb2 SR TR HBK hroom
        go_wp2
        go_roundw
        case rel => exact ⟨k + 1, by omega, by simp, _, _, HB3.out, S2.out, T2.out⟩
        case measure => simp [intOf]; omega
      · have hke : k = l.length := by omega
        have HF := Lib.hid hke
        clear hke
        go_wp2
        go_end0
        have hb := HBK.out
        rw [HF.out, List.take_length] at hb
        have hs := SR.out
        rw [List.append_assoc] at hs
        exact .inl ⟨_, by rw [HL.out, hb]; rfl, rfl, _, hs, TR.out⟩
set_option maxRecDepth 100000 in
set_option maxHeartbeats 16000000 in
theorem wr_table (x : TTable) (A3 : Option Addr) (c3 : Nat) (A4 : Option Addr) (c4 : Nat) {w0 w : World} {g : Nat} {v : Value} {z0 : Bs} (h3 : kColumn.C w0 A3 x.2.2.2.1.length x.2.2.2.1) (h4 : kRule.C w0 A4 x.2.2.2.2.length x.2.2.2.2) (hS : WAt w0 w g v z0) (hm : z0.length + wTable x < 140737488355328) :
    Calls Try.prog 112 #[.pointer (some ⟨g, 0, none⟩), .agg #[.string x.1, .string x.2.1, .string x.2.2.1, .slice A3 x.2.2.2.1.length c3, .slice A4 x.2.2.2.2.length c4]] w (WDone w0 g w (eTable x) z0) := by
  have hm' : z0.length + (wText x.1 + (wText x.2.1 + (wText x.2.2.1 + ((wList wColumn) x.2.2.2.1 + ((wList wRule) x.2.2.2.2))))) < 140737488355328 := hm
  clear hm
  have hb0 : Below w.heap.size w (w.alloc (.cells #[.string x.1, .string x.2.1, .string x.2.2.1, .slice A3 x.2.2.2.1.length c3, .slice A4 x.2.2.2.2.length c4] 175)) := (Below.refl _ _).alloc (Nat.le_refl _) _
  have hx0 := blk_new w (.cells #[.string x.1, .string x.2.1, .string x.2.2.1, .slice A3 x.2.2.2.1.length c3, .slice A4 x.2.2.2.2.length c4] 175)
  obtain ⟨W0, hW0⟩ : ∃ W0, w.alloc (.cells #[.string x.1, .string x.2.1, .string x.2.2.1, .slice A3 x.2.2.2.1.length c3, .slice A4 x.2.2.2.2.length c4] 175) = W0 := ⟨_, rfl⟩
  rw [hW0] at hb0 hx0
  have S0 := Lib.hid (hS.stays hb0)
  have HB := Lib.hid hx0
  have T0 := Lib.hid (Stp.refl SW W0)
  have TW := Lib.hid (Stp.below (S := SW) hb0)
  have HW := Lib.hid hW0
  clear hb0 hx0 hW0 hS
  go_enter Try.func112, Try.ntmps112
  have q0 := cell_blk (T0.out.keep HB.out (by decide)) 0 _ rfl
  go_wp2_with fail
  rw [HW.out]
  clear HW
  clear q0
  refine (wr_text (x.1)   S0.out (by omega)).mono ?_
  rintro e w1 (⟨b1, hb1, rfl, v1, S1', T1'⟩ | ⟨c, hc, rfl, hbe, T1'⟩)
  rotate_left
  · exact ⟨rfl, .inr ⟨c, by simp only [eTable, hc, cat_err, cat_ok_err, cat_ok_ok], rfl, hbe, TW.out.trans (T0.out.trans T1')⟩⟩
  have hn1 : b1.length = wText x.1 := cod_text.len _ _ hb1
  obtain ⟨z1, hz1⟩ : ∃ z, z0 ++ b1 = z := ⟨_, rfl⟩
  rw [hz1] at S1'
  have hl1 : z1.length ≤ z0.length + (wText x.1) := by rw [← hz1, List.length_append]; omega
  have S1 := Lib.hid S1'
  have T1 := Lib.hid (T0.out.trans T1')
  have HE1 := Lib.hid hb1
  have HZ1 := Lib.hid hz1
  clear S1' T1' hb1 hz1 hn1 S0 T0
  have q1 := cell_blk (T1.out.keep HB.out (by decide)) 1 _ rfl
  go_wp2_with fail
  clear q1
  refine (wr_text (x.2.1)   S1.out (by have := hl1; omega)).mono ?_
  rintro e w2 (⟨b2, hb2, rfl, v2, S2', T2'⟩ | ⟨c, hc, rfl, hbe, T2'⟩)
  rotate_left
  · exact ⟨rfl, .inr ⟨c, by simp only [eTable, HE1.out, hc, cat_err, cat_ok_err, cat_ok_ok], rfl, hbe, TW.out.trans (T1.out.trans T2')⟩⟩
  have hn2 : b2.length = wText x.2.1 := cod_text.len _ _ hb2
  obtain ⟨z2, hz2⟩ : ∃ z, z1 ++ b2 = z := ⟨_, rfl⟩
  rw [hz2] at S2'
  have hl2 : z2.length ≤ z0.length + (wText x.1 + (wText x.2.1)) := by rw [← hz2, List.length_append]; have := hl1; omega
  have S2 := Lib.hid S2'
  have T2 := Lib.hid (T1.out.trans T2')
  have HE2 := Lib.hid hb2
  have HZ2 := Lib.hid hz2
  clear S2' T2' hb2 hz2 hn2 S1 T1 hl1
  have q2 := cell_blk (T2.out.keep HB.out (by decide)) 2 _ rfl
  go_wp2_with fail
  clear q2
  refine (wr_text (x.2.2.1)   S2.out (by have := hl2; omega)).mono ?_
  rintro e w3 (⟨b3, hb3, rfl, v3, S3', T3'⟩ | ⟨c, hc, rfl, hbe, T3'⟩)
  rotate_left
  · exact ⟨rfl, .inr ⟨c, by simp only [eTable, HE1.out, HE2.out, hc, cat_err, cat_ok_err, cat_ok_ok], rfl, hbe, TW.out.trans (T2.out.trans T3')⟩⟩
  have hn3 : b3.length = wText x.2.2.1 := cod_text.len _ _ hb3
  obtain ⟨z3, hz3⟩ : ∃ z, z2 ++ b3 = z := ⟨_, rfl⟩
  rw [hz3] at S3'
  have hl3 : z3.length ≤ z0.length + (wText x.1 + (wText x.2.1 + (wText x.2.2.1))) := by rw [← hz3, List.length_append]; have := hl2; omega
  have S3 := Lib.hid S3'
  have T3 := Lib.hid (T2.out.trans T3')
  have HE3 := Lib.hid hb3
  have HZ3 := Lib.hid hz3
  clear S3' T3' hb3 hz3 hn3 S2 T2 hl2
  have q3 := cell_blk (T3.out.keep HB.out (by decide)) 3 _ rfl
  go_wp2_with fail
  clear q3
  refine (wr_many_Column A3 c3 (l := x.2.2.2.1) h3 S3.out (by have := hl3; omega)).mono ?_
  rintro e w4 (⟨b4, hb4, rfl, v4, S4', T4'⟩ | ⟨c, hc, rfl, hbe, T4'⟩)
  rotate_left
  · exact ⟨rfl, .inr ⟨c, by simp only [eTable, HE1.out, HE2.out, HE3.out, hc, cat_err, cat_ok_err, cat_ok_ok], rfl, hbe, TW.out.trans (T3.out.trans T4')⟩⟩
  have hn4 : b4.length = (wList wColumn) x.2.2.2.1 := (cod_list codColumn).len _ _ hb4
  obtain ⟨z4, hz4⟩ : ∃ z, z3 ++ b4 = z := ⟨_, rfl⟩
  rw [hz4] at S4'
  have hl4 : z4.length ≤ z0.length + (wText x.1 + (wText x.2.1 + (wText x.2.2.1 + ((wList wColumn) x.2.2.2.1)))) := by rw [← hz4, List.length_append]; have := hl3; omega
  have S4 := Lib.hid S4'
  have T4 := Lib.hid (T3.out.trans T4')
  have HE4 := Lib.hid hb4
  have HZ4 := Lib.hid hz4
  clear S4' T4' hb4 hz4 hn4 S3 T3 hl3
  have q4 := cell_blk (T4.out.keep HB.out (by decide)) 4 _ rfl
  go_wp2_with fail
  clear q4
  refine (wr_many_Rule A4 c4 (l := x.2.2.2.2) h4 S4.out (by have := hl4; omega)).mono ?_
  rintro e w5 (⟨b5, hb5, rfl, v5, S5', T5'⟩ | ⟨c, hc, rfl, hbe, T5'⟩)
  rotate_left
  · exact ⟨rfl, .inr ⟨c, by simp only [eTable, HE1.out, HE2.out, HE3.out, HE4.out, hc, cat_err, cat_ok_err, cat_ok_ok], rfl, hbe, TW.out.trans (T4.out.trans T5')⟩⟩
  have hn5 : b5.length = (wList wRule) x.2.2.2.2 := (cod_list codRule).len _ _ hb5
  obtain ⟨z5, hz5⟩ : ∃ z, z4 ++ b5 = z := ⟨_, rfl⟩
  rw [hz5] at S5'
  have hl5 : z5.length ≤ z0.length + (wText x.1 + (wText x.2.1 + (wText x.2.2.1 + ((wList wColumn) x.2.2.2.1 + ((wList wRule) x.2.2.2.2))))) := by rw [← hz5, List.length_append]; have := hl4; omega
  have S5 := Lib.hid S5'
  have T5 := Lib.hid (T4.out.trans T5')
  have HE5 := Lib.hid hb5
  have HZ5 := Lib.hid hz5
  clear S5' T5' hb5 hz5 hn5 S4 T4 hl4
  go_wp2
  go_end0
  have SF := S5.out
  rw [← HZ5.out, ← HZ4.out, ← HZ3.out, ← HZ2.out, ← HZ1.out] at SF
  refine .inl ⟨_, by simp only [eTable, HE1.out, HE2.out, HE3.out, HE4.out, HE5.out, cat_ok_ok]; rfl, rfl, v5, ?_, TW.out.trans T5.out⟩
  simpa only [List.append_assoc] using SF
set_option maxRecDepth 100000 in
set_option maxHeartbeats 16000000 in
theorem wr_many_Table (A : Option Addr) (c : Nat) {l : List TTable} {w0 w : World} {g : Nat} {v : Value} {z0 : Bs} (h0 : kTable.C w0 A l.length l) (hS : WAt w0 w g v z0) (hr : z0.length + wList wTable l < 140737488355328) :
    Calls Try.prog 111 #[.pointer (some ⟨g, 0, none⟩), .slice A l.length c, .func (.func 112) #[] #[]] w (WDone w0 g w (eList eTable l) z0) := by
  have hx1 : l.length ≤ 9223372036854775807 := h0.2.1
  have S0 := Lib.hid hS
  clear hS
  by_cases h4 : 4096 < l.length
  · have HE := Lib.hid (show eList eTable l = .error 2 from if_pos h4)
    have h4' : (4096 : Int) < (l.length : Int) := by omega
    clear h4 hr
    go_enter Try.func111, Try.ntmps111
    go_wp2
    exact ⟨rfl, .inr ⟨2, HE.out, rfl, S0.out.below, Stp.refl _ _⟩⟩
  · have hlen : eList eTable l = cat (eNum l.length) (cats (l.map eTable)) := if_neg h4
    have hnum : eNum (l.length : Int) = .ok (lows (l.length : Int) 4) := if_pos ⟨by omega, by omega⟩
    have hwl : wList wTable l = 4 + wSum wTable l := if_neg h4
    rw [hwl] at hr
    rw [hnum] at hlen
    clear hwl
    have HL := Lib.hid hlen
    have HN := Lib.hid hnum
    clear hlen hnum
    have h4' : (l.length : Int) ≤ 4096 := by omega
    go_enter Try.func111, Try.ntmps111
    go_wp2_with fail
    refine (wr_number (l.length : Int) S0.out (by omega)).mono ?_
    rintro e w1 (⟨b1, hb1, rfl, v1, S1', T1'⟩ | ⟨c1, hc1, _⟩)
    rotate_left
    · exact absurd (HN.out.symm.trans hc1) (by simp)
    rw [HN.out] at hb1
    cases hb1
    have S1 := Lib.hid S1'
    have T1 := Lib.hid T1'
    clear S1' T1' S0
    go_wp2_with fail
    go_loopw [19] (fun i wr => ∃ k : Nat, k ≤ l.length ∧ i = .int .i64 k ∧ ∃ vr b, cats ((l.take k).map eTable) = .ok b ∧ WAt w0 wr g vr (z0 ++ lows (l.length : Int) 4 ++ b) ∧ Stp SW w wr) (fun i _ => l.length - (intOf i).toNat)
    case atStart => exact ⟨0, Nat.zero_le _, rfl, v1, [], rfl, by rw [List.append_nil]; exact S1.out, T1.out⟩
    case round =>
      obtain ⟨k, hk, rfl, vr, b, hb, hS, hT⟩ := hrel
      have SR := Lib.hid hS
      have TR := Lib.hid hT
      have HBK := Lib.hid hb
      clear hS hT hb S1 T1
      by_cases hlt : k < l.length
      · have hroom : (z0 ++ lows (l.length : Int) 4 ++ b).length + wTable l[k] < 140737488355328 := by
          have h1 := cats_len codTable.len _ _ HBK.out
          have h2 := wSum_take wTable l k hlt
          have h3 := wSum_le wTable l (k + 1)
          rw [List.length_append, List.length_append, lows_length]
          omega
        obtain ⟨ad, B3, d3, B4, d4, e0, g0, g1, g2, g3, g4, _, m3, _, m4⟩ := atTable h0 k hlt
        cases e0
        have g0' := pw_cell_below SR.out.below g0
        clear g0
        have g1' := pw_cell_below SR.out.below g1
        clear g1
        have g2' := pw_cell_below SR.out.below g2
        clear g2
        have g3' := pw_cell_below SR.out.below g3
        clear g3
        have g4' := pw_cell_below SR.out.below g4
        clear g4
        obtain ⟨W1, hW1, Z0', TB'⟩ := wr_box SR.out TR.out #[.string l[k].1, .string l[k].2.1, .string l[k].2.2.1, .slice B3 l[k].2.2.2.1.length d3, .slice B4 l[k].2.2.2.2.length d4] 175
        clear SR TR
        have SR := Lib.hid Z0'
        have TR := Lib.hid TB'
        have HW1 := Lib.hid hW1
        clear Z0' TB' hW1
        go_wp2_with fail
        clear g0' g1' g2' g3' g4'
        rw [HW1.out]
        clear HW1
        refine (wr_table l[k] B3 d3 B4 d4 m3 m4 SR.out hroom).mono ?_
        rintro e w2 (⟨b2, hb2, rfl, v2, S2', T2'⟩ | ⟨c2, hc2, rfl, hbe, T2'⟩)
        rotate_left
        · exact ⟨rfl, .inr ⟨c2, by rw [HL.out, cats_fault _ l k hlt HBK.out hc2]; rfl, rfl, hbe, TR.out.trans T2'⟩⟩
        have hb3 : cats ((l.take (k + 1)).map eTable) = .ok (b ++ b2) := by rw [cats_take _ l k hlt, HBK.out, hb2]; rfl
        rw [List.append_assoc] at S2'
        have S2 := Lib.hid S2'
        have T2 := Lib.hid (TR.out.trans T2')
        have HB3 := Lib.hid hb3
        clear S2' T2' hb3 hb2 SR TR HBK hroom
        go_wp2
        go_roundw
        case rel => exact ⟨k + 1, by omega, by simp, _, _, HB3.out, S2.out, T2.out⟩
        case measure => simp [intOf]; omega
      · have hke : k = l.length := by omega
        have HF := Lib.hid hke
        clear hke
        go_wp2
        go_end0
        have hb := HBK.out
        rw [HF.out, List.take_length] at hb
        have hs := SR.out
        rw [List.append_assoc] at hs
        exact .inl ⟨_, by rw [HL.out, hb]; rfl, rfl, _, hs, TR.out⟩
set_option maxRecDepth 100000 in
set_option maxHeartbeats 16000000 in
theorem wr_schema (x : TSchema)  {w0 w : World} {g : Nat} {v : Value} {z0 : Bs}  (hS : WAt w0 w g v z0) (hm : z0.length + wSchema x < 140737488355328) :
    Calls Try.prog 110 #[.pointer (some ⟨g, 0, none⟩), .agg #[.string x.1, .string x.2]] w (WDone w0 g w (eSchema x) z0) := by
  have hm' : z0.length + (wText x.1 + (wText x.2)) < 140737488355328 := hm
  clear hm
  have hb0 : Below w.heap.size w (w.alloc (.cells #[.string x.1, .string x.2] 169)) := (Below.refl _ _).alloc (Nat.le_refl _) _
  have hx0 := blk_new w (.cells #[.string x.1, .string x.2] 169)
  obtain ⟨W0, hW0⟩ : ∃ W0, w.alloc (.cells #[.string x.1, .string x.2] 169) = W0 := ⟨_, rfl⟩
  rw [hW0] at hb0 hx0
  have S0 := Lib.hid (hS.stays hb0)
  have HB := Lib.hid hx0
  have T0 := Lib.hid (Stp.refl SW W0)
  have TW := Lib.hid (Stp.below (S := SW) hb0)
  have HW := Lib.hid hW0
  clear hb0 hx0 hW0 hS
  go_enter Try.func110, Try.ntmps110
  have q0 := cell_blk (T0.out.keep HB.out (by decide)) 0 _ rfl
  go_wp2_with fail
  rw [HW.out]
  clear HW
  clear q0
  refine (wr_text (x.1)   S0.out (by omega)).mono ?_
  rintro e w1 (⟨b1, hb1, rfl, v1, S1', T1'⟩ | ⟨c, hc, rfl, hbe, T1'⟩)
  rotate_left
  · exact ⟨rfl, .inr ⟨c, by simp only [eSchema, hc, cat_err, cat_ok_err, cat_ok_ok], rfl, hbe, TW.out.trans (T0.out.trans T1')⟩⟩
  have hn1 : b1.length = wText x.1 := cod_text.len _ _ hb1
  obtain ⟨z1, hz1⟩ : ∃ z, z0 ++ b1 = z := ⟨_, rfl⟩
  rw [hz1] at S1'
  have hl1 : z1.length ≤ z0.length + (wText x.1) := by rw [← hz1, List.length_append]; omega
  have S1 := Lib.hid S1'
  have T1 := Lib.hid (T0.out.trans T1')
  have HE1 := Lib.hid hb1
  have HZ1 := Lib.hid hz1
  clear S1' T1' hb1 hz1 hn1 S0 T0
  have q1 := cell_blk (T1.out.keep HB.out (by decide)) 1 _ rfl
  go_wp2_with fail
  clear q1
  refine (wr_text (x.2)   S1.out (by have := hl1; omega)).mono ?_
  rintro e w2 (⟨b2, hb2, rfl, v2, S2', T2'⟩ | ⟨c, hc, rfl, hbe, T2'⟩)
  rotate_left
  · exact ⟨rfl, .inr ⟨c, by simp only [eSchema, HE1.out, hc, cat_err, cat_ok_err, cat_ok_ok], rfl, hbe, TW.out.trans (T1.out.trans T2')⟩⟩
  have hn2 : b2.length = wText x.2 := cod_text.len _ _ hb2
  obtain ⟨z2, hz2⟩ : ∃ z, z1 ++ b2 = z := ⟨_, rfl⟩
  rw [hz2] at S2'
  have hl2 : z2.length ≤ z0.length + (wText x.1 + (wText x.2)) := by rw [← hz2, List.length_append]; have := hl1; omega
  have S2 := Lib.hid S2'
  have T2 := Lib.hid (T1.out.trans T2')
  have HE2 := Lib.hid hb2
  have HZ2 := Lib.hid hz2
  clear S2' T2' hb2 hz2 hn2 S1 T1 hl1
  go_wp2
  go_end0
  have SF := S2.out
  rw [← HZ2.out, ← HZ1.out] at SF
  refine .inl ⟨_, by simp only [eSchema, HE1.out, HE2.out, cat_ok_ok]; rfl, rfl, v2, ?_, TW.out.trans T2.out⟩
  simpa only [List.append_assoc] using SF
set_option maxRecDepth 100000 in
set_option maxHeartbeats 16000000 in
theorem wr_many_Schema (A : Option Addr) (c : Nat) {l : List TSchema} {w0 w : World} {g : Nat} {v : Value} {z0 : Bs} (h0 : kSchema.C w0 A l.length l) (hS : WAt w0 w g v z0) (hr : z0.length + wList wSchema l < 140737488355328) :
    Calls Try.prog 109 #[.pointer (some ⟨g, 0, none⟩), .slice A l.length c, .func (.func 110) #[] #[]] w (WDone w0 g w (eList eSchema l) z0) := by
  have hx1 : l.length ≤ 9223372036854775807 := h0.2.1
  have S0 := Lib.hid hS
  clear hS
  by_cases h4 : 4096 < l.length
  · have HE := Lib.hid (show eList eSchema l = .error 2 from if_pos h4)
    have h4' : (4096 : Int) < (l.length : Int) := by omega
    clear h4 hr
    go_enter Try.func109, Try.ntmps109
    go_wp2
    exact ⟨rfl, .inr ⟨2, HE.out, rfl, S0.out.below, Stp.refl _ _⟩⟩
  · have hlen : eList eSchema l = cat (eNum l.length) (cats (l.map eSchema)) := if_neg h4
    have hnum : eNum (l.length : Int) = .ok (lows (l.length : Int) 4) := if_pos ⟨by omega, by omega⟩
    have hwl : wList wSchema l = 4 + wSum wSchema l := if_neg h4
    rw [hwl] at hr
    rw [hnum] at hlen
    clear hwl
    have HL := Lib.hid hlen
    have HN := Lib.hid hnum
    clear hlen hnum
    have h4' : (l.length : Int) ≤ 4096 := by omega
    go_enter Try.func109, Try.ntmps109
    go_wp2_with fail
    refine (wr_number (l.length : Int) S0.out (by omega)).mono ?_
    rintro e w1 (⟨b1, hb1, rfl, v1, S1', T1'⟩ | ⟨c1, hc1, _⟩)
    rotate_left
    · exact absurd (HN.out.symm.trans hc1) (by simp)
    rw [HN.out] at hb1
    cases hb1
    have S1 := Lib.hid S1'
    have T1 := Lib.hid T1'
    clear S1' T1' S0
    go_wp2_with fail
    go_loopw [19] (fun i wr => ∃ k : Nat, k ≤ l.length ∧ i = .int .i64 k ∧ ∃ vr b, cats ((l.take k).map eSchema) = .ok b ∧ WAt w0 wr g vr (z0 ++ lows (l.length : Int) 4 ++ b) ∧ Stp SW w wr) (fun i _ => l.length - (intOf i).toNat)
    case atStart => exact ⟨0, Nat.zero_le _, rfl, v1, [], rfl, by rw [List.append_nil]; exact S1.out, T1.out⟩
    case round =>
      obtain ⟨k, hk, rfl, vr, b, hb, hS, hT⟩ := hrel
      have SR := Lib.hid hS
      have TR := Lib.hid hT
      have HBK := Lib.hid hb
      clear hS hT hb S1 T1
      by_cases hlt : k < l.length
      · have hroom : (z0 ++ lows (l.length : Int) 4 ++ b).length + wSchema l[k] < 140737488355328 := by
          have h1 := cats_len codSchema.len _ _ HBK.out
          have h2 := wSum_take wSchema l k hlt
          have h3 := wSum_le wSchema l (k + 1)
          rw [List.length_append, List.length_append, lows_length]
          omega
        obtain ⟨ad, e0, g0, g1⟩ := atSchema h0 k hlt
        cases e0
        have g0' := pw_cell_below SR.out.below g0
        clear g0
        have g1' := pw_cell_below SR.out.below g1
        clear g1
        obtain ⟨W1, hW1, Z0', TB'⟩ := wr_box SR.out TR.out #[.string l[k].1, .string l[k].2] 169
        clear SR TR
        have SR := Lib.hid Z0'
        have TR := Lib.hid TB'
        have HW1 := Lib.hid hW1
        clear Z0' TB' hW1
        go_wp2_with fail
        clear g0' g1'
        rw [HW1.out]
        clear HW1
        refine (wr_schema l[k]   SR.out hroom).mono ?_
        rintro e w2 (⟨b2, hb2, rfl, v2, S2', T2'⟩ | ⟨c2, hc2, rfl, hbe, T2'⟩)
        rotate_left
        · exact ⟨rfl, .inr ⟨c2, by rw [HL.out, cats_fault _ l k hlt HBK.out hc2]; rfl, rfl, hbe, TR.out.trans T2'⟩⟩
        have hb3 : cats ((l.take (k + 1)).map eSchema) = .ok (b ++ b2) := by rw [cats_take _ l k hlt, HBK.out, hb2]; rfl
        rw [List.append_assoc] at S2'
        have S2 := Lib.hid S2'
        have T2 := Lib.hid (TR.out.trans T2')
        have HB3 := Lib.hid hb3
        clear S2' T2' hb3 hb2 SR TR HBK hroom
        go_wp2
        go_roundw
        case rel => exact ⟨k + 1, by omega, by simp, _, _, HB3.out, S2.out, T2.out⟩
        case measure => simp [intOf]; omega
      · have hke : k = l.length := by omega
        have HF := Lib.hid hke
        clear hke
        go_wp2
        go_end0
        have hb := HBK.out
        rw [HF.out, List.take_length] at hb
        have hs := SR.out
        rw [List.append_assoc] at hs
        exact .inl ⟨_, by rw [HL.out, hb]; rfl, rfl, _, hs, TR.out⟩
set_option maxRecDepth 100000 in
set_option maxHeartbeats 16000000 in
theorem wr_member (x : TMember)  {w0 w : World} {g : Nat} {v : Value} {z0 : Bs}  (hS : WAt w0 w g v z0) (hm : z0.length + wMember x < 140737488355328) :
    Calls Try.prog 115 #[.pointer (some ⟨g, 0, none⟩), .agg #[.string x.1, .string x.2]] w (WDone w0 g w (eMember x) z0) := by
  have hm' : z0.length + (wText x.1 + (wText x.2)) < 140737488355328 := hm
  clear hm
  have hb0 : Below w.heap.size w (w.alloc (.cells #[.string x.1, .string x.2] 164)) := (Below.refl _ _).alloc (Nat.le_refl _) _
  have hx0 := blk_new w (.cells #[.string x.1, .string x.2] 164)
  obtain ⟨W0, hW0⟩ : ∃ W0, w.alloc (.cells #[.string x.1, .string x.2] 164) = W0 := ⟨_, rfl⟩
  rw [hW0] at hb0 hx0
  have S0 := Lib.hid (hS.stays hb0)
  have HB := Lib.hid hx0
  have T0 := Lib.hid (Stp.refl SW W0)
  have TW := Lib.hid (Stp.below (S := SW) hb0)
  have HW := Lib.hid hW0
  clear hb0 hx0 hW0 hS
  go_enter Try.func115, Try.ntmps115
  have q0 := cell_blk (T0.out.keep HB.out (by decide)) 0 _ rfl
  go_wp2_with fail
  rw [HW.out]
  clear HW
  clear q0
  refine (wr_text (x.1)   S0.out (by omega)).mono ?_
  rintro e w1 (⟨b1, hb1, rfl, v1, S1', T1'⟩ | ⟨c, hc, rfl, hbe, T1'⟩)
  rotate_left
  · exact ⟨rfl, .inr ⟨c, by simp only [eMember, hc, cat_err, cat_ok_err, cat_ok_ok], rfl, hbe, TW.out.trans (T0.out.trans T1')⟩⟩
  have hn1 : b1.length = wText x.1 := cod_text.len _ _ hb1
  obtain ⟨z1, hz1⟩ : ∃ z, z0 ++ b1 = z := ⟨_, rfl⟩
  rw [hz1] at S1'
  have hl1 : z1.length ≤ z0.length + (wText x.1) := by rw [← hz1, List.length_append]; omega
  have S1 := Lib.hid S1'
  have T1 := Lib.hid (T0.out.trans T1')
  have HE1 := Lib.hid hb1
  have HZ1 := Lib.hid hz1
  clear S1' T1' hb1 hz1 hn1 S0 T0
  have q1 := cell_blk (T1.out.keep HB.out (by decide)) 1 _ rfl
  go_wp2_with fail
  clear q1
  refine (wr_text (x.2)   S1.out (by have := hl1; omega)).mono ?_
  rintro e w2 (⟨b2, hb2, rfl, v2, S2', T2'⟩ | ⟨c, hc, rfl, hbe, T2'⟩)
  rotate_left
  · exact ⟨rfl, .inr ⟨c, by simp only [eMember, HE1.out, hc, cat_err, cat_ok_err, cat_ok_ok], rfl, hbe, TW.out.trans (T1.out.trans T2')⟩⟩
  have hn2 : b2.length = wText x.2 := cod_text.len _ _ hb2
  obtain ⟨z2, hz2⟩ : ∃ z, z1 ++ b2 = z := ⟨_, rfl⟩
  rw [hz2] at S2'
  have hl2 : z2.length ≤ z0.length + (wText x.1 + (wText x.2)) := by rw [← hz2, List.length_append]; have := hl1; omega
  have S2 := Lib.hid S2'
  have T2 := Lib.hid (T1.out.trans T2')
  have HE2 := Lib.hid hb2
  have HZ2 := Lib.hid hz2
  clear S2' T2' hb2 hz2 hn2 S1 T1 hl1
  go_wp2
  go_end0
  have SF := S2.out
  rw [← HZ2.out, ← HZ1.out] at SF
  refine .inl ⟨_, by simp only [eMember, HE1.out, HE2.out, cat_ok_ok]; rfl, rfl, v2, ?_, TW.out.trans T2.out⟩
  simpa only [List.append_assoc] using SF
set_option maxRecDepth 100000 in
set_option maxHeartbeats 16000000 in
theorem wr_many_Member (A : Option Addr) (c : Nat) {l : List TMember} {w0 w : World} {g : Nat} {v : Value} {z0 : Bs} (h0 : kMember.C w0 A l.length l) (hS : WAt w0 w g v z0) (hr : z0.length + wList wMember l < 140737488355328) :
    Calls Try.prog 114 #[.pointer (some ⟨g, 0, none⟩), .slice A l.length c, .func (.func 115) #[] #[]] w (WDone w0 g w (eList eMember l) z0) := by
  have hx1 : l.length ≤ 9223372036854775807 := h0.2.1
  have S0 := Lib.hid hS
  clear hS
  by_cases h4 : 4096 < l.length
  · have HE := Lib.hid (show eList eMember l = .error 2 from if_pos h4)
    have h4' : (4096 : Int) < (l.length : Int) := by omega
    clear h4 hr
    go_enter Try.func114, Try.ntmps114
    go_wp2
    exact ⟨rfl, .inr ⟨2, HE.out, rfl, S0.out.below, Stp.refl _ _⟩⟩
  · have hlen : eList eMember l = cat (eNum l.length) (cats (l.map eMember)) := if_neg h4
    have hnum : eNum (l.length : Int) = .ok (lows (l.length : Int) 4) := if_pos ⟨by omega, by omega⟩
    have hwl : wList wMember l = 4 + wSum wMember l := if_neg h4
    rw [hwl] at hr
    rw [hnum] at hlen
    clear hwl
    have HL := Lib.hid hlen
    have HN := Lib.hid hnum
    clear hlen hnum
    have h4' : (l.length : Int) ≤ 4096 := by omega
    go_enter Try.func114, Try.ntmps114
    go_wp2_with fail
    refine (wr_number (l.length : Int) S0.out (by omega)).mono ?_
    rintro e w1 (⟨b1, hb1, rfl, v1, S1', T1'⟩ | ⟨c1, hc1, _⟩)
    rotate_left
    · exact absurd (HN.out.symm.trans hc1) (by simp)
    rw [HN.out] at hb1
    cases hb1
    have S1 := Lib.hid S1'
    have T1 := Lib.hid T1'
    clear S1' T1' S0
    go_wp2_with fail
    go_loopw [19] (fun i wr => ∃ k : Nat, k ≤ l.length ∧ i = .int .i64 k ∧ ∃ vr b, cats ((l.take k).map eMember) = .ok b ∧ WAt w0 wr g vr (z0 ++ lows (l.length : Int) 4 ++ b) ∧ Stp SW w wr) (fun i _ => l.length - (intOf i).toNat)
    case atStart => exact ⟨0, Nat.zero_le _, rfl, v1, [], rfl, by rw [List.append_nil]; exact S1.out, T1.out⟩
    case round =>
      obtain ⟨k, hk, rfl, vr, b, hb, hS, hT⟩ := hrel
      have SR := Lib.hid hS
      have TR := Lib.hid hT
      have HBK := Lib.hid hb
      clear hS hT hb S1 T1
      by_cases hlt : k < l.length
      · have hroom : (z0 ++ lows (l.length : Int) 4 ++ b).length + wMember l[k] < 140737488355328 := by
          have h1 := cats_len codMember.len _ _ HBK.out
          have h2 := wSum_take wMember l k hlt
          have h3 := wSum_le wMember l (k + 1)
          rw [List.length_append, List.length_append, lows_length]
          omega
        obtain ⟨ad, e0, g0, g1⟩ := atMember h0 k hlt
        cases e0
        have g0' := pw_cell_below SR.out.below g0
        clear g0
        have g1' := pw_cell_below SR.out.below g1
        clear g1
        obtain ⟨W1, hW1, Z0', TB'⟩ := wr_box SR.out TR.out #[.string l[k].1, .string l[k].2] 164
        clear SR TR
        have SR := Lib.hid Z0'
        have TR := Lib.hid TB'
        have HW1 := Lib.hid hW1
        clear Z0' TB' hW1
        go_wp2_with fail
        clear g0' g1'
        rw [HW1.out]
        clear HW1
        refine (wr_member l[k]   SR.out hroom).mono ?_
        rintro e w2 (⟨b2, hb2, rfl, v2, S2', T2'⟩ | ⟨c2, hc2, rfl, hbe, T2'⟩)
        rotate_left
        · exact ⟨rfl, .inr ⟨c2, by rw [HL.out, cats_fault _ l k hlt HBK.out hc2]; rfl, rfl, hbe, TR.out.trans T2'⟩⟩
        have hb3 : cats ((l.take (k + 1)).map eMember) = .ok (b ++ b2) := by rw [cats_take _ l k hlt, HBK.out, hb2]; rfl
        rw [List.append_assoc] at S2'
        have S2 := Lib.hid S2'
        have T2 := Lib.hid (TR.out.trans T2')
        have HB3 := Lib.hid hb3
        clear S2' T2' hb3 hb2 SR TR HBK hroom
        go_wp2
        go_roundw
        case rel => exact ⟨k + 1, by omega, by simp, _, _, HB3.out, S2.out, T2.out⟩
        case measure => simp [intOf]; omega
      · have hke : k = l.length := by omega
        have HF := Lib.hid hke
        clear hke
        go_wp2
        go_end0
        have hb := HBK.out
        rw [HF.out, List.take_length] at hb
        have hs := SR.out
        rw [List.append_assoc] at hs
        exact .inl ⟨_, by rw [HL.out, hb]; rfl, rfl, _, hs, TR.out⟩
set_option maxRecDepth 100000 in
set_option maxHeartbeats 16000000 in
theorem wr_grant (x : TGrant)  {w0 w : World} {g : Nat} {v : Value} {z0 : Bs}  (hS : WAt w0 w g v z0) (hm : z0.length + wGrant x < 140737488355328) :
    Calls Try.prog 117 #[.pointer (some ⟨g, 0, none⟩), .agg #[.string x.1, .string x.2.1, .int .i64 x.2.2.1, .string x.2.2.2.1, .string x.2.2.2.2.1, .bool x.2.2.2.2.2]] w (WDone w0 g w (eGrant x) z0) := by
  have hm' : z0.length + (wText x.1 + (wText x.2.1 + (4 + (wText x.2.2.2.1 + (wText x.2.2.2.2.1 + (1)))))) < 140737488355328 := hm
  clear hm
  have hb0 : Below w.heap.size w (w.alloc (.cells #[.string x.1, .string x.2.1, .int .i64 x.2.2.1, .string x.2.2.2.1, .string x.2.2.2.2.1, .bool x.2.2.2.2.2] 166)) := (Below.refl _ _).alloc (Nat.le_refl _) _
  have hx0 := blk_new w (.cells #[.string x.1, .string x.2.1, .int .i64 x.2.2.1, .string x.2.2.2.1, .string x.2.2.2.2.1, .bool x.2.2.2.2.2] 166)
  obtain ⟨W0, hW0⟩ : ∃ W0, w.alloc (.cells #[.string x.1, .string x.2.1, .int .i64 x.2.2.1, .string x.2.2.2.1, .string x.2.2.2.2.1, .bool x.2.2.2.2.2] 166) = W0 := ⟨_, rfl⟩
  rw [hW0] at hb0 hx0
  have S0 := Lib.hid (hS.stays hb0)
  have HB := Lib.hid hx0
  have T0 := Lib.hid (Stp.refl SW W0)
  have TW := Lib.hid (Stp.below (S := SW) hb0)
  have HW := Lib.hid hW0
  clear hb0 hx0 hW0 hS
  go_enter Try.func117, Try.ntmps117
  have q0 := cell_blk (T0.out.keep HB.out (by decide)) 0 _ rfl
  go_wp2_with fail
  rw [HW.out]
  clear HW
  clear q0
  refine (wr_text (x.1)   S0.out (by omega)).mono ?_
  rintro e w1 (⟨b1, hb1, rfl, v1, S1', T1'⟩ | ⟨c, hc, rfl, hbe, T1'⟩)
  rotate_left
  · exact ⟨rfl, .inr ⟨c, by simp only [eGrant, hc, cat_err, cat_ok_err, cat_ok_ok], rfl, hbe, TW.out.trans (T0.out.trans T1')⟩⟩
  have hn1 : b1.length = wText x.1 := cod_text.len _ _ hb1
  obtain ⟨z1, hz1⟩ : ∃ z, z0 ++ b1 = z := ⟨_, rfl⟩
  rw [hz1] at S1'
  have hl1 : z1.length ≤ z0.length + (wText x.1) := by rw [← hz1, List.length_append]; omega
  have S1 := Lib.hid S1'
  have T1 := Lib.hid (T0.out.trans T1')
  have HE1 := Lib.hid hb1
  have HZ1 := Lib.hid hz1
  clear S1' T1' hb1 hz1 hn1 S0 T0
  have q1 := cell_blk (T1.out.keep HB.out (by decide)) 1 _ rfl
  go_wp2_with fail
  clear q1
  refine (wr_text (x.2.1)   S1.out (by have := hl1; omega)).mono ?_
  rintro e w2 (⟨b2, hb2, rfl, v2, S2', T2'⟩ | ⟨c, hc, rfl, hbe, T2'⟩)
  rotate_left
  · exact ⟨rfl, .inr ⟨c, by simp only [eGrant, HE1.out, hc, cat_err, cat_ok_err, cat_ok_ok], rfl, hbe, TW.out.trans (T1.out.trans T2')⟩⟩
  have hn2 : b2.length = wText x.2.1 := cod_text.len _ _ hb2
  obtain ⟨z2, hz2⟩ : ∃ z, z1 ++ b2 = z := ⟨_, rfl⟩
  rw [hz2] at S2'
  have hl2 : z2.length ≤ z0.length + (wText x.1 + (wText x.2.1)) := by rw [← hz2, List.length_append]; have := hl1; omega
  have S2 := Lib.hid S2'
  have T2 := Lib.hid (T1.out.trans T2')
  have HE2 := Lib.hid hb2
  have HZ2 := Lib.hid hz2
  clear S2' T2' hb2 hz2 hn2 S1 T1 hl1
  have q2 := cell_blk (T2.out.keep HB.out (by decide)) 2 _ rfl
  go_wp2_with fail
  clear q2
  refine (wr_number (x.2.2.1)   S2.out (by have := hl2; omega)).mono ?_
  rintro e w3 (⟨b3, hb3, rfl, v3, S3', T3'⟩ | ⟨c, hc, rfl, hbe, T3'⟩)
  rotate_left
  · exact ⟨rfl, .inr ⟨c, by simp only [eGrant, HE1.out, HE2.out, hc, cat_err, cat_ok_err, cat_ok_ok], rfl, hbe, TW.out.trans (T2.out.trans T3')⟩⟩
  have hn3 : b3.length = 4 := cod_num.len _ _ hb3
  obtain ⟨z3, hz3⟩ : ∃ z, z2 ++ b3 = z := ⟨_, rfl⟩
  rw [hz3] at S3'
  have hl3 : z3.length ≤ z0.length + (wText x.1 + (wText x.2.1 + (4))) := by rw [← hz3, List.length_append]; have := hl2; omega
  have S3 := Lib.hid S3'
  have T3 := Lib.hid (T2.out.trans T3')
  have HE3 := Lib.hid hb3
  have HZ3 := Lib.hid hz3
  clear S3' T3' hb3 hz3 hn3 S2 T2 hl2
  have q3 := cell_blk (T3.out.keep HB.out (by decide)) 3 _ rfl
  go_wp2_with fail
  clear q3
  refine (wr_text (x.2.2.2.1)   S3.out (by have := hl3; omega)).mono ?_
  rintro e w4 (⟨b4, hb4, rfl, v4, S4', T4'⟩ | ⟨c, hc, rfl, hbe, T4'⟩)
  rotate_left
  · exact ⟨rfl, .inr ⟨c, by simp only [eGrant, HE1.out, HE2.out, HE3.out, hc, cat_err, cat_ok_err, cat_ok_ok], rfl, hbe, TW.out.trans (T3.out.trans T4')⟩⟩
  have hn4 : b4.length = wText x.2.2.2.1 := cod_text.len _ _ hb4
  obtain ⟨z4, hz4⟩ : ∃ z, z3 ++ b4 = z := ⟨_, rfl⟩
  rw [hz4] at S4'
  have hl4 : z4.length ≤ z0.length + (wText x.1 + (wText x.2.1 + (4 + (wText x.2.2.2.1)))) := by rw [← hz4, List.length_append]; have := hl3; omega
  have S4 := Lib.hid S4'
  have T4 := Lib.hid (T3.out.trans T4')
  have HE4 := Lib.hid hb4
  have HZ4 := Lib.hid hz4
  clear S4' T4' hb4 hz4 hn4 S3 T3 hl3
  have q4 := cell_blk (T4.out.keep HB.out (by decide)) 4 _ rfl
  go_wp2_with fail
  clear q4
  refine (wr_text (x.2.2.2.2.1)   S4.out (by have := hl4; omega)).mono ?_
  rintro e w5 (⟨b5, hb5, rfl, v5, S5', T5'⟩ | ⟨c, hc, rfl, hbe, T5'⟩)
  rotate_left
  · exact ⟨rfl, .inr ⟨c, by simp only [eGrant, HE1.out, HE2.out, HE3.out, HE4.out, hc, cat_err, cat_ok_err, cat_ok_ok], rfl, hbe, TW.out.trans (T4.out.trans T5')⟩⟩
  have hn5 : b5.length = wText x.2.2.2.2.1 := cod_text.len _ _ hb5
  obtain ⟨z5, hz5⟩ : ∃ z, z4 ++ b5 = z := ⟨_, rfl⟩
  rw [hz5] at S5'
  have hl5 : z5.length ≤ z0.length + (wText x.1 + (wText x.2.1 + (4 + (wText x.2.2.2.1 + (wText x.2.2.2.2.1))))) := by rw [← hz5, List.length_append]; have := hl4; omega
  have S5 := Lib.hid S5'
  have T5 := Lib.hid (T4.out.trans T5')
  have HE5 := Lib.hid hb5
  have HZ5 := Lib.hid hz5
  clear S5' T5' hb5 hz5 hn5 S4 T4 hl4
  have q5 := cell_blk (T5.out.keep HB.out (by decide)) 5 _ rfl
  go_wp2_with fail
  clear q5
  refine (wr_flag (x.2.2.2.2.2)   S5.out (by have := hl5; omega)).mono ?_
  rintro e w6 (⟨b6, hb6, rfl, v6, S6', T6'⟩ | ⟨c, hc, rfl, hbe, T6'⟩)
  rotate_left
  · exact ⟨rfl, .inr ⟨c, by simp only [eGrant, HE1.out, HE2.out, HE3.out, HE4.out, HE5.out, hc, cat_err, cat_ok_err, cat_ok_ok], rfl, hbe, TW.out.trans (T5.out.trans T6')⟩⟩
  have hn6 : b6.length = 1 := cod_flag.len _ _ hb6
  obtain ⟨z6, hz6⟩ : ∃ z, z5 ++ b6 = z := ⟨_, rfl⟩
  rw [hz6] at S6'
  have hl6 : z6.length ≤ z0.length + (wText x.1 + (wText x.2.1 + (4 + (wText x.2.2.2.1 + (wText x.2.2.2.2.1 + (1)))))) := by rw [← hz6, List.length_append]; have := hl5; omega
  have S6 := Lib.hid S6'
  have T6 := Lib.hid (T5.out.trans T6')
  have HE6 := Lib.hid hb6
  have HZ6 := Lib.hid hz6
  clear S6' T6' hb6 hz6 hn6 S5 T5 hl5
  go_wp2
  go_end0
  have SF := S6.out
  rw [← HZ6.out, ← HZ5.out, ← HZ4.out, ← HZ3.out, ← HZ2.out, ← HZ1.out] at SF
  refine .inl ⟨_, by simp only [eGrant, HE1.out, HE2.out, HE3.out, HE4.out, HE5.out, HE6.out, cat_ok_ok]; rfl, rfl, v6, ?_, TW.out.trans T6.out⟩
  simpa only [List.append_assoc] using SF
set_option maxRecDepth 100000 in
set_option maxHeartbeats 16000000 in
theorem wr_many_Grant (A : Option Addr) (c : Nat) {l : List TGrant} {w0 w : World} {g : Nat} {v : Value} {z0 : Bs} (h0 : kGrant.C w0 A l.length l) (hS : WAt w0 w g v z0) (hr : z0.length + wList wGrant l < 140737488355328) :
    Calls Try.prog 116 #[.pointer (some ⟨g, 0, none⟩), .slice A l.length c, .func (.func 117) #[] #[]] w (WDone w0 g w (eList eGrant l) z0) := by
  have hx1 : l.length ≤ 9223372036854775807 := h0.2.1
  have S0 := Lib.hid hS
  clear hS
  by_cases h4 : 4096 < l.length
  · have HE := Lib.hid (show eList eGrant l = .error 2 from if_pos h4)
    have h4' : (4096 : Int) < (l.length : Int) := by omega
    clear h4 hr
    go_enter Try.func116, Try.ntmps116
    go_wp2
    exact ⟨rfl, .inr ⟨2, HE.out, rfl, S0.out.below, Stp.refl _ _⟩⟩
  · have hlen : eList eGrant l = cat (eNum l.length) (cats (l.map eGrant)) := if_neg h4
    have hnum : eNum (l.length : Int) = .ok (lows (l.length : Int) 4) := if_pos ⟨by omega, by omega⟩
    have hwl : wList wGrant l = 4 + wSum wGrant l := if_neg h4
    rw [hwl] at hr
    rw [hnum] at hlen
    clear hwl
    have HL := Lib.hid hlen
    have HN := Lib.hid hnum
    clear hlen hnum
    have h4' : (l.length : Int) ≤ 4096 := by omega
    go_enter Try.func116, Try.ntmps116
    go_wp2_with fail
    refine (wr_number (l.length : Int) S0.out (by omega)).mono ?_
    rintro e w1 (⟨b1, hb1, rfl, v1, S1', T1'⟩ | ⟨c1, hc1, _⟩)
    rotate_left
    · exact absurd (HN.out.symm.trans hc1) (by simp)
    rw [HN.out] at hb1
    cases hb1
    have S1 := Lib.hid S1'
    have T1 := Lib.hid T1'
    clear S1' T1' S0
    go_wp2_with fail
    go_loopw [19] (fun i wr => ∃ k : Nat, k ≤ l.length ∧ i = .int .i64 k ∧ ∃ vr b, cats ((l.take k).map eGrant) = .ok b ∧ WAt w0 wr g vr (z0 ++ lows (l.length : Int) 4 ++ b) ∧ Stp SW w wr) (fun i _ => l.length - (intOf i).toNat)
    case atStart => exact ⟨0, Nat.zero_le _, rfl, v1, [], rfl, by rw [List.append_nil]; exact S1.out, T1.out⟩
    case round =>
      obtain ⟨k, hk, rfl, vr, b, hb, hS, hT⟩ := hrel
      have SR := Lib.hid hS
      have TR := Lib.hid hT
      have HBK := Lib.hid hb
      clear hS hT hb S1 T1
      by_cases hlt : k < l.length
      · have hroom : (z0 ++ lows (l.length : Int) 4 ++ b).length + wGrant l[k] < 140737488355328 := by
          have h1 := cats_len codGrant.len _ _ HBK.out
          have h2 := wSum_take wGrant l k hlt
          have h3 := wSum_le wGrant l (k + 1)
          rw [List.length_append, List.length_append, lows_length]
          omega
        obtain ⟨ad, e0, g0, g1, g2, g3, g4, g5⟩ := atGrant h0 k hlt
        cases e0
        have g0' := pw_cell_below SR.out.below g0
        clear g0
        have g1' := pw_cell_below SR.out.below g1
        clear g1
        have g2' := pw_cell_below SR.out.below g2
        clear g2
        have g3' := pw_cell_below SR.out.below g3
        clear g3
        have g4' := pw_cell_below SR.out.below g4
        clear g4
        have g5' := pw_cell_below SR.out.below g5
        clear g5
        obtain ⟨W1, hW1, Z0', TB'⟩ := wr_box SR.out TR.out #[.string l[k].1, .string l[k].2.1, .int .i64 l[k].2.2.1, .string l[k].2.2.2.1, .string l[k].2.2.2.2.1, .bool l[k].2.2.2.2.2] 166
        clear SR TR
        have SR := Lib.hid Z0'
        have TR := Lib.hid TB'
        have HW1 := Lib.hid hW1
        clear Z0' TB' hW1
        go_wp2_with fail
        clear g0' g1' g2' g3' g4' g5'
        rw [HW1.out]
        clear HW1
        refine (wr_grant l[k]   SR.out hroom).mono ?_
        rintro e w2 (⟨b2, hb2, rfl, v2, S2', T2'⟩ | ⟨c2, hc2, rfl, hbe, T2'⟩)
        rotate_left
        · exact ⟨rfl, .inr ⟨c2, by rw [HL.out, cats_fault _ l k hlt HBK.out hc2]; rfl, rfl, hbe, TR.out.trans T2'⟩⟩
        have hb3 : cats ((l.take (k + 1)).map eGrant) = .ok (b ++ b2) := by rw [cats_take _ l k hlt, HBK.out, hb2]; rfl
        rw [List.append_assoc] at S2'
        have S2 := Lib.hid S2'
        have T2 := Lib.hid (TR.out.trans T2')
        have HB3 := Lib.hid hb3
        clear S2' T2' hb3 hb2 SR TR HBK hroom
        go_wp2
        go_roundw
        case rel => exact ⟨k + 1, by omega, by simp, _, _, HB3.out, S2.out, T2.out⟩
        case measure => simp [intOf]; omega
      · have hke : k = l.length := by omega
        have HF := Lib.hid hke
        clear hke
        go_wp2
        go_end0
        have hb := HBK.out
        rw [HF.out, List.take_length] at hb
        have hs := SR.out
        rw [List.append_assoc] at hs
        exact .inl ⟨_, by rw [HL.out, hb]; rfl, rfl, _, hs, TR.out⟩
set_option maxRecDepth 100000 in
set_option maxHeartbeats 16000000 in
theorem wr_catalog (x : TCatalog) (A2 : Option Addr) (c2 : Nat) (A3 : Option Addr) (c3 : Nat) (A4 : Option Addr) (c4 : Nat) (A5 : Option Addr) (c5 : Nat) (A6 : Option Addr) (c6 : Nat) {w0 w : World} {g : Nat} {v : Value} {z0 : Bs} (h2 : kSchema.C w0 A2 x.2.2.1.1.length x.2.2.1.1) (h3 : kTable.C w0 A3 x.2.2.1.2.length x.2.2.1.2) (h4 : Kd.string.C w0 A4 x.2.2.2.1.1.length x.2.2.2.1.1) (h5 : kMember.C w0 A5 x.2.2.2.1.2.length x.2.2.2.1.2) (h6 : kGrant.C w0 A6 x.2.2.2.2.length x.2.2.2.2) (hS : WAt w0 w g v z0) (hm : z0.length + wCatalog x < 140737488355328) :
    Calls Try.prog 59 #[.pointer (some ⟨g, 0, none⟩), .agg #[.int .i64 x.1, .int .i64 x.2.1, .slice A2 x.2.2.1.1.length c2, .slice A3 x.2.2.1.2.length c3, .slice A4 x.2.2.2.1.1.length c4, .slice A5 x.2.2.2.1.2.length c5, .slice A6 x.2.2.2.2.length c6]] w (WDone w0 g w (eCatalog x) z0) := by
  have hm' : z0.length + (4 + (4 + (((wList wSchema) x.2.2.1.1 + ((wList wTable) x.2.2.1.2)) + (((wList wText) x.2.2.2.1.1 + ((wList wMember) x.2.2.2.1.2)) + ((wList wGrant) x.2.2.2.2))))) < 140737488355328 := hm
  clear hm
  have hb0 : Below w.heap.size w (w.alloc (.cells #[.int .i64 x.1, .int .i64 x.2.1, .slice A2 x.2.2.1.1.length c2, .slice A3 x.2.2.1.2.length c3, .slice A4 x.2.2.2.1.1.length c4, .slice A5 x.2.2.2.1.2.length c5, .slice A6 x.2.2.2.2.length c6] 74)) := (Below.refl _ _).alloc (Nat.le_refl _) _
  have hx0 := blk_new w (.cells #[.int .i64 x.1, .int .i64 x.2.1, .slice A2 x.2.2.1.1.length c2, .slice A3 x.2.2.1.2.length c3, .slice A4 x.2.2.2.1.1.length c4, .slice A5 x.2.2.2.1.2.length c5, .slice A6 x.2.2.2.2.length c6] 74)
  obtain ⟨W0, hW0⟩ : ∃ W0, w.alloc (.cells #[.int .i64 x.1, .int .i64 x.2.1, .slice A2 x.2.2.1.1.length c2, .slice A3 x.2.2.1.2.length c3, .slice A4 x.2.2.2.1.1.length c4, .slice A5 x.2.2.2.1.2.length c5, .slice A6 x.2.2.2.2.length c6] 74) = W0 := ⟨_, rfl⟩
  rw [hW0] at hb0 hx0
  have S0 := Lib.hid (hS.stays hb0)
  have HB := Lib.hid hx0
  have T0 := Lib.hid (Stp.refl SW W0)
  have TW := Lib.hid (Stp.below (S := SW) hb0)
  have HW := Lib.hid hW0
  clear hb0 hx0 hW0 hS
  go_enter Try.func59, Try.ntmps59
  have q0 := cell_blk (T0.out.keep HB.out (by decide)) 0 _ rfl
  go_wp2_with fail
  rw [HW.out]
  clear HW
  clear q0
  refine (wr_number (x.1)   S0.out (by omega)).mono ?_
  rintro e w1 (⟨b1, hb1, rfl, v1, S1', T1'⟩ | ⟨c, hc, rfl, hbe, T1'⟩)
  rotate_left
  · exact ⟨rfl, .inr ⟨c, by simp only [eCatalog, eObjects, eRoles, hc, cat_err, cat_ok_err, cat_ok_ok], rfl, hbe, TW.out.trans (T0.out.trans T1')⟩⟩
  have hn1 : b1.length = 4 := cod_num.len _ _ hb1
  obtain ⟨z1, hz1⟩ : ∃ z, z0 ++ b1 = z := ⟨_, rfl⟩
  rw [hz1] at S1'
  have hl1 : z1.length ≤ z0.length + (4) := by rw [← hz1, List.length_append]; omega
  have S1 := Lib.hid S1'
  have T1 := Lib.hid (T0.out.trans T1')
  have HE1 := Lib.hid hb1
  have HZ1 := Lib.hid hz1
  clear S1' T1' hb1 hz1 hn1 S0 T0
  have q1 := cell_blk (T1.out.keep HB.out (by decide)) 1 _ rfl
  go_wp2_with fail
  clear q1
  refine (wr_number (x.2.1)   S1.out (by have := hl1; omega)).mono ?_
  rintro e w2 (⟨b2, hb2, rfl, v2, S2', T2'⟩ | ⟨c, hc, rfl, hbe, T2'⟩)
  rotate_left
  · exact ⟨rfl, .inr ⟨c, by simp only [eCatalog, eObjects, eRoles, HE1.out, hc, cat_err, cat_ok_err, cat_ok_ok], rfl, hbe, TW.out.trans (T1.out.trans T2')⟩⟩
  have hn2 : b2.length = 4 := cod_num.len _ _ hb2
  obtain ⟨z2, hz2⟩ : ∃ z, z1 ++ b2 = z := ⟨_, rfl⟩
  rw [hz2] at S2'
  have hl2 : z2.length ≤ z0.length + (4 + (4)) := by rw [← hz2, List.length_append]; have := hl1; omega
  have S2 := Lib.hid S2'
  have T2 := Lib.hid (T1.out.trans T2')
  have HE2 := Lib.hid hb2
  have HZ2 := Lib.hid hz2
  clear S2' T2' hb2 hz2 hn2 S1 T1 hl1
  have q2 := cell_blk (T2.out.keep HB.out (by decide)) 2 _ rfl
  go_wp2_with fail
  clear q2
  refine (wr_many_Schema A2 c2 (l := x.2.2.1.1) h2 S2.out (by have := hl2; omega)).mono ?_
  rintro e w3 (⟨b3, hb3, rfl, v3, S3', T3'⟩ | ⟨c, hc, rfl, hbe, T3'⟩)
  rotate_left
  · exact ⟨rfl, .inr ⟨c, by simp only [eCatalog, eObjects, eRoles, HE1.out, HE2.out, hc, cat_err, cat_ok_err, cat_ok_ok], rfl, hbe, TW.out.trans (T2.out.trans T3')⟩⟩
  have hn3 : b3.length = (wList wSchema) x.2.2.1.1 := (cod_list codSchema).len _ _ hb3
  obtain ⟨z3, hz3⟩ : ∃ z, z2 ++ b3 = z := ⟨_, rfl⟩
  rw [hz3] at S3'
  have hl3 : z3.length ≤ z0.length + (4 + (4 + ((wList wSchema) x.2.2.1.1))) := by rw [← hz3, List.length_append]; have := hl2; omega
  have S3 := Lib.hid S3'
  have T3 := Lib.hid (T2.out.trans T3')
  have HE3 := Lib.hid hb3
  have HZ3 := Lib.hid hz3
  clear S3' T3' hb3 hz3 hn3 S2 T2 hl2
  have q3 := cell_blk (T3.out.keep HB.out (by decide)) 3 _ rfl
  go_wp2_with fail
  clear q3
  refine (wr_many_Table A3 c3 (l := x.2.2.1.2) h3 S3.out (by have := hl3; omega)).mono ?_
  rintro e w4 (⟨b4, hb4, rfl, v4, S4', T4'⟩ | ⟨c, hc, rfl, hbe, T4'⟩)
  rotate_left
  · exact ⟨rfl, .inr ⟨c, by simp only [eCatalog, eObjects, eRoles, HE1.out, HE2.out, HE3.out, hc, cat_err, cat_ok_err, cat_ok_ok], rfl, hbe, TW.out.trans (T3.out.trans T4')⟩⟩
  have hn4 : b4.length = (wList wTable) x.2.2.1.2 := (cod_list codTable).len _ _ hb4
  obtain ⟨z4, hz4⟩ : ∃ z, z3 ++ b4 = z := ⟨_, rfl⟩
  rw [hz4] at S4'
  have hl4 : z4.length ≤ z0.length + (4 + (4 + ((wList wSchema) x.2.2.1.1 + ((wList wTable) x.2.2.1.2)))) := by rw [← hz4, List.length_append]; have := hl3; omega
  have S4 := Lib.hid S4'
  have T4 := Lib.hid (T3.out.trans T4')
  have HE4 := Lib.hid hb4
  have HZ4 := Lib.hid hz4
  clear S4' T4' hb4 hz4 hn4 S3 T3 hl3
  have q4 := cell_blk (T4.out.keep HB.out (by decide)) 4 _ rfl
  go_wp2_with fail
  clear q4
  refine (wr_many_text A4 c4 (l := x.2.2.2.1.1) h4 S4.out (by have := hl4; omega)).mono ?_
  rintro e w5 (⟨b5, hb5, rfl, v5, S5', T5'⟩ | ⟨c, hc, rfl, hbe, T5'⟩)
  rotate_left
  · exact ⟨rfl, .inr ⟨c, by simp only [eCatalog, eObjects, eRoles, HE1.out, HE2.out, HE3.out, HE4.out, hc, cat_err, cat_ok_err, cat_ok_ok], rfl, hbe, TW.out.trans (T4.out.trans T5')⟩⟩
  have hn5 : b5.length = (wList wText) x.2.2.2.1.1 := (cod_list cod_text).len _ _ hb5
  obtain ⟨z5, hz5⟩ : ∃ z, z4 ++ b5 = z := ⟨_, rfl⟩
  rw [hz5] at S5'
  have hl5 : z5.length ≤ z0.length + (4 + (4 + ((wList wSchema) x.2.2.1.1 + ((wList wTable) x.2.2.1.2 + ((wList wText) x.2.2.2.1.1))))) := by rw [← hz5, List.length_append]; have := hl4; omega
  have S5 := Lib.hid S5'
  have T5 := Lib.hid (T4.out.trans T5')
  have HE5 := Lib.hid hb5
  have HZ5 := Lib.hid hz5
  clear S5' T5' hb5 hz5 hn5 S4 T4 hl4
  have q5 := cell_blk (T5.out.keep HB.out (by decide)) 5 _ rfl
  go_wp2_with fail
  clear q5
  refine (wr_many_Member A5 c5 (l := x.2.2.2.1.2) h5 S5.out (by have := hl5; omega)).mono ?_
  rintro e w6 (⟨b6, hb6, rfl, v6, S6', T6'⟩ | ⟨c, hc, rfl, hbe, T6'⟩)
  rotate_left
  · exact ⟨rfl, .inr ⟨c, by simp only [eCatalog, eObjects, eRoles, HE1.out, HE2.out, HE3.out, HE4.out, HE5.out, hc, cat_err, cat_ok_err, cat_ok_ok], rfl, hbe, TW.out.trans (T5.out.trans T6')⟩⟩
  have hn6 : b6.length = (wList wMember) x.2.2.2.1.2 := (cod_list codMember).len _ _ hb6
  obtain ⟨z6, hz6⟩ : ∃ z, z5 ++ b6 = z := ⟨_, rfl⟩
  rw [hz6] at S6'
  have hl6 : z6.length ≤ z0.length + (4 + (4 + ((wList wSchema) x.2.2.1.1 + ((wList wTable) x.2.2.1.2 + ((wList wText) x.2.2.2.1.1 + ((wList wMember) x.2.2.2.1.2)))))) := by rw [← hz6, List.length_append]; have := hl5; omega
  have S6 := Lib.hid S6'
  have T6 := Lib.hid (T5.out.trans T6')
  have HE6 := Lib.hid hb6
  have HZ6 := Lib.hid hz6
  clear S6' T6' hb6 hz6 hn6 S5 T5 hl5
  have q6 := cell_blk (T6.out.keep HB.out (by decide)) 6 _ rfl
  go_wp2_with fail
  clear q6
  refine (wr_many_Grant A6 c6 (l := x.2.2.2.2) h6 S6.out (by have := hl6; omega)).mono ?_
  rintro e w7 (⟨b7, hb7, rfl, v7, S7', T7'⟩ | ⟨c, hc, rfl, hbe, T7'⟩)
  rotate_left
  · exact ⟨rfl, .inr ⟨c, by simp only [eCatalog, eObjects, eRoles, HE1.out, HE2.out, HE3.out, HE4.out, HE5.out, HE6.out, hc, cat_err, cat_ok_err, cat_ok_ok], rfl, hbe, TW.out.trans (T6.out.trans T7')⟩⟩
  have hn7 : b7.length = (wList wGrant) x.2.2.2.2 := (cod_list codGrant).len _ _ hb7
  obtain ⟨z7, hz7⟩ : ∃ z, z6 ++ b7 = z := ⟨_, rfl⟩
  rw [hz7] at S7'
  have hl7 : z7.length ≤ z0.length + (4 + (4 + ((wList wSchema) x.2.2.1.1 + ((wList wTable) x.2.2.1.2 + ((wList wText) x.2.2.2.1.1 + ((wList wMember) x.2.2.2.1.2 + ((wList wGrant) x.2.2.2.2))))))) := by rw [← hz7, List.length_append]; have := hl6; omega
  have S7 := Lib.hid S7'
  have T7 := Lib.hid (T6.out.trans T7')
  have HE7 := Lib.hid hb7
  have HZ7 := Lib.hid hz7
  clear S7' T7' hb7 hz7 hn7 S6 T6 hl6
  go_wp2
  go_end0
  have SF := S7.out
  rw [← HZ7.out, ← HZ6.out, ← HZ5.out, ← HZ4.out, ← HZ3.out, ← HZ2.out, ← HZ1.out] at SF
  refine .inl ⟨_, by simp only [eCatalog, eObjects, eRoles, HE1.out, HE2.out, HE3.out, HE4.out, HE5.out, HE6.out, HE7.out, cat_ok_ok]; rfl, rfl, v7, ?_, TW.out.trans T7.out⟩
  simpa only [List.append_assoc] using SF
end Go.Proofs.Ytoomcdgnnibjlaa.Wr
/- The program's writer. -/
namespace Go.Proofs.Ytoomcdgnnibjlaa.Wr
open Go.RowKit Go.Proofs.YtoomcdgnnibjlaaW.PrintWords Go.Proofs.YtoomcdgnnibjlaaW.PrintLast
set_option linter.unusedVariables false
set_option linter.unusedSimpArgs false

set_option maxRecDepth 100000 in
set_option maxHeartbeats 16000000 in
theorem wr_done (x : TDone)  {w0 w : World} {g : Nat} {v : Value} {z0 : Bs}  (hS : WAt w0 w g v z0) (hm : z0.length + wDone x < 140737488355328) :
    Calls Try.prog 133 #[.pointer (some ⟨g, 0, none⟩), .agg #[.int .i64 x.1, .int .i64 x.2.1, .int .i64 x.2.2.1, .int .i64 x.2.2.2.1, .int .i64 x.2.2.2.2]] w (WDone w0 g w (eDone x) z0) := by
  have hm' : z0.length + (4 + (4 + (4 + (4 + (4))))) < 140737488355328 := hm
  clear hm
  have hb0 : Below w.heap.size w (w.alloc (.cells #[.int .i64 x.1, .int .i64 x.2.1, .int .i64 x.2.2.1, .int .i64 x.2.2.2.1, .int .i64 x.2.2.2.2] 203)) := (Below.refl _ _).alloc (Nat.le_refl _) _
  have hx0 := blk_new w (.cells #[.int .i64 x.1, .int .i64 x.2.1, .int .i64 x.2.2.1, .int .i64 x.2.2.2.1, .int .i64 x.2.2.2.2] 203)
  obtain ⟨W0, hW0⟩ : ∃ W0, w.alloc (.cells #[.int .i64 x.1, .int .i64 x.2.1, .int .i64 x.2.2.1, .int .i64 x.2.2.2.1, .int .i64 x.2.2.2.2] 203) = W0 := ⟨_, rfl⟩
  rw [hW0] at hb0 hx0
  have S0 := Lib.hid (hS.stays hb0)
  have HB := Lib.hid hx0
  have T0 := Lib.hid (Stp.refl SW W0)
  have TW := Lib.hid (Stp.below (S := SW) hb0)
  have HW := Lib.hid hW0
  clear hb0 hx0 hW0 hS
  go_enter Try.func133, Try.ntmps133
  have q0 := cell_blk (T0.out.keep HB.out (by decide)) 0 _ rfl
  go_wp2_with fail
  rw [HW.out]
  clear HW
  clear q0
  refine (wr_number (x.1)   S0.out (by omega)).mono ?_
  rintro e w1 (⟨b1, hb1, rfl, v1, S1', T1'⟩ | ⟨c, hc, rfl, hbe, T1'⟩)
  rotate_left
  · exact ⟨rfl, .inr ⟨c, by simp only [eDone, hc, cat_err, cat_ok_err, cat_ok_ok], rfl, hbe, TW.out.trans (T0.out.trans T1')⟩⟩
  have hn1 : b1.length = 4 := cod_num.len _ _ hb1
  obtain ⟨z1, hz1⟩ : ∃ z, z0 ++ b1 = z := ⟨_, rfl⟩
  rw [hz1] at S1'
  have hl1 : z1.length ≤ z0.length + (4) := by rw [← hz1, List.length_append]; omega
  have S1 := Lib.hid S1'
  have T1 := Lib.hid (T0.out.trans T1')
  have HE1 := Lib.hid hb1
  have HZ1 := Lib.hid hz1
  clear S1' T1' hb1 hz1 hn1 S0 T0
  have q1 := cell_blk (T1.out.keep HB.out (by decide)) 1 _ rfl
  go_wp2_with fail
  clear q1
  refine (wr_number (x.2.1)   S1.out (by have := hl1; omega)).mono ?_
  rintro e w2 (⟨b2, hb2, rfl, v2, S2', T2'⟩ | ⟨c, hc, rfl, hbe, T2'⟩)
  rotate_left
  · exact ⟨rfl, .inr ⟨c, by simp only [eDone, HE1.out, hc, cat_err, cat_ok_err, cat_ok_ok], rfl, hbe, TW.out.trans (T1.out.trans T2')⟩⟩
  have hn2 : b2.length = 4 := cod_num.len _ _ hb2
  obtain ⟨z2, hz2⟩ : ∃ z, z1 ++ b2 = z := ⟨_, rfl⟩
  rw [hz2] at S2'
  have hl2 : z2.length ≤ z0.length + (4 + (4)) := by rw [← hz2, List.length_append]; have := hl1; omega
  have S2 := Lib.hid S2'
  have T2 := Lib.hid (T1.out.trans T2')
  have HE2 := Lib.hid hb2
  have HZ2 := Lib.hid hz2
  clear S2' T2' hb2 hz2 hn2 S1 T1 hl1
  have q2 := cell_blk (T2.out.keep HB.out (by decide)) 2 _ rfl
  go_wp2_with fail
  clear q2
  refine (wr_number (x.2.2.1)   S2.out (by have := hl2; omega)).mono ?_
  rintro e w3 (⟨b3, hb3, rfl, v3, S3', T3'⟩ | ⟨c, hc, rfl, hbe, T3'⟩)
  rotate_left
  · exact ⟨rfl, .inr ⟨c, by simp only [eDone, HE1.out, HE2.out, hc, cat_err, cat_ok_err, cat_ok_ok], rfl, hbe, TW.out.trans (T2.out.trans T3')⟩⟩
  have hn3 : b3.length = 4 := cod_num.len _ _ hb3
  obtain ⟨z3, hz3⟩ : ∃ z, z2 ++ b3 = z := ⟨_, rfl⟩
  rw [hz3] at S3'
  have hl3 : z3.length ≤ z0.length + (4 + (4 + (4))) := by rw [← hz3, List.length_append]; have := hl2; omega
  have S3 := Lib.hid S3'
  have T3 := Lib.hid (T2.out.trans T3')
  have HE3 := Lib.hid hb3
  have HZ3 := Lib.hid hz3
  clear S3' T3' hb3 hz3 hn3 S2 T2 hl2
  have q3 := cell_blk (T3.out.keep HB.out (by decide)) 3 _ rfl
  go_wp2_with fail
  clear q3
  refine (wr_number (x.2.2.2.1)   S3.out (by have := hl3; omega)).mono ?_
  rintro e w4 (⟨b4, hb4, rfl, v4, S4', T4'⟩ | ⟨c, hc, rfl, hbe, T4'⟩)
  rotate_left
  · exact ⟨rfl, .inr ⟨c, by simp only [eDone, HE1.out, HE2.out, HE3.out, hc, cat_err, cat_ok_err, cat_ok_ok], rfl, hbe, TW.out.trans (T3.out.trans T4')⟩⟩
  have hn4 : b4.length = 4 := cod_num.len _ _ hb4
  obtain ⟨z4, hz4⟩ : ∃ z, z3 ++ b4 = z := ⟨_, rfl⟩
  rw [hz4] at S4'
  have hl4 : z4.length ≤ z0.length + (4 + (4 + (4 + (4)))) := by rw [← hz4, List.length_append]; have := hl3; omega
  have S4 := Lib.hid S4'
  have T4 := Lib.hid (T3.out.trans T4')
  have HE4 := Lib.hid hb4
  have HZ4 := Lib.hid hz4
  clear S4' T4' hb4 hz4 hn4 S3 T3 hl3
  have q4 := cell_blk (T4.out.keep HB.out (by decide)) 4 _ rfl
  go_wp2_with fail
  clear q4
  refine (wr_number (x.2.2.2.2)   S4.out (by have := hl4; omega)).mono ?_
  rintro e w5 (⟨b5, hb5, rfl, v5, S5', T5'⟩ | ⟨c, hc, rfl, hbe, T5'⟩)
  rotate_left
  · exact ⟨rfl, .inr ⟨c, by simp only [eDone, HE1.out, HE2.out, HE3.out, HE4.out, hc, cat_err, cat_ok_err, cat_ok_ok], rfl, hbe, TW.out.trans (T4.out.trans T5')⟩⟩
  have hn5 : b5.length = 4 := cod_num.len _ _ hb5
  obtain ⟨z5, hz5⟩ : ∃ z, z4 ++ b5 = z := ⟨_, rfl⟩
  rw [hz5] at S5'
  have hl5 : z5.length ≤ z0.length + (4 + (4 + (4 + (4 + (4))))) := by rw [← hz5, List.length_append]; have := hl4; omega
  have S5 := Lib.hid S5'
  have T5 := Lib.hid (T4.out.trans T5')
  have HE5 := Lib.hid hb5
  have HZ5 := Lib.hid hz5
  clear S5' T5' hb5 hz5 hn5 S4 T4 hl4
  go_wp2
  go_end0
  have SF := S5.out
  rw [← HZ5.out, ← HZ4.out, ← HZ3.out, ← HZ2.out, ← HZ1.out] at SF
  refine .inl ⟨_, by simp only [eDone, HE1.out, HE2.out, HE3.out, HE4.out, HE5.out, cat_ok_ok]; rfl, rfl, v5, ?_, TW.out.trans T5.out⟩
  simpa only [List.append_assoc] using SF
set_option maxRecDepth 100000 in
set_option maxHeartbeats 16000000 in
theorem wr_many_Done (A : Option Addr) (c : Nat) {l : List TDone} {w0 w : World} {g : Nat} {v : Value} {z0 : Bs} (h0 : kDone.C w0 A l.length l) (hS : WAt w0 w g v z0) (hr : z0.length + wList wDone l < 140737488355328) :
    Calls Try.prog 132 #[.pointer (some ⟨g, 0, none⟩), .slice A l.length c, .func (.func 133) #[] #[]] w (WDone w0 g w (eList eDone l) z0) := by
  have hx1 : l.length ≤ 9223372036854775807 := h0.2.1
  have S0 := Lib.hid hS
  clear hS
  by_cases h4 : 4096 < l.length
  · have HE := Lib.hid (show eList eDone l = .error 2 from if_pos h4)
    have h4' : (4096 : Int) < (l.length : Int) := by omega
    clear h4 hr
    go_enter Try.func132, Try.ntmps132
    go_wp2
    exact ⟨rfl, .inr ⟨2, HE.out, rfl, S0.out.below, Stp.refl _ _⟩⟩
  · have hlen : eList eDone l = cat (eNum l.length) (cats (l.map eDone)) := if_neg h4
    have hnum : eNum (l.length : Int) = .ok (lows (l.length : Int) 4) := if_pos ⟨by omega, by omega⟩
    have hwl : wList wDone l = 4 + wSum wDone l := if_neg h4
    rw [hwl] at hr
    rw [hnum] at hlen
    clear hwl
    have HL := Lib.hid hlen
    have HN := Lib.hid hnum
    clear hlen hnum
    have h4' : (l.length : Int) ≤ 4096 := by omega
    go_enter Try.func132, Try.ntmps132
    go_wp2_with fail
    refine (wr_number (l.length : Int) S0.out (by omega)).mono ?_
    rintro e w1 (⟨b1, hb1, rfl, v1, S1', T1'⟩ | ⟨c1, hc1, _⟩)
    rotate_left
    · exact absurd (HN.out.symm.trans hc1) (by simp)
    rw [HN.out] at hb1
    cases hb1
    have S1 := Lib.hid S1'
    have T1 := Lib.hid T1'
    clear S1' T1' S0
    go_wp2_with fail
    go_loopw [19] (fun i wr => ∃ k : Nat, k ≤ l.length ∧ i = .int .i64 k ∧ ∃ vr b, cats ((l.take k).map eDone) = .ok b ∧ WAt w0 wr g vr (z0 ++ lows (l.length : Int) 4 ++ b) ∧ Stp SW w wr) (fun i _ => l.length - (intOf i).toNat)
    case atStart => exact ⟨0, Nat.zero_le _, rfl, v1, [], rfl, by rw [List.append_nil]; exact S1.out, T1.out⟩
    case round =>
      obtain ⟨k, hk, rfl, vr, b, hb, hS, hT⟩ := hrel
      have SR := Lib.hid hS
      have TR := Lib.hid hT
      have HBK := Lib.hid hb
      clear hS hT hb S1 T1
      by_cases hlt : k < l.length
      · have hroom : (z0 ++ lows (l.length : Int) 4 ++ b).length + wDone l[k] < 140737488355328 := by
          have h1 := cats_len codDone.len _ _ HBK.out
          have h2 := wSum_take wDone l k hlt
          have h3 := wSum_le wDone l (k + 1)
          rw [List.length_append, List.length_append, lows_length]
          omega
        obtain ⟨ad, e0, g0, g1, g2, g3, g4⟩ := atDone h0 k hlt
        cases e0
        have g0' := pw_cell_below SR.out.below g0
        clear g0
        have g1' := pw_cell_below SR.out.below g1
        clear g1
        have g2' := pw_cell_below SR.out.below g2
        clear g2
        have g3' := pw_cell_below SR.out.below g3
        clear g3
        have g4' := pw_cell_below SR.out.below g4
        clear g4
        obtain ⟨W1, hW1, Z0', TB'⟩ := wr_box SR.out TR.out #[.int .i64 l[k].1, .int .i64 l[k].2.1, .int .i64 l[k].2.2.1, .int .i64 l[k].2.2.2.1, .int .i64 l[k].2.2.2.2] 203
        clear SR TR
        have SR := Lib.hid Z0'
        have TR := Lib.hid TB'
        have HW1 := Lib.hid hW1
        clear Z0' TB' hW1
        go_wp2_with fail
        clear g0' g1' g2' g3' g4'
        rw [HW1.out]
        clear HW1
        refine (wr_done l[k]   SR.out hroom).mono ?_
        rintro e w2 (⟨b2, hb2, rfl, v2, S2', T2'⟩ | ⟨c2, hc2, rfl, hbe, T2'⟩)
        rotate_left
        · exact ⟨rfl, .inr ⟨c2, by rw [HL.out, cats_fault _ l k hlt HBK.out hc2]; rfl, rfl, hbe, TR.out.trans T2'⟩⟩
        have hb3 : cats ((l.take (k + 1)).map eDone) = .ok (b ++ b2) := by rw [cats_take _ l k hlt, HBK.out, hb2]; rfl
        rw [List.append_assoc] at S2'
        have S2 := Lib.hid S2'
        have T2 := Lib.hid (TR.out.trans T2')
        have HB3 := Lib.hid hb3
        clear S2' T2' hb3 hb2 SR TR HBK hroom
        go_wp2
        go_roundw
        case rel => exact ⟨k + 1, by omega, by simp, _, _, HB3.out, S2.out, T2.out⟩
        case measure => simp [intOf]; omega
      · have hke : k = l.length := by omega
        have HF := Lib.hid hke
        clear hke
        go_wp2
        go_end0
        have hb := HBK.out
        rw [HF.out, List.take_length] at hb
        have hs := SR.out
        rw [List.append_assoc] at hs
        exact .inl ⟨_, by rw [HL.out, hb]; rfl, rfl, _, hs, TR.out⟩
set_option maxRecDepth 100000 in
set_option maxHeartbeats 16000000 in
theorem wr_lease (x : TLease)  {w0 w : World} {g : Nat} {v : Value} {z0 : Bs}  (hS : WAt w0 w g v z0) (hm : z0.length + wLease x < 140737488355328) :
    Calls Try.prog 135 #[.pointer (some ⟨g, 0, none⟩), .agg #[.int .i64 x.1, .int .i64 x.2.1, .int .i64 x.2.2.1, .int .i64 x.2.2.2]] w (WDone w0 g w (eLease x) z0) := by
  have hm' : z0.length + (4 + (4 + (4 + (4)))) < 140737488355328 := hm
  clear hm
  have hb0 : Below w.heap.size w (w.alloc (.cells #[.int .i64 x.1, .int .i64 x.2.1, .int .i64 x.2.2.1, .int .i64 x.2.2.2] 205)) := (Below.refl _ _).alloc (Nat.le_refl _) _
  have hx0 := blk_new w (.cells #[.int .i64 x.1, .int .i64 x.2.1, .int .i64 x.2.2.1, .int .i64 x.2.2.2] 205)
  obtain ⟨W0, hW0⟩ : ∃ W0, w.alloc (.cells #[.int .i64 x.1, .int .i64 x.2.1, .int .i64 x.2.2.1, .int .i64 x.2.2.2] 205) = W0 := ⟨_, rfl⟩
  rw [hW0] at hb0 hx0
  have S0 := Lib.hid (hS.stays hb0)
  have HB := Lib.hid hx0
  have T0 := Lib.hid (Stp.refl SW W0)
  have TW := Lib.hid (Stp.below (S := SW) hb0)
  have HW := Lib.hid hW0
  clear hb0 hx0 hW0 hS
  go_enter Try.func135, Try.ntmps135
  have q0 := cell_blk (T0.out.keep HB.out (by decide)) 0 _ rfl
  go_wp2_with fail
  rw [HW.out]
  clear HW
  clear q0
  refine (wr_number (x.1)   S0.out (by omega)).mono ?_
  rintro e w1 (⟨b1, hb1, rfl, v1, S1', T1'⟩ | ⟨c, hc, rfl, hbe, T1'⟩)
  rotate_left
  · exact ⟨rfl, .inr ⟨c, by simp only [eLease, hc, cat_err, cat_ok_err, cat_ok_ok], rfl, hbe, TW.out.trans (T0.out.trans T1')⟩⟩
  have hn1 : b1.length = 4 := cod_num.len _ _ hb1
  obtain ⟨z1, hz1⟩ : ∃ z, z0 ++ b1 = z := ⟨_, rfl⟩
  rw [hz1] at S1'
  have hl1 : z1.length ≤ z0.length + (4) := by rw [← hz1, List.length_append]; omega
  have S1 := Lib.hid S1'
  have T1 := Lib.hid (T0.out.trans T1')
  have HE1 := Lib.hid hb1
  have HZ1 := Lib.hid hz1
  clear S1' T1' hb1 hz1 hn1 S0 T0
  have q1 := cell_blk (T1.out.keep HB.out (by decide)) 1 _ rfl
  go_wp2_with fail
  clear q1
  refine (wr_number (x.2.1)   S1.out (by have := hl1; omega)).mono ?_
  rintro e w2 (⟨b2, hb2, rfl, v2, S2', T2'⟩ | ⟨c, hc, rfl, hbe, T2'⟩)
  rotate_left
  · exact ⟨rfl, .inr ⟨c, by simp only [eLease, HE1.out, hc, cat_err, cat_ok_err, cat_ok_ok], rfl, hbe, TW.out.trans (T1.out.trans T2')⟩⟩
  have hn2 : b2.length = 4 := cod_num.len _ _ hb2
  obtain ⟨z2, hz2⟩ : ∃ z, z1 ++ b2 = z := ⟨_, rfl⟩
  rw [hz2] at S2'
  have hl2 : z2.length ≤ z0.length + (4 + (4)) := by rw [← hz2, List.length_append]; have := hl1; omega
  have S2 := Lib.hid S2'
  have T2 := Lib.hid (T1.out.trans T2')
  have HE2 := Lib.hid hb2
  have HZ2 := Lib.hid hz2
  clear S2' T2' hb2 hz2 hn2 S1 T1 hl1
  have q2 := cell_blk (T2.out.keep HB.out (by decide)) 2 _ rfl
  go_wp2_with fail
  clear q2
  refine (wr_number (x.2.2.1)   S2.out (by have := hl2; omega)).mono ?_
  rintro e w3 (⟨b3, hb3, rfl, v3, S3', T3'⟩ | ⟨c, hc, rfl, hbe, T3'⟩)
  rotate_left
  · exact ⟨rfl, .inr ⟨c, by simp only [eLease, HE1.out, HE2.out, hc, cat_err, cat_ok_err, cat_ok_ok], rfl, hbe, TW.out.trans (T2.out.trans T3')⟩⟩
  have hn3 : b3.length = 4 := cod_num.len _ _ hb3
  obtain ⟨z3, hz3⟩ : ∃ z, z2 ++ b3 = z := ⟨_, rfl⟩
  rw [hz3] at S3'
  have hl3 : z3.length ≤ z0.length + (4 + (4 + (4))) := by rw [← hz3, List.length_append]; have := hl2; omega
  have S3 := Lib.hid S3'
  have T3 := Lib.hid (T2.out.trans T3')
  have HE3 := Lib.hid hb3
  have HZ3 := Lib.hid hz3
  clear S3' T3' hb3 hz3 hn3 S2 T2 hl2
  have q3 := cell_blk (T3.out.keep HB.out (by decide)) 3 _ rfl
  go_wp2_with fail
  clear q3
  refine (wr_number (x.2.2.2)   S3.out (by have := hl3; omega)).mono ?_
  rintro e w4 (⟨b4, hb4, rfl, v4, S4', T4'⟩ | ⟨c, hc, rfl, hbe, T4'⟩)
  rotate_left
  · exact ⟨rfl, .inr ⟨c, by simp only [eLease, HE1.out, HE2.out, HE3.out, hc, cat_err, cat_ok_err, cat_ok_ok], rfl, hbe, TW.out.trans (T3.out.trans T4')⟩⟩
  have hn4 : b4.length = 4 := cod_num.len _ _ hb4
  obtain ⟨z4, hz4⟩ : ∃ z, z3 ++ b4 = z := ⟨_, rfl⟩
  rw [hz4] at S4'
  have hl4 : z4.length ≤ z0.length + (4 + (4 + (4 + (4)))) := by rw [← hz4, List.length_append]; have := hl3; omega
  have S4 := Lib.hid S4'
  have T4 := Lib.hid (T3.out.trans T4')
  have HE4 := Lib.hid hb4
  have HZ4 := Lib.hid hz4
  clear S4' T4' hb4 hz4 hn4 S3 T3 hl3
  go_wp2
  go_end0
  have SF := S4.out
  rw [← HZ4.out, ← HZ3.out, ← HZ2.out, ← HZ1.out] at SF
  refine .inl ⟨_, by simp only [eLease, HE1.out, HE2.out, HE3.out, HE4.out, cat_ok_ok]; rfl, rfl, v4, ?_, TW.out.trans T4.out⟩
  simpa only [List.append_assoc] using SF
set_option maxRecDepth 100000 in
set_option maxHeartbeats 16000000 in
theorem wr_many_Lease (A : Option Addr) (c : Nat) {l : List TLease} {w0 w : World} {g : Nat} {v : Value} {z0 : Bs} (h0 : kLease.C w0 A l.length l) (hS : WAt w0 w g v z0) (hr : z0.length + wList wLease l < 140737488355328) :
    Calls Try.prog 134 #[.pointer (some ⟨g, 0, none⟩), .slice A l.length c, .func (.func 135) #[] #[]] w (WDone w0 g w (eList eLease l) z0) := by
  have hx1 : l.length ≤ 9223372036854775807 := h0.2.1
  have S0 := Lib.hid hS
  clear hS
  by_cases h4 : 4096 < l.length
  · have HE := Lib.hid (show eList eLease l = .error 2 from if_pos h4)
    have h4' : (4096 : Int) < (l.length : Int) := by omega
    clear h4 hr
    go_enter Try.func134, Try.ntmps134
    go_wp2
    exact ⟨rfl, .inr ⟨2, HE.out, rfl, S0.out.below, Stp.refl _ _⟩⟩
  · have hlen : eList eLease l = cat (eNum l.length) (cats (l.map eLease)) := if_neg h4
    have hnum : eNum (l.length : Int) = .ok (lows (l.length : Int) 4) := if_pos ⟨by omega, by omega⟩
    have hwl : wList wLease l = 4 + wSum wLease l := if_neg h4
    rw [hwl] at hr
    rw [hnum] at hlen
    clear hwl
    have HL := Lib.hid hlen
    have HN := Lib.hid hnum
    clear hlen hnum
    have h4' : (l.length : Int) ≤ 4096 := by omega
    go_enter Try.func134, Try.ntmps134
    go_wp2_with fail
    refine (wr_number (l.length : Int) S0.out (by omega)).mono ?_
    rintro e w1 (⟨b1, hb1, rfl, v1, S1', T1'⟩ | ⟨c1, hc1, _⟩)
    rotate_left
    · exact absurd (HN.out.symm.trans hc1) (by simp)
    rw [HN.out] at hb1
    cases hb1
    have S1 := Lib.hid S1'
    have T1 := Lib.hid T1'
    clear S1' T1' S0
    go_wp2_with fail
    go_loopw [19] (fun i wr => ∃ k : Nat, k ≤ l.length ∧ i = .int .i64 k ∧ ∃ vr b, cats ((l.take k).map eLease) = .ok b ∧ WAt w0 wr g vr (z0 ++ lows (l.length : Int) 4 ++ b) ∧ Stp SW w wr) (fun i _ => l.length - (intOf i).toNat)
    case atStart => exact ⟨0, Nat.zero_le _, rfl, v1, [], rfl, by rw [List.append_nil]; exact S1.out, T1.out⟩
    case round =>
      obtain ⟨k, hk, rfl, vr, b, hb, hS, hT⟩ := hrel
      have SR := Lib.hid hS
      have TR := Lib.hid hT
      have HBK := Lib.hid hb
      clear hS hT hb S1 T1
      by_cases hlt : k < l.length
      · have hroom : (z0 ++ lows (l.length : Int) 4 ++ b).length + wLease l[k] < 140737488355328 := by
          have h1 := cats_len codLease.len _ _ HBK.out
          have h2 := wSum_take wLease l k hlt
          have h3 := wSum_le wLease l (k + 1)
          rw [List.length_append, List.length_append, lows_length]
          omega
        obtain ⟨ad, e0, g0, g1, g2, g3⟩ := atLease h0 k hlt
        cases e0
        have g0' := pw_cell_below SR.out.below g0
        clear g0
        have g1' := pw_cell_below SR.out.below g1
        clear g1
        have g2' := pw_cell_below SR.out.below g2
        clear g2
        have g3' := pw_cell_below SR.out.below g3
        clear g3
        obtain ⟨W1, hW1, Z0', TB'⟩ := wr_box SR.out TR.out #[.int .i64 l[k].1, .int .i64 l[k].2.1, .int .i64 l[k].2.2.1, .int .i64 l[k].2.2.2] 205
        clear SR TR
        have SR := Lib.hid Z0'
        have TR := Lib.hid TB'
        have HW1 := Lib.hid hW1
        clear Z0' TB' hW1
        go_wp2_with fail
        clear g0' g1' g2' g3'
        rw [HW1.out]
        clear HW1
        refine (wr_lease l[k]   SR.out hroom).mono ?_
        rintro e w2 (⟨b2, hb2, rfl, v2, S2', T2'⟩ | ⟨c2, hc2, rfl, hbe, T2'⟩)
        rotate_left
        · exact ⟨rfl, .inr ⟨c2, by rw [HL.out, cats_fault _ l k hlt HBK.out hc2]; rfl, rfl, hbe, TR.out.trans T2'⟩⟩
        have hb3 : cats ((l.take (k + 1)).map eLease) = .ok (b ++ b2) := by rw [cats_take _ l k hlt, HBK.out, hb2]; rfl
        rw [List.append_assoc] at S2'
        have S2 := Lib.hid S2'
        have T2 := Lib.hid (TR.out.trans T2')
        have HB3 := Lib.hid hb3
        clear S2' T2' hb3 hb2 SR TR HBK hroom
        go_wp2
        go_roundw
        case rel => exact ⟨k + 1, by omega, by simp, _, _, HB3.out, S2.out, T2.out⟩
        case measure => simp [intOf]; omega
      · have hke : k = l.length := by omega
        have HF := Lib.hid hke
        clear hke
        go_wp2
        go_end0
        have hb := HBK.out
        rw [HF.out, List.take_length] at hb
        have hs := SR.out
        rw [List.append_assoc] at hs
        exact .inl ⟨_, by rw [HL.out, hb]; rfl, rfl, _, hs, TR.out⟩
set_option maxRecDepth 100000 in
set_option maxHeartbeats 16000000 in
theorem wr_machine (x : TMachine) (A2 : Option Addr) (c2 : Nat) (A3 : Option Addr) (c3 : Nat) (A4 : Option Addr) (c4 : Nat) (A5 : Option Addr) (c5 : Nat) (A6 : Option Addr) (c6 : Nat) (A7 : Option Addr) (c7 : Nat) (A8 : Option Addr) (c8 : Nat) {w0 w : World} {g : Nat} {v : Value} {z0 : Bs} (h2 : kSchema.C w0 A2 x.1.2.2.1.1.length x.1.2.2.1.1) (h3 : kTable.C w0 A3 x.1.2.2.1.2.length x.1.2.2.1.2) (h4 : Kd.string.C w0 A4 x.1.2.2.2.1.1.length x.1.2.2.2.1.1) (h5 : kMember.C w0 A5 x.1.2.2.2.1.2.length x.1.2.2.2.1.2) (h6 : kGrant.C w0 A6 x.1.2.2.2.2.length x.1.2.2.2.2) (h7 : kDone.C w0 A7 x.2.1.length x.2.1) (h8 : kLease.C w0 A8 x.2.2.1.length x.2.2.1) (hS : WAt w0 w g v z0) (hm : z0.length + wMachine x < 140737488355328) :
    Calls Try.prog 65 #[.pointer (some ⟨g, 0, none⟩), .agg #[.int .i64 x.1.1, .int .i64 x.1.2.1, .slice A2 x.1.2.2.1.1.length c2, .slice A3 x.1.2.2.1.2.length c3, .slice A4 x.1.2.2.2.1.1.length c4, .slice A5 x.1.2.2.2.1.2.length c5, .slice A6 x.1.2.2.2.2.length c6, .slice A7 x.2.1.length c7, .slice A8 x.2.2.1.length c8, .int .i64 x.2.2.2]] w (WDone w0 g w (eMachine x) z0) := by
  have hm' : z0.length + (wCatalog x.1 + ((wList wDone) x.2.1 + ((wList wLease) x.2.2.1 + (4)))) < 140737488355328 := hm
  clear hm
  have hb0 : Below w.heap.size w (w.alloc (.cells #[.int .i64 x.1.1, .int .i64 x.1.2.1, .slice A2 x.1.2.2.1.1.length c2, .slice A3 x.1.2.2.1.2.length c3, .slice A4 x.1.2.2.2.1.1.length c4, .slice A5 x.1.2.2.2.1.2.length c5, .slice A6 x.1.2.2.2.2.length c6, .slice A7 x.2.1.length c7, .slice A8 x.2.2.1.length c8, .int .i64 x.2.2.2] 82)) := (Below.refl _ _).alloc (Nat.le_refl _) _
  have hx0 := blk_new w (.cells #[.int .i64 x.1.1, .int .i64 x.1.2.1, .slice A2 x.1.2.2.1.1.length c2, .slice A3 x.1.2.2.1.2.length c3, .slice A4 x.1.2.2.2.1.1.length c4, .slice A5 x.1.2.2.2.1.2.length c5, .slice A6 x.1.2.2.2.2.length c6, .slice A7 x.2.1.length c7, .slice A8 x.2.2.1.length c8, .int .i64 x.2.2.2] 82)
  obtain ⟨W0, hW0⟩ : ∃ W0, w.alloc (.cells #[.int .i64 x.1.1, .int .i64 x.1.2.1, .slice A2 x.1.2.2.1.1.length c2, .slice A3 x.1.2.2.1.2.length c3, .slice A4 x.1.2.2.2.1.1.length c4, .slice A5 x.1.2.2.2.1.2.length c5, .slice A6 x.1.2.2.2.2.length c6, .slice A7 x.2.1.length c7, .slice A8 x.2.2.1.length c8, .int .i64 x.2.2.2] 82) = W0 := ⟨_, rfl⟩
  rw [hW0] at hb0 hx0
  have S0 := Lib.hid (hS.stays hb0)
  have HB := Lib.hid hx0
  have T0 := Lib.hid (Stp.refl SW W0)
  have TW := Lib.hid (Stp.below (S := SW) hb0)
  have HW := Lib.hid hW0
  clear hb0 hx0 hW0 hS
  go_enter Try.func65, Try.ntmps65
  have HR := Lib.hid (range_blk [] [.int .i64 x.1.1, .int .i64 x.1.2.1, .slice A2 x.1.2.2.1.1.length c2, .slice A3 x.1.2.2.1.2.length c3, .slice A4 x.1.2.2.2.1.1.length c4, .slice A5 x.1.2.2.2.1.2.length c5, .slice A6 x.1.2.2.2.2.length c6] [.slice A7 x.2.1.length c7, .slice A8 x.2.2.1.length c8, .int .i64 x.2.2.2] (T0.out.keep HB.out (by decide)))
  go_wp2_with (((with_reducible refine gate_load (t := 74) rfl ?_); refine wpList_load_mid rfl 74 _ rfl w.heap.size 0 rfl [.int .i64 x.1.1, .int .i64 x.1.2.1, .slice A2 x.1.2.2.1.1.length c2, .slice A3 x.1.2.2.1.2.length c3, .slice A4 x.1.2.2.2.1.1.length c4, .slice A5 x.1.2.2.2.1.2.length c5, .slice A6 x.1.2.2.2.2.length c6] _ HR.out Try.underlying74 rfl (by kernel_rfl) ?_))
  rw [HW.out]
  clear HW
  clear HR
  refine (wr_catalog (x.1) A2 c2 A3 c3 A4 c4 A5 c5 A6 c6 h2 h3 h4 h5 h6 S0.out (by omega)).mono ?_
  rintro e w1 (⟨b1, hb1, rfl, v1, S1', T1'⟩ | ⟨c, hc, rfl, hbe, T1'⟩)
  rotate_left
  · exact ⟨rfl, .inr ⟨c, by simp only [eMachine, hc, cat_err, cat_ok_err, cat_ok_ok], rfl, hbe, TW.out.trans (T0.out.trans T1')⟩⟩
  have hn1 : b1.length = wCatalog x.1 := codCatalog.len _ _ hb1
  obtain ⟨z1, hz1⟩ : ∃ z, z0 ++ b1 = z := ⟨_, rfl⟩
  rw [hz1] at S1'
  have hl1 : z1.length ≤ z0.length + (wCatalog x.1) := by rw [← hz1, List.length_append]; omega
  have S1 := Lib.hid S1'
  have T1 := Lib.hid (T0.out.trans T1')
  have HE1 := Lib.hid hb1
  have HZ1 := Lib.hid hz1
  clear S1' T1' hb1 hz1 hn1 S0 T0
  have q7 := cell_blk (T1.out.keep HB.out (by decide)) 7 _ rfl
  go_wp2_with fail
  clear q7
  refine (wr_many_Done A7 c7 (l := x.2.1) h7 S1.out (by have := hl1; omega)).mono ?_
  rintro e w2 (⟨b2, hb2, rfl, v2, S2', T2'⟩ | ⟨c, hc, rfl, hbe, T2'⟩)
  rotate_left
  · exact ⟨rfl, .inr ⟨c, by simp only [eMachine, HE1.out, hc, cat_err, cat_ok_err, cat_ok_ok], rfl, hbe, TW.out.trans (T1.out.trans T2')⟩⟩
  have hn2 : b2.length = (wList wDone) x.2.1 := (cod_list codDone).len _ _ hb2
  obtain ⟨z2, hz2⟩ : ∃ z, z1 ++ b2 = z := ⟨_, rfl⟩
  rw [hz2] at S2'
  have hl2 : z2.length ≤ z0.length + (wCatalog x.1 + ((wList wDone) x.2.1)) := by rw [← hz2, List.length_append]; have := hl1; omega
  have S2 := Lib.hid S2'
  have T2 := Lib.hid (T1.out.trans T2')
  have HE2 := Lib.hid hb2
  have HZ2 := Lib.hid hz2
  clear S2' T2' hb2 hz2 hn2 S1 T1 hl1
  have q8 := cell_blk (T2.out.keep HB.out (by decide)) 8 _ rfl
  go_wp2_with fail
  clear q8
  refine (wr_many_Lease A8 c8 (l := x.2.2.1) h8 S2.out (by have := hl2; omega)).mono ?_
  rintro e w3 (⟨b3, hb3, rfl, v3, S3', T3'⟩ | ⟨c, hc, rfl, hbe, T3'⟩)
  rotate_left
  · exact ⟨rfl, .inr ⟨c, by simp only [eMachine, HE1.out, HE2.out, hc, cat_err, cat_ok_err, cat_ok_ok], rfl, hbe, TW.out.trans (T2.out.trans T3')⟩⟩
  have hn3 : b3.length = (wList wLease) x.2.2.1 := (cod_list codLease).len _ _ hb3
  obtain ⟨z3, hz3⟩ : ∃ z, z2 ++ b3 = z := ⟨_, rfl⟩
  rw [hz3] at S3'
  have hl3 : z3.length ≤ z0.length + (wCatalog x.1 + ((wList wDone) x.2.1 + ((wList wLease) x.2.2.1))) := by rw [← hz3, List.length_append]; have := hl2; omega
  have S3 := Lib.hid S3'
  have T3 := Lib.hid (T2.out.trans T3')
  have HE3 := Lib.hid hb3
  have HZ3 := Lib.hid hz3
  clear S3' T3' hb3 hz3 hn3 S2 T2 hl2
  have q9 := cell_blk (T3.out.keep HB.out (by decide)) 9 _ rfl
  go_wp2_with fail
  clear q9
  refine (wr_number (x.2.2.2)   S3.out (by have := hl3; omega)).mono ?_
  rintro e w4 (⟨b4, hb4, rfl, v4, S4', T4'⟩ | ⟨c, hc, rfl, hbe, T4'⟩)
  rotate_left
  · exact ⟨rfl, .inr ⟨c, by simp only [eMachine, HE1.out, HE2.out, HE3.out, hc, cat_err, cat_ok_err, cat_ok_ok], rfl, hbe, TW.out.trans (T3.out.trans T4')⟩⟩
  have hn4 : b4.length = 4 := cod_num.len _ _ hb4
  obtain ⟨z4, hz4⟩ : ∃ z, z3 ++ b4 = z := ⟨_, rfl⟩
  rw [hz4] at S4'
  have hl4 : z4.length ≤ z0.length + (wCatalog x.1 + ((wList wDone) x.2.1 + ((wList wLease) x.2.2.1 + (4)))) := by rw [← hz4, List.length_append]; have := hl3; omega
  have S4 := Lib.hid S4'
  have T4 := Lib.hid (T3.out.trans T4')
  have HE4 := Lib.hid hb4
  have HZ4 := Lib.hid hz4
  clear S4' T4' hb4 hz4 hn4 S3 T3 hl3
  go_wp2
  go_end0
  have SF := S4.out
  rw [← HZ4.out, ← HZ3.out, ← HZ2.out, ← HZ1.out] at SF
  refine .inl ⟨_, by simp only [eMachine, HE1.out, HE2.out, HE3.out, HE4.out, cat_ok_ok]; rfl, rfl, v4, ?_, TW.out.trans T4.out⟩
  simpa only [List.append_assoc] using SF
end Go.Proofs.Ytoomcdgnnibjlaa.Wr
/- The program's bytes of a machine, or the first fault. -/
namespace Go.Proofs.Ytoomcdgnnibjlaa.Wr
open Go.RowKit Go.Proofs.YtoomcdgnnibjlaaW.PrintWords Go.Proofs.YtoomcdgnnibjlaaW.PrintLast
set_option linter.unusedVariables false
set_option linter.unusedSimpArgs false


set_option maxRecDepth 100000 in
set_option maxHeartbeats 4000000 in
theorem putMachine_close (pe pb : Addr) (u : FrameMode) (w : World) (hc : w.cell? pe = some (.int .i64 0)) :
    CallsD Try.prog 131 #[.pointer (some pe), .pointer (some pb)] u w fun e u' w' => u' = u ∧ e = .returned (.tuple #[]) ∧ w = w' := by
  go_enter_d Try.func131, Try.ntmps131
  go_wp2
  go_end0
  exact ⟨rfl, rfl⟩
set_option maxRecDepth 100000 in
set_option maxHeartbeats 4000000 in
theorem putMachine_drop (pe pb : Addr) (c : Int) (vb : Value) (u : FrameMode) (w : World) (h0 : c ≠ 0) (hc : w.cell? pe = some (.int .i64 c)) (hb : w.cell? pb = some vb) (hz : w.frozen? pb = false) :
    CallsD Try.prog 131 #[.pointer (some pe), .pointer (some pb)] u w fun e u' w' => u' = u ∧ e = .returned (.tuple #[]) ∧ w' = w.setCell pb (.slice none 0 0) := by
  have h1 : (c == 0) = false := by simpa using h0
  have h2 : (c != 0) = true := by simpa using h0
  go_enter_d Try.func131, Try.ntmps131
  go_wp2
  go_end0
  exact ⟨rfl, rfl⟩
set_option maxRecDepth 100000 in
set_option maxHeartbeats 16000000 in
theorem putMachine (x : TMachine) (A2 : Option Addr) (c2 : Nat) (A3 : Option Addr) (c3 : Nat) (A4 : Option Addr) (c4 : Nat) (A5 : Option Addr) (c5 : Nat) (A6 : Option Addr) (c6 : Nat) (A7 : Option Addr) (c7 : Nat) (A8 : Option Addr) (c8 : Nat) (w : World) (h2 : kSchema.C w A2 x.1.2.2.1.1.length x.1.2.2.1.1) (h3 : kTable.C w A3 x.1.2.2.1.2.length x.1.2.2.1.2) (h4 : Kd.string.C w A4 x.1.2.2.2.1.1.length x.1.2.2.2.1.1) (h5 : kMember.C w A5 x.1.2.2.2.1.2.length x.1.2.2.2.1.2) (h6 : kGrant.C w A6 x.1.2.2.2.2.length x.1.2.2.2.2) (h7 : kDone.C w A7 x.2.1.length x.2.1) (h8 : kLease.C w A8 x.2.2.1.length x.2.2.1) (hm : wMachine x < 140737488355328) : Calls Try.prog 64 #[.agg #[.int .i64 x.1.1, .int .i64 x.1.2.1, .slice A2 x.1.2.2.1.1.length c2, .slice A3 x.1.2.2.1.2.length c3, .slice A4 x.1.2.2.2.1.1.length c4, .slice A5 x.1.2.2.2.1.2.length c5, .slice A6 x.1.2.2.2.2.length c6, .slice A7 x.2.1.length c7, .slice A8 x.2.2.1.length c8, .int .i64 x.2.2.2], .func (.func 65) #[] #[]] w (PutTold w (eMachine x)) := by
  have hmf : ∀ (fn : Fn) (first cap : Array Value) (w : World), (Instr.makeFunc fn first cap).run Try.prog w = .ok (.func fn first cap) w := fun _ _ _ _ => rfl
  obtain ⟨W, hW, hb, hx, hy1, hy2, hy3⟩ := put_world w #[.int .i64 x.1.1, .int .i64 x.1.2.1, .slice A2 x.1.2.2.1.1.length c2, .slice A3 x.1.2.2.1.2.length c3, .slice A4 x.1.2.2.2.1.1.length c4, .slice A5 x.1.2.2.2.1.2.length c5, .slice A6 x.1.2.2.2.2.length c6, .slice A7 x.2.1.length c7, .slice A8 x.2.2.1.length c8, .int .i64 x.2.2.2] 82
  have hL : WAt w W (w.heap.size + 3) (.slice none 0 0) [] := ⟨by omega, hb, hy3, Kd.R_nil _ _ _ _ _⟩
  have C1 := Lib.hid (wr_machine x A2 c2 A3 c3 A4 c4 A5 c5 A6 c6 A7 c7 A8 c8 h2 h3 h4 h5 h6 h7 h8 hL (by simpa using hm))
  have HR := Lib.hid (range_blk [] [.int .i64 x.1.1, .int .i64 x.1.2.1, .slice A2 x.1.2.2.1.1.length c2, .slice A3 x.1.2.2.1.2.length c3, .slice A4 x.1.2.2.2.1.1.length c4, .slice A5 x.1.2.2.2.1.2.length c5, .slice A6 x.1.2.2.2.2.length c6, .slice A7 x.2.1.length c7, .slice A8 x.2.2.1.length c8, .int .i64 x.2.2.2] [] hx)
  have HW := Lib.hid hW
  have H1 := Lib.hid hy1
  have H2 := Lib.hid hy2
  have EZ := Lib.hid (fun c hc => codMachine.err x c hc)
  clear hb hL hW hy1 hy2 hy3 hx hm h2 h3 h4 h5 h6 h7 h8
  go_enter_defers Try.func64, Try.ntmps64
  go_wp2_with (((with_reducible refine gate_load (t := 82) rfl ?_); refine wpList_load_mid rfl 82 _ rfl w.heap.size 0 rfl [.int .i64 x.1.1, .int .i64 x.1.2.1, .slice A2 x.1.2.2.1.1.length c2, .slice A3 x.1.2.2.1.2.length c3, .slice A4 x.1.2.2.2.1.1.length c4, .slice A5 x.1.2.2.2.1.2.length c5, .slice A6 x.1.2.2.2.2.length c6, .slice A7 x.2.1.length c7, .slice A8 x.2.2.1.length c8, .int .i64 x.2.2.2] _ (by rw [HW.out]; exact HR.out) Try.underlying82 rfl (by kernel_rfl) ?_))
  rw [HW.out]
  refine C1.out.mono ?_
  rintro e w1 (⟨b, hb, rfl, v1, S1, T1⟩ | ⟨c, hc, rfl, B1, T1⟩)
  · have S1' := S1
    rw [List.nil_append] at S1'
    obtain ⟨A1, d1, rfl, _, _⟩ := Kd.R_reads S1'.row
    have q3 := cell_blk S1'.cell 0 _ rfl
    have e1 := T1.keep H1.out (by decide)
    have e2 := T1.keep H2.out (by decide)
    have q1 := cell_blk e1 0 _ rfl
    have f1 := frozen_blk e1 0
    have q2 := cell_blk e2 0 _ rfl
    have f2 := frozen_blk e2 0
    obtain ⟨W2, hW2, k1, k2, B2, K2⟩ := two_stores e1 e2 (by omega) (.slice A1 b.length d1) (.int .i64 0)
    have SF := Lib.hid S1'
    have HE := Lib.hid hb
    have HW2 := Lib.hid hW2
    have K1' := Lib.hid k1
    have K2' := Lib.hid k2
    have B2' := Lib.hid (B2 w.heap.size (by omega) (by omega))
    have HK := Lib.hid K2
    clear S1 S1' T1 e1 e2 hW2 k1 k2 B2 K2 hb C1 HR HW H1 H2 EZ
    go_wp2
    rw [HW2.out]
    refine leaves_cons (f := 72) (args := #[.pointer (some ⟨w.heap.size + 1 + 1, 0, none⟩)]) (by simp) (by simp [go_sem]) ?_
    refine (caught_idle ⟨w.heap.size + 1 + 1, 0, none⟩ _).mono ?_
    rintro e u' w'' ⟨rfl, rfl, rfl⟩
    refine leaves_cons (f := 131) (args := #[.pointer (some ⟨w.heap.size + 1 + 1, 0, none⟩), .pointer (some ⟨w.heap.size + 1, 0, none⟩)]) (by simp [settle]) (by simp [go_sem]) ?_
    refine (putMachine_close ⟨w.heap.size + 1 + 1, 0, none⟩ ⟨w.heap.size + 1, 0, none⟩ _ _ (cell_blk K2'.out 0 _ rfl)).mono ?_
    rintro e u' w'' ⟨rfl, rfl, rfl⟩
    have r1 := cell_blk K1'.out 0 _ rfl
    have r2 := cell_blk K2'.out 0 _ rfl
    simp [Leaves, settle, results, Try.results64, go_sem, r1, r2]
    rw [HE.out]
    exact ⟨_, rfl, HK.out.R SF.out.row (by decide), SF.out.below.trans B2'.out⟩
  · have c0 : c ≠ 0 := by
      rcases EZ.out c hc with rfl | rfl <;> decide
    have e1 := T1.keep H1.out (by decide)
    have e2 := T1.keep H2.out (by decide)
    have q2 := cell_blk e2 0 _ rfl
    have f2 := frozen_blk e2 0
    obtain ⟨W2, hW2, k2, k1, B2, K2⟩ := two_stores e2 e1 (by omega) (.int .i64 c) (.slice none 0 0)
    obtain ⟨W3, hW3⟩ : ∃ W3, w1.setCell ⟨w.heap.size + 2, 0, none⟩ (.int .i64 c) = W3 := ⟨_, rfl⟩
    have m2 : W3.heap[w.heap.size + 2]? = some (.cells #[.int .i64 c] 35 (0, 0)) := by rw [← hW3, blk_set e2]; rfl
    have m1 : W3.heap[w.heap.size + 1]? = some (.cells #[.slice none 0 0] 34 (0, 0)) := by rw [← hW3]; exact (Below.heap_setCell w1 ⟨w.heap.size + 2, 0, none⟩ _ _ (by simp)).trans e1
    have HE := Lib.hid hc
    have HC0 := Lib.hid c0
    have HW2 := Lib.hid hW2
    have HW3 := Lib.hid hW3
    have M1 := Lib.hid m1
    have M2 := Lib.hid m2
    have K1' := Lib.hid k1
    have K2' := Lib.hid k2
    have BF := Lib.hid (B1.trans (B2 w.heap.size (by omega) (by omega)))
    have Q2 := Lib.hid q2
    have F2 := Lib.hid f2
    clear T1 e1 e2 hW2 hW3 m1 m2 k1 k2 B2 B1 K2 hc c0 q2 f2 C1 HR HW H1 H2 EZ
    simp only [thrown]
    refine leaves_cons (f := 72) (args := #[.pointer (some ⟨w.heap.size + 1 + 1, 0, none⟩)]) (by simp) (by simp [go_sem]) ?_
    refine (caught_thrown ⟨w.heap.size + 1 + 1, 0, none⟩ 0 c _ Q2.out F2.out).mono ?_
    rintro e u' w'' ⟨rfl, rfl, rfl⟩
    refine leaves_cons (f := 131) (args := #[.pointer (some ⟨w.heap.size + 1 + 1, 0, none⟩), .pointer (some ⟨w.heap.size + 1, 0, none⟩)]) (by simp [settle]) (by simp [go_sem]) ?_
    refine (putMachine_drop ⟨w.heap.size + 1 + 1, 0, none⟩ ⟨w.heap.size + 1, 0, none⟩ c (.slice none 0 0) _ _ HC0.out (by have := cell_blk M2.out 0 _ rfl; rw [← HW3.out] at this; exact this) (by have := cell_blk M1.out 0 _ rfl; rw [← HW3.out] at this; exact this) (by have := frozen_blk M1.out 0; rw [← HW3.out] at this; exact this)).mono ?_
    rintro e u' w'' ⟨rfl, rfl, rfl⟩
    have HW2b : (w1.setCell ⟨w.heap.size + 1 + 1, 0, none⟩ (.int .i64 c)).setCell ⟨w.heap.size + 1, 0, none⟩ (.slice none 0 0) = W2 := HW2.out
    rw [HW2b]
    have r1 := cell_blk K1'.out 0 _ rfl
    have r2 := cell_blk K2'.out 0 _ rfl
    simp [Leaves, settle, results, Try.results64, go_sem, r1, r2]
    rw [HE.out]
    exact ⟨_, rfl, Kd.R_nil _ _ _ _ _, BF.out⟩
set_option maxRecDepth 100000 in
set_option maxHeartbeats 16000000 in
theorem wire_PutMachine (x : TMachine) (A2 : Option Addr) (c2 : Nat) (A3 : Option Addr) (c3 : Nat) (A4 : Option Addr) (c4 : Nat) (A5 : Option Addr) (c5 : Nat) (A6 : Option Addr) (c6 : Nat) (A7 : Option Addr) (c7 : Nat) (A8 : Option Addr) (c8 : Nat) (w : World) (h2 : kSchema.C w A2 x.1.2.2.1.1.length x.1.2.2.1.1) (h3 : kTable.C w A3 x.1.2.2.1.2.length x.1.2.2.1.2) (h4 : Kd.string.C w A4 x.1.2.2.2.1.1.length x.1.2.2.2.1.1) (h5 : kMember.C w A5 x.1.2.2.2.1.2.length x.1.2.2.2.1.2) (h6 : kGrant.C w A6 x.1.2.2.2.2.length x.1.2.2.2.2) (h7 : kDone.C w A7 x.2.1.length x.2.1) (h8 : kLease.C w A8 x.2.2.1.length x.2.2.1) (hm : wMachine x < 140737488355328) : Calls Try.prog 34 #[.agg #[.int .i64 x.1.1, .int .i64 x.1.2.1, .slice A2 x.1.2.2.1.1.length c2, .slice A3 x.1.2.2.1.2.length c3, .slice A4 x.1.2.2.2.1.1.length c4, .slice A5 x.1.2.2.2.1.2.length c5, .slice A6 x.1.2.2.2.2.length c6, .slice A7 x.2.1.length c7, .slice A8 x.2.2.1.length c8, .int .i64 x.2.2.2]] w (PutTold w (eMachine x)) := by
  have C1 := Lib.hid (PutTold.of_alloc (putMachine x A2 c2 A3 c3 A4 c4 A5 c5 A6 c6 A7 c7 A8 c8 (w.alloc (.cells #[.int .i64 x.1.1, .int .i64 x.1.2.1, .slice A2 x.1.2.2.1.1.length c2, .slice A3 x.1.2.2.1.2.length c3, .slice A4 x.1.2.2.2.1.1.length c4, .slice A5 x.1.2.2.2.1.2.length c5, .slice A6 x.1.2.2.2.2.length c6, .slice A7 x.2.1.length c7, .slice A8 x.2.2.1.length c8, .int .i64 x.2.2.2] 82)) (Kd.C_alloc h2 _) (Kd.C_alloc h3 _) (Kd.C_alloc h4 _) (Kd.C_alloc h5 _) (Kd.C_alloc h6 _) (Kd.C_alloc h7 _) (Kd.C_alloc h8 _) hm))
  have HR := Lib.hid (range_blk [] [.int .i64 x.1.1, .int .i64 x.1.2.1, .slice A2 x.1.2.2.1.1.length c2, .slice A3 x.1.2.2.1.2.length c3, .slice A4 x.1.2.2.2.1.1.length c4, .slice A5 x.1.2.2.2.1.2.length c5, .slice A6 x.1.2.2.2.2.length c6, .slice A7 x.2.1.length c7, .slice A8 x.2.2.1.length c8, .int .i64 x.2.2.2] [] (blk_new w (.cells #[.int .i64 x.1.1, .int .i64 x.1.2.1, .slice A2 x.1.2.2.1.1.length c2, .slice A3 x.1.2.2.1.2.length c3, .slice A4 x.1.2.2.2.1.1.length c4, .slice A5 x.1.2.2.2.1.2.length c5, .slice A6 x.1.2.2.2.2.length c6, .slice A7 x.2.1.length c7, .slice A8 x.2.2.1.length c8, .int .i64 x.2.2.2] 82)))
  clear h2 h3 h4 h5 h6 h7 h8 hm
  go_enter Try.func34, Try.ntmps34
  go_wp2_with (((with_reducible refine gate_load (t := 82) rfl ?_); refine wpList_load_mid rfl 82 _ rfl w.heap.size 0 rfl [.int .i64 x.1.1, .int .i64 x.1.2.1, .slice A2 x.1.2.2.1.1.length c2, .slice A3 x.1.2.2.1.2.length c3, .slice A4 x.1.2.2.2.1.1.length c4, .slice A5 x.1.2.2.2.1.2.length c5, .slice A6 x.1.2.2.2.2.length c6, .slice A7 x.2.1.length c7, .slice A8 x.2.2.1.length c8, .int .i64 x.2.2.2] _ HR.out Try.underlying82 rfl (by kernel_rfl) ?_))
  refine C1.out.mono ?_
  rintro e w1 ⟨v, rfl, HR', HB⟩
  have HR'' := Lib.hid HR'
  have HB' := Lib.hid HB
  clear HR HR' HB C1
  go_wp2
  go_ret2
  exact ⟨_, rfl, HR''.out, HB'.out⟩
end Go.Proofs.Ytoomcdgnnibjlaa.Wr
/- The program's reader. -/
namespace Go.Proofs.Ytoomcdgnnibjlaa.Wr
open Go.RowKit Go.Proofs.YtoomcdgnnibjlaaW.PrintWords Go.Proofs.YtoomcdgnnibjlaaW.PrintLast
set_option linter.unusedVariables false
set_option linter.unusedSimpArgs false

theorem info_Rule : (Try.prog.info? 46).map (fun i => (i.zero, i.size, i.bytes)) = some (some (.agg #[.string ⟨#[]⟩, .int .i64 0, .slice none 0 0, .int .i64 0, .int .i64 0, .string ⟨#[]⟩, .string ⟨#[]⟩, .string ⟨#[]⟩]), 8, 112) := by kernel_rfl
set_option maxRecDepth 100000 in
set_option maxHeartbeats 16000000 in
theorem rr_few_Rule {w0 w : World} {g : Nat} {B l : Bs} (hS : RAt w0 w g B l) :
    Calls Try.prog 159 #[.pointer (some ⟨g, 0, none⟩), .func (.func 96) #[] #[]] w (RDone (dList dRule) (fun xs v w' => kRule.R 46 w' w.heap.size (fun _ => True) v xs) w0 g w B l) := by
  have hIB : IsB l := by
    obtain ⟨p, hp⟩ := hS.suf
    have := hS.isB
    rw [hp] at this
    exact this.right
  have HSZ := Lib.hid hS.below.size
  have C1 := Lib.hid (rr_number hS)
  have HS := Lib.hid hS
  have HIB := Lib.hid hIB
  clear hS hIB
  go_enter Try.func159, Try.ntmps159
  go_wp2_with fail
  refine C1.out.mono ?_
  rintro e w1 (⟨n, l1, v, hd, rfl, rfl, S1', T1'⟩ | ⟨hd, rfl, hbe, T1'⟩)
  rotate_left
  · exact ⟨rfl, .inr ⟨by simp only [dList, hd, Option.bind_none], rfl, hbe, T1'⟩⟩
  obtain ⟨hn0, hn1⟩ := dNum_range HIB.out hd
  obtain ⟨m, rfl⟩ := Int.eq_ofNat_of_zero_le hn0
  have S1 := Lib.hid S1'
  have T1 := Lib.hid T1'
  have HD := Lib.hid hd
  clear S1' T1' hd C1 HIB
  by_cases h4 : 4096 < (m : Int)
  · have hdec : decide ((m : Int) ≤ 4096) = false := decide_eq_false (by omega)
    go_wp2_with fail
    refine (is_false _).mono ?_
    rintro e w2 ⟨rfl, rfl⟩
    exact ⟨rfl, .inr ⟨by simp only [dList, HD.out, Option.bind_some]; exact if_pos h4, rfl, S1.out.below, T1.out⟩⟩
  · have hdec : decide ((m : Int) ≤ 4096) = true := decide_eq_true (by omega)
    have hm4 : m ≤ 4096 := by omega
    have HL := Lib.hid (show dList dRule l = dTimes dRule m l1 by simp only [dList, HD.out, Option.bind_some, Int.toNat_natCast]; exact if_neg h4)
    clear h4
    go_wp2_with fail
    refine (is_true _).mono ?_
    rintro e w2 ⟨rfl, rfl⟩
    clear hdec
    go_wp2_with fail
    go_loopw [6, 13] (fun v i wr => ∃ k : Nat, k ≤ m ∧ i = .int .i64 k ∧ ∃ xs lr, dTimes dRule k l1 = some (xs, lr) ∧ xs.length = k ∧ kRule.R 46 wr w.heap.size (fun _ => True) v xs ∧ RAt w0 wr g B lr ∧ Stp SR w wr) (fun _ i _ => m - (intOf i).toNat)
    case atStart => exact ⟨0, Nat.zero_le _, rfl, [], l1, rfl, rfl, Kd.R_nil _ _ _ _ _, S1.out, T1.out⟩
    case round =>
      obtain ⟨k, hk, rfl, xs, lr, hdt, hxl, hR, hS, hT⟩ := hrel
      obtain ⟨A, c, hv, _, _⟩ := Kd.R_reads hR
      subst hv
      have HT := Lib.hid hdt
      have HX := Lib.hid hxl
      have HR := Lib.hid hR
      have SR_ := Lib.hid hS
      have TR := Lib.hid hT
      clear hdt hxl hR hS hT S1 T1
      by_cases hlt : k < m
      · have hlt' : (k : Int) < (m : Int) := by omega
        go_wp2_with fail
        refine (rr_rule SR_.out).mono ?_
        rintro e w3 (⟨x, l2, u, hd, rfl, ⟨cs, hM, rfl⟩, S3', T3'⟩ | ⟨hd, rfl, hbe, T3'⟩)
        rotate_left
        · exact ⟨rfl, .inr ⟨by rw [HL.out]; exact times_none _ HT.out hd hlt, rfl, hbe, TR.out.trans T3'⟩⟩
        have hlen : xs.length ≤ 4096 := by rw [HX.out]; omega
        have hO := T3'.R HR.out (by decide)
        have hE := elem_ok hM (fun k hk => Kd.R_lt HR.out k hk) TR.out.size (v := Value.slice A xs.length c)
        obtain ⟨v2, rfl, _⟩ := openMRule hM
        have HO := Lib.hid hO
        have HE := Lib.hid hE
        have S3 := Lib.hid S3'
        have T3 := Lib.hid (TR.out.trans T3')
        have HD3 := Lib.hid hd
        clear hO hE S3' T3' hd TR HR SR_ hM
        go_wp2_with (((with_reducible refine gate_builtin (b := .append) (xs := #[.tmp 15, .tmp 19]) rfl ?_); at_builtin; refine Kd.R_append kRule (w0 := w3) w.heap.size rfl (.tmp 15) (.tmp 19) 173 46 (.agg #[.string ⟨#[]⟩, .int .i64 0, .slice none 0 0, .int .i64 0, .int .i64 0, .string ⟨#[]⟩, .string ⟨#[]⟩, .string ⟨#[]⟩]) 112 rfl Try.underlying173 info_Rule rfl (by decide) (by decide) (.slice A xs.length c) xs x [.string x.1, .int .i64 x.2.1, v2, .int .i64 x.2.2.2.1, .int .i64 x.2.2.2.2.1, .string x.2.2.2.2.2.1, .string x.2.2.2.2.2.2.1, .string x.2.2.2.2.2.2.2] (fun _ => True) (fun k => True ∧ some k ≠ (Value.slice A xs.length c).ownBlock) rfl rfl HE.out (fun _ h => h) (fun _ _ => trivial) HO.out (Below.refl _ _) (Nat.le_trans T3.out.size (Nat.le_refl _)) (by omega) ?_; intro v1 w4 ho hb hg hat; have HO4 := Lib.hid ho; have HB4 := Lib.hid hb; have HG4 := Lib.hid hg; clear ho hb hg hat))
        have hs4 : dTimes dRule (k + 1) l1 = some (xs ++ [x], l2) := by rw [dTimes_snoc, HT.out]; simp only [Option.bind_some, HD3.out, Option.map_some]
        have HS4 := Lib.hid hs4
        have S4 := Lib.hid (S3.out.keeps (Keeps.row HO.out HG4.out (by decide)) (HB4.out.mono (Nat.le_trans HSZ.out (Nat.le_refl _))))
        have T4 := Lib.hid (T3.out.then HB4.out)
        have HX4 := Lib.hid (show (xs ++ [x]).length = k + 1 by rw [List.length_append, HX.out]; rfl)
        clear hs4
        go_wp2
        go_roundw
        case rel => exact ⟨k + 1, by omega, by simp, _, _, HS4.out, HX4.out, HO4.out, S4.out, T4.out⟩
        case measure => simp [intOf]; omega
      · have hke : k = m := by omega
        have HK := Lib.hid hke
        clear hke
        go_wp2
        go_ret
        have ht := HT.out
        rw [HK.out] at ht
        exact .inl ⟨xs, lr, _, by rw [HL.out, ht], rfl, HR.out, SR_.out, TR.out⟩
set_option maxRecDepth 100000 in
set_option maxHeartbeats 16000000 in
theorem rr_table {w0 w : World} {g : Nat} {B l0 : Bs} (hS : RAt w0 w g B l0) :
    Calls Try.prog 122 #[.pointer (some ⟨g, 0, none⟩)] w (RDone dTable (fun x v w' => ∃ cs, kTable.M w' w.heap.size (fun _ => True) x cs ∧ v = .agg cs.toArray) w0 g w B l0) := by
  have hb0 : Below w.heap.size w (w.alloc (.cells #[.string ⟨#[]⟩, .string ⟨#[]⟩, .string ⟨#[]⟩, .slice none 0 0, .slice none 0 0] 175)) := (Below.refl _ _).alloc (Nat.le_refl _) _
  have hx0 := blk_new w (.cells #[.string ⟨#[]⟩, .string ⟨#[]⟩, .string ⟨#[]⟩, .slice none 0 0, .slice none 0 0] 175)
  obtain ⟨W0, hW0⟩ : ∃ W0, w.alloc (.cells #[.string ⟨#[]⟩, .string ⟨#[]⟩, .string ⟨#[]⟩, .slice none 0 0, .slice none 0 0] 175) = W0 := ⟨_, rfl⟩
  rw [hW0] at hb0 hx0
  have HSZ := Lib.hid hS.below.size
  have S0 := Lib.hid (hS.keeps (Keeps.below hb0) (hb0.mono hS.below.size))
  have B0 := Lib.hid hx0
  have T0 := Lib.hid (Stp.below (S := SR) hb0)
  have HW := Lib.hid hW0
  clear hb0 hx0 hW0 hS
  go_enter Try.func122, Try.ntmps122
  go_wp2_with fail
  rw [HW.out]
  clear HW
  refine (rr_text S0.out).mono ?_
  rintro e y1 (⟨x1, l1, u, hd, rfl, rfl, S', T'⟩ | ⟨hd, rfl, hbe, T'⟩)
  rotate_left
  · exact ⟨rfl, .inr ⟨by simp only [dTable, dPair, hd, Option.bind_some, Option.map_some, Option.bind_none, Option.map_none], rfl, hbe, T0.out.trans T'⟩⟩
  have hbx := T'.keep B0.out (by decide)
  have q := cell_blk hbx 0 _ rfl
  have f := frozen_at hbx 0
  obtain ⟨w1, hw, hbx2, hkp, hbl, hot⟩ := own_store hbx (by decide) 0 (.string x1)
  have hbx3 : w1.heap[w.heap.size]? = some (.cells #[.string x1, .string ⟨#[]⟩, .string ⟨#[]⟩, .slice none 0 0, .slice none 0 0] 175 (0, 0)) := hbx2
  have hbl' := hbl w.heap.size (Nat.le_refl _)
  have S1 := Lib.hid (S'.keeps hkp (hbl'.mono HSZ.out))
  have T1 := Lib.hid ((T0.out.trans T').then hbl')
  have B1 := Lib.hid hbx3
  have HD1 := Lib.hid hd
  have HV := Lib.hid hw
  clear hd hw hbx hbx2 hbx3 hkp hbl hbl' hot S' T' S0 T0 B0
  go_wp2_with fail
  first | rw [HV.out] | (erw [HV.out])
  clear HV q f
  refine (rr_text S1.out).mono ?_
  rintro e y2 (⟨x2, l2, u, hd, rfl, rfl, S', T'⟩ | ⟨hd, rfl, hbe, T'⟩)
  rotate_left
  · exact ⟨rfl, .inr ⟨by simp only [dTable, dPair, HD1.out, hd, Option.bind_some, Option.map_some, Option.bind_none, Option.map_none], rfl, hbe, T1.out.trans T'⟩⟩
  have hbx := T'.keep B1.out (by decide)
  have q := cell_blk hbx 1 _ rfl
  have f := frozen_at hbx 1
  obtain ⟨w2, hw, hbx2, hkp, hbl, hot⟩ := own_store hbx (by decide) 1 (.string x2)
  have hbx3 : w2.heap[w.heap.size]? = some (.cells #[.string x1, .string x2, .string ⟨#[]⟩, .slice none 0 0, .slice none 0 0] 175 (0, 0)) := hbx2
  have hbl' := hbl w.heap.size (Nat.le_refl _)
  have S2 := Lib.hid (S'.keeps hkp (hbl'.mono HSZ.out))
  have T2 := Lib.hid ((T1.out.trans T').then hbl')
  have B2 := Lib.hid hbx3
  have HD2 := Lib.hid hd
  have HV := Lib.hid hw
  clear hd hw hbx hbx2 hbx3 hkp hbl hbl' hot S' T' S1 T1 B1
  go_wp2_with fail
  first | rw [HV.out] | (erw [HV.out])
  clear HV q f
  refine (rr_text S2.out).mono ?_
  rintro e y3 (⟨x3, l3, u, hd, rfl, rfl, S', T'⟩ | ⟨hd, rfl, hbe, T'⟩)
  rotate_left
  · exact ⟨rfl, .inr ⟨by simp only [dTable, dPair, HD1.out, HD2.out, hd, Option.bind_some, Option.map_some, Option.bind_none, Option.map_none], rfl, hbe, T2.out.trans T'⟩⟩
  have hbx := T'.keep B2.out (by decide)
  have q := cell_blk hbx 2 _ rfl
  have f := frozen_at hbx 2
  obtain ⟨w3, hw, hbx2, hkp, hbl, hot⟩ := own_store hbx (by decide) 2 (.string x3)
  have hbx3 : w3.heap[w.heap.size]? = some (.cells #[.string x1, .string x2, .string x3, .slice none 0 0, .slice none 0 0] 175 (0, 0)) := hbx2
  have hbl' := hbl w.heap.size (Nat.le_refl _)
  have S3 := Lib.hid (S'.keeps hkp (hbl'.mono HSZ.out))
  have T3 := Lib.hid ((T2.out.trans T').then hbl')
  have B3 := Lib.hid hbx3
  have HD3 := Lib.hid hd
  have HV := Lib.hid hw
  clear hd hw hbx hbx2 hbx3 hkp hbl hbl' hot S' T' S2 T2 B2
  go_wp2_with fail
  first | rw [HV.out] | (erw [HV.out])
  clear HV q f
  refine (rr_few_Column S3.out).mono ?_
  rintro e y4 (⟨x4, l4, u, hd, rfl, hR, S', T'⟩ | ⟨hd, rfl, hbe, T'⟩)
  rotate_left
  · exact ⟨rfl, .inr ⟨by simp only [dTable, dPair, HD1.out, HD2.out, HD3.out, hd, Option.bind_some, Option.map_some, Option.bind_none, Option.map_none], rfl, hbe, T3.out.trans T'⟩⟩
  have hbx := T'.keep B3.out (by decide)
  obtain ⟨A3, c3, hu, _, _⟩ := Kd.R_reads hR
  subst hu
  have R3' := Kd.R_lower hR T3.out.size
  clear hR
  have q := cell_blk hbx 3 _ rfl
  have f := frozen_at hbx 3
  obtain ⟨w4, hw, hbx2, hkp, hbl, hot⟩ := own_store hbx (by decide) 3 (.slice A3 x4.length c3)
  have hbx3 : w4.heap[w.heap.size]? = some (.cells #[.string x1, .string x2, .string x3, .slice A3 x4.length c3, .slice none 0 0] 175 (0, 0)) := hbx2
  have hbl' := hbl w.heap.size (Nat.le_refl _)
  have S4 := Lib.hid (S'.keeps hkp (hbl'.mono HSZ.out))
  have T4 := Lib.hid ((T3.out.trans T').then hbl')
  have B4 := Lib.hid hbx3
  have R3'' := made_only R3' hbx (by decide) hot
  have R3 := Lib.hid R3''
  clear R3' R3''
  have HD4 := Lib.hid hd
  have HV := Lib.hid hw
  clear hd hw hbx hbx2 hbx3 hkp hbl hbl' hot S' T' S3 T3 B3
  go_wp2_with fail
  first | rw [HV.out] | (erw [HV.out])
  clear HV q f
  refine (rr_few_Rule S4.out).mono ?_
  rintro e y5 (⟨x5, l5, u, hd, rfl, hR, S', T'⟩ | ⟨hd, rfl, hbe, T'⟩)
  rotate_left
  · exact ⟨rfl, .inr ⟨by simp only [dTable, dPair, HD1.out, HD2.out, HD3.out, HD4.out, hd, Option.bind_some, Option.map_some, Option.bind_none, Option.map_none], rfl, hbe, T4.out.trans T'⟩⟩
  have hbx := T'.keep B4.out (by decide)
  have R3' := T'.R R3.out (by decide)
  obtain ⟨A4, c4, hu, _, _⟩ := Kd.R_reads hR
  subst hu
  have R4' := Kd.R_lower hR T4.out.size
  clear hR
  have q := cell_blk hbx 4 _ rfl
  have f := frozen_at hbx 4
  obtain ⟨w5, hw, hbx2, hkp, hbl, hot⟩ := own_store hbx (by decide) 4 (.slice A4 x5.length c4)
  have hbx3 : w5.heap[w.heap.size]? = some (.cells #[.string x1, .string x2, .string x3, .slice A3 x4.length c3, .slice A4 x5.length c4] 175 (0, 0)) := hbx2
  have hbl' := hbl w.heap.size (Nat.le_refl _)
  have S5 := Lib.hid (S'.keeps hkp (hbl'.mono HSZ.out))
  have T5 := Lib.hid ((T4.out.trans T').then hbl')
  have B5 := Lib.hid hbx3
  have R3'' := made_only R3' hbx (by decide) hot
  have R4'' := made_only R4' hbx (by decide) hot
  clear R3
  have R3 := Lib.hid R3''
  clear R3' R3''
  have R4 := Lib.hid R4''
  clear R4' R4''
  have HD5 := Lib.hid hd
  have HV := Lib.hid hw
  clear hd hw hbx hbx2 hbx3 hkp hbl hbl' hot S' T' S4 T4 B4
  have HM := Lib.hid (mkMTable (w := w5) (base := w.heap.size) (ok := fun _ => True) (x1, x2, x3, x4, x5) R3.out R4.out)
  obtain ⟨WF, hWF, hbF, hkF, hblF, hotF⟩ := own_stores [] [.string x1, .string x2, .string x3, .slice A3 x4.length c3, .slice A4 x5.length c4] [.string x1, .string x2, .string x3, .slice A3 x4.length c3, .slice A4 x5.length c4] [] B5.out (by decide) rfl
  have HF := Lib.hid hWF
  have BF := Lib.hid hbF
  have KF := Lib.hid hkF
  have LF := Lib.hid (hblF w.heap.size (Nat.le_refl _))
  have OF := Lib.hid hotF
  clear hWF hbF hkF hblF hotF
  go_wp2_with (first | ((with_reducible refine gate_load (t := 175) rfl ?_); (first | rw [HV.out] | skip); refine wpList_load_mid rfl 175 _ rfl w.heap.size 0 rfl [.string x1, .string x2, .string x3, .slice A3 x4.length c3, .slice A4 x5.length c4] _ (range_blk [] [.string x1, .string x2, .string x3, .slice A3 x4.length c3, .slice A4 x5.length c4] [] B5.out) Try.underlying175 rfl (by kernel_rfl) ?_) | ((with_reducible refine gate_store (t := 175) rfl ?_); refine wpList_store_mid rfl 175 _ _ rfl w.heap.size 0 #[.string x1, .string x2, .string x3, .slice A3 x4.length c3, .slice A4 x5.length c4] rfl rfl (there_blk [] [.string x1, .string x2, .string x3, .slice A3 x4.length c3, .slice A4 x5.length c4] [] B5.out) (by kernel_rfl) (all_oneCell_toArray (kTable.K_one (kTable.K_of_M HM.out))) ?_))
  first | rw [HF.out] | (erw [HF.out])
  refine bodyPost_ret (v := .agg #[.string x1, .string x2, .string x3, .slice A3 x4.length c3, .slice A4 x5.length c4]) (results_cell_row rfl _ _ w.heap.size 175 #[.string x1, .string x2, .string x3, .slice A3 x4.length c3, .slice A4 x5.length c4] (0, 0) _ rfl BF.out Try.underlying175 rfl (by kernel_rfl)) rfl ?_
  exact .inl ⟨(x1, x2, x3, x4, x5), l5, _, by simp only [dTable, dPair, HD1.out, HD2.out, HD3.out, HD4.out, HD5.out, Option.bind_some, Option.map_some, Option.bind_none, Option.map_none], rfl, ⟨_, mkMTable (x1, x2, x3, x4, x5) (made_only R3.out B5.out (by decide) OF.out) (made_only R4.out B5.out (by decide) OF.out), rfl⟩, S5.out.keeps KF.out (LF.out.mono HSZ.out), T5.out.then LF.out⟩
theorem info_Table : (Try.prog.info? 175).map (fun i => (i.zero, i.size, i.bytes)) = some (some (.agg #[.string ⟨#[]⟩, .string ⟨#[]⟩, .string ⟨#[]⟩, .slice none 0 0, .slice none 0 0]), 5, 96) := by kernel_rfl
set_option maxRecDepth 100000 in
set_option maxHeartbeats 16000000 in
theorem rr_few_Table {w0 w : World} {g : Nat} {B l : Bs} (hS : RAt w0 w g B l) :
    Calls Try.prog 121 #[.pointer (some ⟨g, 0, none⟩), .func (.func 122) #[] #[]] w (RDone (dList dTable) (fun xs v w' => kTable.R 175 w' w.heap.size (fun _ => True) v xs) w0 g w B l) := by
  have hIB : IsB l := by
    obtain ⟨p, hp⟩ := hS.suf
    have := hS.isB
    rw [hp] at this
    exact this.right
  have HSZ := Lib.hid hS.below.size
  have C1 := Lib.hid (rr_number hS)
  have HS := Lib.hid hS
  have HIB := Lib.hid hIB
  clear hS hIB
  go_enter Try.func121, Try.ntmps121
  go_wp2_with fail
  refine C1.out.mono ?_
  rintro e w1 (⟨n, l1, v, hd, rfl, rfl, S1', T1'⟩ | ⟨hd, rfl, hbe, T1'⟩)
  rotate_left
  · exact ⟨rfl, .inr ⟨by simp only [dList, hd, Option.bind_none], rfl, hbe, T1'⟩⟩
  obtain ⟨hn0, hn1⟩ := dNum_range HIB.out hd
  obtain ⟨m, rfl⟩ := Int.eq_ofNat_of_zero_le hn0
  have S1 := Lib.hid S1'
  have T1 := Lib.hid T1'
  have HD := Lib.hid hd
  clear S1' T1' hd C1 HIB
  by_cases h4 : 4096 < (m : Int)
  · have hdec : decide ((m : Int) ≤ 4096) = false := decide_eq_false (by omega)
    go_wp2_with fail
    refine (is_false _).mono ?_
    rintro e w2 ⟨rfl, rfl⟩
    exact ⟨rfl, .inr ⟨by simp only [dList, HD.out, Option.bind_some]; exact if_pos h4, rfl, S1.out.below, T1.out⟩⟩
  · have hdec : decide ((m : Int) ≤ 4096) = true := decide_eq_true (by omega)
    have hm4 : m ≤ 4096 := by omega
    have HL := Lib.hid (show dList dTable l = dTimes dTable m l1 by simp only [dList, HD.out, Option.bind_some, Int.toNat_natCast]; exact if_neg h4)
    clear h4
    go_wp2_with fail
    refine (is_true _).mono ?_
    rintro e w2 ⟨rfl, rfl⟩
    clear hdec
    go_wp2_with fail
    go_loopw [6, 13] (fun v i wr => ∃ k : Nat, k ≤ m ∧ i = .int .i64 k ∧ ∃ xs lr, dTimes dTable k l1 = some (xs, lr) ∧ xs.length = k ∧ kTable.R 175 wr w.heap.size (fun _ => True) v xs ∧ RAt w0 wr g B lr ∧ Stp SR w wr) (fun _ i _ => m - (intOf i).toNat)
    case atStart => exact ⟨0, Nat.zero_le _, rfl, [], l1, rfl, rfl, Kd.R_nil _ _ _ _ _, S1.out, T1.out⟩
    case round =>
      obtain ⟨k, hk, rfl, xs, lr, hdt, hxl, hR, hS, hT⟩ := hrel
      obtain ⟨A, c, hv, _, _⟩ := Kd.R_reads hR
      subst hv
      have HT := Lib.hid hdt
      have HX := Lib.hid hxl
      have HR := Lib.hid hR
      have SR_ := Lib.hid hS
      have TR := Lib.hid hT
      clear hdt hxl hR hS hT S1 T1
      by_cases hlt : k < m
      · have hlt' : (k : Int) < (m : Int) := by omega
        go_wp2_with fail
        refine (rr_table SR_.out).mono ?_
        rintro e w3 (⟨x, l2, u, hd, rfl, ⟨cs, hM, rfl⟩, S3', T3'⟩ | ⟨hd, rfl, hbe, T3'⟩)
        rotate_left
        · exact ⟨rfl, .inr ⟨by rw [HL.out]; exact times_none _ HT.out hd hlt, rfl, hbe, TR.out.trans T3'⟩⟩
        have hlen : xs.length ≤ 4096 := by rw [HX.out]; omega
        have hO := T3'.R HR.out (by decide)
        have hE := elem_ok hM (fun k hk => Kd.R_lt HR.out k hk) TR.out.size (v := Value.slice A xs.length c)
        obtain ⟨v3, v4, rfl, _, _⟩ := openMTable hM
        have HO := Lib.hid hO
        have HE := Lib.hid hE
        have S3 := Lib.hid S3'
        have T3 := Lib.hid (TR.out.trans T3')
        have HD3 := Lib.hid hd
        clear hO hE S3' T3' hd TR HR SR_ hM
        go_wp2_with (((with_reducible refine gate_builtin (b := .append) (xs := #[.tmp 15, .tmp 19]) rfl ?_); at_builtin; refine Kd.R_append kTable (w0 := w3) w.heap.size rfl (.tmp 15) (.tmp 19) 66 175 (.agg #[.string ⟨#[]⟩, .string ⟨#[]⟩, .string ⟨#[]⟩, .slice none 0 0, .slice none 0 0]) 96 rfl Try.underlying66 info_Table rfl (by decide) (by decide) (.slice A xs.length c) xs x [.string x.1, .string x.2.1, .string x.2.2.1, v3, v4] (fun _ => True) (fun k => True ∧ some k ≠ (Value.slice A xs.length c).ownBlock) rfl rfl HE.out (fun _ h => h) (fun _ _ => trivial) HO.out (Below.refl _ _) (Nat.le_trans T3.out.size (Nat.le_refl _)) (by omega) ?_; intro v1 w4 ho hb hg hat; have HO4 := Lib.hid ho; have HB4 := Lib.hid hb; have HG4 := Lib.hid hg; clear ho hb hg hat))
        have hs4 : dTimes dTable (k + 1) l1 = some (xs ++ [x], l2) := by rw [dTimes_snoc, HT.out]; simp only [Option.bind_some, HD3.out, Option.map_some]
        have HS4 := Lib.hid hs4
        have S4 := Lib.hid (S3.out.keeps (Keeps.row HO.out HG4.out (by decide)) (HB4.out.mono (Nat.le_trans HSZ.out (Nat.le_refl _))))
        have T4 := Lib.hid (T3.out.then HB4.out)
        have HX4 := Lib.hid (show (xs ++ [x]).length = k + 1 by rw [List.length_append, HX.out]; rfl)
        clear hs4
        go_wp2
        go_roundw
        case rel => exact ⟨k + 1, by omega, by simp, _, _, HS4.out, HX4.out, HO4.out, S4.out, T4.out⟩
        case measure => simp [intOf]; omega
      · have hke : k = m := by omega
        have HK := Lib.hid hke
        clear hke
        go_wp2
        go_ret
        have ht := HT.out
        rw [HK.out] at ht
        exact .inl ⟨xs, lr, _, by rw [HL.out, ht], rfl, HR.out, SR_.out, TR.out⟩
set_option maxRecDepth 100000 in
set_option maxHeartbeats 16000000 in
theorem rr_schema {w0 w : World} {g : Nat} {B l0 : Bs} (hS : RAt w0 w g B l0) :
    Calls Try.prog 120 #[.pointer (some ⟨g, 0, none⟩)] w (RDone dSchema (fun x v w' => ∃ cs, kSchema.M w' w.heap.size (fun _ => True) x cs ∧ v = .agg cs.toArray) w0 g w B l0) := by
  have hb0 : Below w.heap.size w (w.alloc (.cells #[.string ⟨#[]⟩, .string ⟨#[]⟩] 169)) := (Below.refl _ _).alloc (Nat.le_refl _) _
  have hx0 := blk_new w (.cells #[.string ⟨#[]⟩, .string ⟨#[]⟩] 169)
  obtain ⟨W0, hW0⟩ : ∃ W0, w.alloc (.cells #[.string ⟨#[]⟩, .string ⟨#[]⟩] 169) = W0 := ⟨_, rfl⟩
  rw [hW0] at hb0 hx0
  have HSZ := Lib.hid hS.below.size
  have S0 := Lib.hid (hS.keeps (Keeps.below hb0) (hb0.mono hS.below.size))
  have B0 := Lib.hid hx0
  have T0 := Lib.hid (Stp.below (S := SR) hb0)
  have HW := Lib.hid hW0
  clear hb0 hx0 hW0 hS
  go_enter Try.func120, Try.ntmps120
  go_wp2_with fail
  rw [HW.out]
  clear HW
  refine (rr_text S0.out).mono ?_
  rintro e y1 (⟨x1, l1, u, hd, rfl, rfl, S', T'⟩ | ⟨hd, rfl, hbe, T'⟩)
  rotate_left
  · exact ⟨rfl, .inr ⟨by simp only [dSchema, dPair, hd, Option.bind_some, Option.map_some, Option.bind_none, Option.map_none], rfl, hbe, T0.out.trans T'⟩⟩
  have hbx := T'.keep B0.out (by decide)
  have q := cell_blk hbx 0 _ rfl
  have f := frozen_at hbx 0
  obtain ⟨w1, hw, hbx2, hkp, hbl, hot⟩ := own_store hbx (by decide) 0 (.string x1)
  have hbx3 : w1.heap[w.heap.size]? = some (.cells #[.string x1, .string ⟨#[]⟩] 169 (0, 0)) := hbx2
  have hbl' := hbl w.heap.size (Nat.le_refl _)
  have S1 := Lib.hid (S'.keeps hkp (hbl'.mono HSZ.out))
  have T1 := Lib.hid ((T0.out.trans T').then hbl')
  have B1 := Lib.hid hbx3
  have HD1 := Lib.hid hd
  have HV := Lib.hid hw
  clear hd hw hbx hbx2 hbx3 hkp hbl hbl' hot S' T' S0 T0 B0
  go_wp2_with fail
  first | rw [HV.out] | (erw [HV.out])
  clear HV q f
  refine (rr_text S1.out).mono ?_
  rintro e y2 (⟨x2, l2, u, hd, rfl, rfl, S', T'⟩ | ⟨hd, rfl, hbe, T'⟩)
  rotate_left
  · exact ⟨rfl, .inr ⟨by simp only [dSchema, dPair, HD1.out, hd, Option.bind_some, Option.map_some, Option.bind_none, Option.map_none], rfl, hbe, T1.out.trans T'⟩⟩
  have hbx := T'.keep B1.out (by decide)
  have q := cell_blk hbx 1 _ rfl
  have f := frozen_at hbx 1
  obtain ⟨w2, hw, hbx2, hkp, hbl, hot⟩ := own_store hbx (by decide) 1 (.string x2)
  have hbx3 : w2.heap[w.heap.size]? = some (.cells #[.string x1, .string x2] 169 (0, 0)) := hbx2
  have hbl' := hbl w.heap.size (Nat.le_refl _)
  have S2 := Lib.hid (S'.keeps hkp (hbl'.mono HSZ.out))
  have T2 := Lib.hid ((T1.out.trans T').then hbl')
  have B2 := Lib.hid hbx3
  have HD2 := Lib.hid hd
  have HV := Lib.hid hw
  clear hd hw hbx hbx2 hbx3 hkp hbl hbl' hot S' T' S1 T1 B1
  have HM := Lib.hid (mkMSchema (w := w2) (base := w.heap.size) (ok := fun _ => True) (x1, x2) )
  obtain ⟨WF, hWF, hbF, hkF, hblF, hotF⟩ := own_stores [] [.string x1, .string x2] [.string x1, .string x2] [] B2.out (by decide) rfl
  have HF := Lib.hid hWF
  have BF := Lib.hid hbF
  have KF := Lib.hid hkF
  have LF := Lib.hid (hblF w.heap.size (Nat.le_refl _))
  have OF := Lib.hid hotF
  clear hWF hbF hkF hblF hotF
  go_wp2_with (first | ((with_reducible refine gate_load (t := 169) rfl ?_); (first | rw [HV.out] | skip); refine wpList_load_mid rfl 169 _ rfl w.heap.size 0 rfl [.string x1, .string x2] _ (range_blk [] [.string x1, .string x2] [] B2.out) Try.underlying169 rfl (by kernel_rfl) ?_) | ((with_reducible refine gate_store (t := 169) rfl ?_); refine wpList_store_mid rfl 169 _ _ rfl w.heap.size 0 #[.string x1, .string x2] rfl rfl (there_blk [] [.string x1, .string x2] [] B2.out) (by kernel_rfl) (all_oneCell_toArray (kSchema.K_one (kSchema.K_of_M HM.out))) ?_))
  first | rw [HF.out] | (erw [HF.out])
  refine bodyPost_ret (v := .agg #[.string x1, .string x2]) (results_cell_row rfl _ _ w.heap.size 169 #[.string x1, .string x2] (0, 0) _ rfl BF.out Try.underlying169 rfl (by kernel_rfl)) rfl ?_
  exact .inl ⟨(x1, x2), l2, _, by simp only [dSchema, dPair, HD1.out, HD2.out, Option.bind_some, Option.map_some, Option.bind_none, Option.map_none], rfl, ⟨_, mkMSchema (x1, x2) , rfl⟩, S2.out.keeps KF.out (LF.out.mono HSZ.out), T2.out.then LF.out⟩
theorem info_Schema : (Try.prog.info? 169).map (fun i => (i.zero, i.size, i.bytes)) = some (some (.agg #[.string ⟨#[]⟩, .string ⟨#[]⟩]), 2, 32) := by kernel_rfl
set_option maxRecDepth 100000 in
set_option maxHeartbeats 16000000 in
theorem rr_few_Schema {w0 w : World} {g : Nat} {B l : Bs} (hS : RAt w0 w g B l) :
    Calls Try.prog 119 #[.pointer (some ⟨g, 0, none⟩), .func (.func 120) #[] #[]] w (RDone (dList dSchema) (fun xs v w' => kSchema.R 169 w' w.heap.size (fun _ => True) v xs) w0 g w B l) := by
  have hIB : IsB l := by
    obtain ⟨p, hp⟩ := hS.suf
    have := hS.isB
    rw [hp] at this
    exact this.right
  have HSZ := Lib.hid hS.below.size
  have C1 := Lib.hid (rr_number hS)
  have HS := Lib.hid hS
  have HIB := Lib.hid hIB
  clear hS hIB
  go_enter Try.func119, Try.ntmps119
  go_wp2_with fail
  refine C1.out.mono ?_
  rintro e w1 (⟨n, l1, v, hd, rfl, rfl, S1', T1'⟩ | ⟨hd, rfl, hbe, T1'⟩)
  rotate_left
  · exact ⟨rfl, .inr ⟨by simp only [dList, hd, Option.bind_none], rfl, hbe, T1'⟩⟩
  obtain ⟨hn0, hn1⟩ := dNum_range HIB.out hd
  obtain ⟨m, rfl⟩ := Int.eq_ofNat_of_zero_le hn0
  have S1 := Lib.hid S1'
  have T1 := Lib.hid T1'
  have HD := Lib.hid hd
  clear S1' T1' hd C1 HIB
  by_cases h4 : 4096 < (m : Int)
  · have hdec : decide ((m : Int) ≤ 4096) = false := decide_eq_false (by omega)
    go_wp2_with fail
    refine (is_false _).mono ?_
    rintro e w2 ⟨rfl, rfl⟩
    exact ⟨rfl, .inr ⟨by simp only [dList, HD.out, Option.bind_some]; exact if_pos h4, rfl, S1.out.below, T1.out⟩⟩
  · have hdec : decide ((m : Int) ≤ 4096) = true := decide_eq_true (by omega)
    have hm4 : m ≤ 4096 := by omega
    have HL := Lib.hid (show dList dSchema l = dTimes dSchema m l1 by simp only [dList, HD.out, Option.bind_some, Int.toNat_natCast]; exact if_neg h4)
    clear h4
    go_wp2_with fail
    refine (is_true _).mono ?_
    rintro e w2 ⟨rfl, rfl⟩
    clear hdec
    go_wp2_with fail
    go_loopw [6, 13] (fun v i wr => ∃ k : Nat, k ≤ m ∧ i = .int .i64 k ∧ ∃ xs lr, dTimes dSchema k l1 = some (xs, lr) ∧ xs.length = k ∧ kSchema.R 169 wr w.heap.size (fun _ => True) v xs ∧ RAt w0 wr g B lr ∧ Stp SR w wr) (fun _ i _ => m - (intOf i).toNat)
    case atStart => exact ⟨0, Nat.zero_le _, rfl, [], l1, rfl, rfl, Kd.R_nil _ _ _ _ _, S1.out, T1.out⟩
    case round =>
      obtain ⟨k, hk, rfl, xs, lr, hdt, hxl, hR, hS, hT⟩ := hrel
      obtain ⟨A, c, hv, _, _⟩ := Kd.R_reads hR
      subst hv
      have HT := Lib.hid hdt
      have HX := Lib.hid hxl
      have HR := Lib.hid hR
      have SR_ := Lib.hid hS
      have TR := Lib.hid hT
      clear hdt hxl hR hS hT S1 T1
      by_cases hlt : k < m
      · have hlt' : (k : Int) < (m : Int) := by omega
        go_wp2_with fail
        refine (rr_schema SR_.out).mono ?_
        rintro e w3 (⟨x, l2, u, hd, rfl, ⟨cs, hM, rfl⟩, S3', T3'⟩ | ⟨hd, rfl, hbe, T3'⟩)
        rotate_left
        · exact ⟨rfl, .inr ⟨by rw [HL.out]; exact times_none _ HT.out hd hlt, rfl, hbe, TR.out.trans T3'⟩⟩
        have hlen : xs.length ≤ 4096 := by rw [HX.out]; omega
        have hO := T3'.R HR.out (by decide)
        have hE := elem_ok hM (fun k hk => Kd.R_lt HR.out k hk) TR.out.size (v := Value.slice A xs.length c)
        obtain rfl := openMSchema hM
        have HO := Lib.hid hO
        have HE := Lib.hid hE
        have S3 := Lib.hid S3'
        have T3 := Lib.hid (TR.out.trans T3')
        have HD3 := Lib.hid hd
        clear hO hE S3' T3' hd TR HR SR_ hM
        go_wp2_with (((with_reducible refine gate_builtin (b := .append) (xs := #[.tmp 15, .tmp 19]) rfl ?_); at_builtin; refine Kd.R_append kSchema (w0 := w3) w.heap.size rfl (.tmp 15) (.tmp 19) 65 169 (.agg #[.string ⟨#[]⟩, .string ⟨#[]⟩]) 32 rfl Try.underlying65 info_Schema rfl (by decide) (by decide) (.slice A xs.length c) xs x [.string x.1, .string x.2] (fun _ => True) (fun k => True ∧ some k ≠ (Value.slice A xs.length c).ownBlock) rfl rfl HE.out (fun _ h => h) (fun _ _ => trivial) HO.out (Below.refl _ _) (Nat.le_trans T3.out.size (Nat.le_refl _)) (by omega) ?_; intro v1 w4 ho hb hg hat; have HO4 := Lib.hid ho; have HB4 := Lib.hid hb; have HG4 := Lib.hid hg; clear ho hb hg hat))
        have hs4 : dTimes dSchema (k + 1) l1 = some (xs ++ [x], l2) := by rw [dTimes_snoc, HT.out]; simp only [Option.bind_some, HD3.out, Option.map_some]
        have HS4 := Lib.hid hs4
        have S4 := Lib.hid (S3.out.keeps (Keeps.row HO.out HG4.out (by decide)) (HB4.out.mono (Nat.le_trans HSZ.out (Nat.le_refl _))))
        have T4 := Lib.hid (T3.out.then HB4.out)
        have HX4 := Lib.hid (show (xs ++ [x]).length = k + 1 by rw [List.length_append, HX.out]; rfl)
        clear hs4
        go_wp2
        go_roundw
        case rel => exact ⟨k + 1, by omega, by simp, _, _, HS4.out, HX4.out, HO4.out, S4.out, T4.out⟩
        case measure => simp [intOf]; omega
      · have hke : k = m := by omega
        have HK := Lib.hid hke
        clear hke
        go_wp2
        go_ret
        have ht := HT.out
        rw [HK.out] at ht
        exact .inl ⟨xs, lr, _, by rw [HL.out, ht], rfl, HR.out, SR_.out, TR.out⟩
set_option maxRecDepth 100000 in
set_option maxHeartbeats 16000000 in
theorem rr_member {w0 w : World} {g : Nat} {B l0 : Bs} (hS : RAt w0 w g B l0) :
    Calls Try.prog 125 #[.pointer (some ⟨g, 0, none⟩)] w (RDone dMember (fun x v w' => ∃ cs, kMember.M w' w.heap.size (fun _ => True) x cs ∧ v = .agg cs.toArray) w0 g w B l0) := by
  have hb0 : Below w.heap.size w (w.alloc (.cells #[.string ⟨#[]⟩, .string ⟨#[]⟩] 164)) := (Below.refl _ _).alloc (Nat.le_refl _) _
  have hx0 := blk_new w (.cells #[.string ⟨#[]⟩, .string ⟨#[]⟩] 164)
  obtain ⟨W0, hW0⟩ : ∃ W0, w.alloc (.cells #[.string ⟨#[]⟩, .string ⟨#[]⟩] 164) = W0 := ⟨_, rfl⟩
  rw [hW0] at hb0 hx0
  have HSZ := Lib.hid hS.below.size
  have S0 := Lib.hid (hS.keeps (Keeps.below hb0) (hb0.mono hS.below.size))
  have B0 := Lib.hid hx0
  have T0 := Lib.hid (Stp.below (S := SR) hb0)
  have HW := Lib.hid hW0
  clear hb0 hx0 hW0 hS
  go_enter Try.func125, Try.ntmps125
  go_wp2_with fail
  rw [HW.out]
  clear HW
  refine (rr_text S0.out).mono ?_
  rintro e y1 (⟨x1, l1, u, hd, rfl, rfl, S', T'⟩ | ⟨hd, rfl, hbe, T'⟩)
  rotate_left
  · exact ⟨rfl, .inr ⟨by simp only [dMember, dPair, hd, Option.bind_some, Option.map_some, Option.bind_none, Option.map_none], rfl, hbe, T0.out.trans T'⟩⟩
  have hbx := T'.keep B0.out (by decide)
  have q := cell_blk hbx 0 _ rfl
  have f := frozen_at hbx 0
  obtain ⟨w1, hw, hbx2, hkp, hbl, hot⟩ := own_store hbx (by decide) 0 (.string x1)
  have hbx3 : w1.heap[w.heap.size]? = some (.cells #[.string x1, .string ⟨#[]⟩] 164 (0, 0)) := hbx2
  have hbl' := hbl w.heap.size (Nat.le_refl _)
  have S1 := Lib.hid (S'.keeps hkp (hbl'.mono HSZ.out))
  have T1 := Lib.hid ((T0.out.trans T').then hbl')
  have B1 := Lib.hid hbx3
  have HD1 := Lib.hid hd
  have HV := Lib.hid hw
  clear hd hw hbx hbx2 hbx3 hkp hbl hbl' hot S' T' S0 T0 B0
  go_wp2_with fail
  first | rw [HV.out] | (erw [HV.out])
  clear HV q f
  refine (rr_text S1.out).mono ?_
  rintro e y2 (⟨x2, l2, u, hd, rfl, rfl, S', T'⟩ | ⟨hd, rfl, hbe, T'⟩)
  rotate_left
  · exact ⟨rfl, .inr ⟨by simp only [dMember, dPair, HD1.out, hd, Option.bind_some, Option.map_some, Option.bind_none, Option.map_none], rfl, hbe, T1.out.trans T'⟩⟩
  have hbx := T'.keep B1.out (by decide)
  have q := cell_blk hbx 1 _ rfl
  have f := frozen_at hbx 1
  obtain ⟨w2, hw, hbx2, hkp, hbl, hot⟩ := own_store hbx (by decide) 1 (.string x2)
  have hbx3 : w2.heap[w.heap.size]? = some (.cells #[.string x1, .string x2] 164 (0, 0)) := hbx2
  have hbl' := hbl w.heap.size (Nat.le_refl _)
  have S2 := Lib.hid (S'.keeps hkp (hbl'.mono HSZ.out))
  have T2 := Lib.hid ((T1.out.trans T').then hbl')
  have B2 := Lib.hid hbx3
  have HD2 := Lib.hid hd
  have HV := Lib.hid hw
  clear hd hw hbx hbx2 hbx3 hkp hbl hbl' hot S' T' S1 T1 B1
  have HM := Lib.hid (mkMMember (w := w2) (base := w.heap.size) (ok := fun _ => True) (x1, x2) )
  obtain ⟨WF, hWF, hbF, hkF, hblF, hotF⟩ := own_stores [] [.string x1, .string x2] [.string x1, .string x2] [] B2.out (by decide) rfl
  have HF := Lib.hid hWF
  have BF := Lib.hid hbF
  have KF := Lib.hid hkF
  have LF := Lib.hid (hblF w.heap.size (Nat.le_refl _))
  have OF := Lib.hid hotF
  clear hWF hbF hkF hblF hotF
  go_wp2_with (first | ((with_reducible refine gate_load (t := 164) rfl ?_); (first | rw [HV.out] | skip); refine wpList_load_mid rfl 164 _ rfl w.heap.size 0 rfl [.string x1, .string x2] _ (range_blk [] [.string x1, .string x2] [] B2.out) Try.underlying164 rfl (by kernel_rfl) ?_) | ((with_reducible refine gate_store (t := 164) rfl ?_); refine wpList_store_mid rfl 164 _ _ rfl w.heap.size 0 #[.string x1, .string x2] rfl rfl (there_blk [] [.string x1, .string x2] [] B2.out) (by kernel_rfl) (all_oneCell_toArray (kMember.K_one (kMember.K_of_M HM.out))) ?_))
  first | rw [HF.out] | (erw [HF.out])
  refine bodyPost_ret (v := .agg #[.string x1, .string x2]) (results_cell_row rfl _ _ w.heap.size 164 #[.string x1, .string x2] (0, 0) _ rfl BF.out Try.underlying164 rfl (by kernel_rfl)) rfl ?_
  exact .inl ⟨(x1, x2), l2, _, by simp only [dMember, dPair, HD1.out, HD2.out, Option.bind_some, Option.map_some, Option.bind_none, Option.map_none], rfl, ⟨_, mkMMember (x1, x2) , rfl⟩, S2.out.keeps KF.out (LF.out.mono HSZ.out), T2.out.then LF.out⟩
theorem info_Member : (Try.prog.info? 164).map (fun i => (i.zero, i.size, i.bytes)) = some (some (.agg #[.string ⟨#[]⟩, .string ⟨#[]⟩]), 2, 32) := by kernel_rfl
set_option maxRecDepth 100000 in
set_option maxHeartbeats 16000000 in
theorem rr_few_Member {w0 w : World} {g : Nat} {B l : Bs} (hS : RAt w0 w g B l) :
    Calls Try.prog 124 #[.pointer (some ⟨g, 0, none⟩), .func (.func 125) #[] #[]] w (RDone (dList dMember) (fun xs v w' => kMember.R 164 w' w.heap.size (fun _ => True) v xs) w0 g w B l) := by
  have hIB : IsB l := by
    obtain ⟨p, hp⟩ := hS.suf
    have := hS.isB
    rw [hp] at this
    exact this.right
  have HSZ := Lib.hid hS.below.size
  have C1 := Lib.hid (rr_number hS)
  have HS := Lib.hid hS
  have HIB := Lib.hid hIB
  clear hS hIB
  go_enter Try.func124, Try.ntmps124
  go_wp2_with fail
  refine C1.out.mono ?_
  rintro e w1 (⟨n, l1, v, hd, rfl, rfl, S1', T1'⟩ | ⟨hd, rfl, hbe, T1'⟩)
  rotate_left
  · exact ⟨rfl, .inr ⟨by simp only [dList, hd, Option.bind_none], rfl, hbe, T1'⟩⟩
  obtain ⟨hn0, hn1⟩ := dNum_range HIB.out hd
  obtain ⟨m, rfl⟩ := Int.eq_ofNat_of_zero_le hn0
  have S1 := Lib.hid S1'
  have T1 := Lib.hid T1'
  have HD := Lib.hid hd
  clear S1' T1' hd C1 HIB
  by_cases h4 : 4096 < (m : Int)
  · have hdec : decide ((m : Int) ≤ 4096) = false := decide_eq_false (by omega)
    go_wp2_with fail
    refine (is_false _).mono ?_
    rintro e w2 ⟨rfl, rfl⟩
    exact ⟨rfl, .inr ⟨by simp only [dList, HD.out, Option.bind_some]; exact if_pos h4, rfl, S1.out.below, T1.out⟩⟩
  · have hdec : decide ((m : Int) ≤ 4096) = true := decide_eq_true (by omega)
    have hm4 : m ≤ 4096 := by omega
    have HL := Lib.hid (show dList dMember l = dTimes dMember m l1 by simp only [dList, HD.out, Option.bind_some, Int.toNat_natCast]; exact if_neg h4)
    clear h4
    go_wp2_with fail
    refine (is_true _).mono ?_
    rintro e w2 ⟨rfl, rfl⟩
    clear hdec
    go_wp2_with fail
    go_loopw [6, 13] (fun v i wr => ∃ k : Nat, k ≤ m ∧ i = .int .i64 k ∧ ∃ xs lr, dTimes dMember k l1 = some (xs, lr) ∧ xs.length = k ∧ kMember.R 164 wr w.heap.size (fun _ => True) v xs ∧ RAt w0 wr g B lr ∧ Stp SR w wr) (fun _ i _ => m - (intOf i).toNat)
    case atStart => exact ⟨0, Nat.zero_le _, rfl, [], l1, rfl, rfl, Kd.R_nil _ _ _ _ _, S1.out, T1.out⟩
    case round =>
      obtain ⟨k, hk, rfl, xs, lr, hdt, hxl, hR, hS, hT⟩ := hrel
      obtain ⟨A, c, hv, _, _⟩ := Kd.R_reads hR
      subst hv
      have HT := Lib.hid hdt
      have HX := Lib.hid hxl
      have HR := Lib.hid hR
      have SR_ := Lib.hid hS
      have TR := Lib.hid hT
      clear hdt hxl hR hS hT S1 T1
      by_cases hlt : k < m
      · have hlt' : (k : Int) < (m : Int) := by omega
        go_wp2_with fail
        refine (rr_member SR_.out).mono ?_
        rintro e w3 (⟨x, l2, u, hd, rfl, ⟨cs, hM, rfl⟩, S3', T3'⟩ | ⟨hd, rfl, hbe, T3'⟩)
        rotate_left
        · exact ⟨rfl, .inr ⟨by rw [HL.out]; exact times_none _ HT.out hd hlt, rfl, hbe, TR.out.trans T3'⟩⟩
        have hlen : xs.length ≤ 4096 := by rw [HX.out]; omega
        have hO := T3'.R HR.out (by decide)
        have hE := elem_ok hM (fun k hk => Kd.R_lt HR.out k hk) TR.out.size (v := Value.slice A xs.length c)
        obtain rfl := openMMember hM
        have HO := Lib.hid hO
        have HE := Lib.hid hE
        have S3 := Lib.hid S3'
        have T3 := Lib.hid (TR.out.trans T3')
        have HD3 := Lib.hid hd
        clear hO hE S3' T3' hd TR HR SR_ hM
        go_wp2_with (((with_reducible refine gate_builtin (b := .append) (xs := #[.tmp 15, .tmp 19]) rfl ?_); at_builtin; refine Kd.R_append kMember (w0 := w3) w.heap.size rfl (.tmp 15) (.tmp 19) 69 164 (.agg #[.string ⟨#[]⟩, .string ⟨#[]⟩]) 32 rfl Try.underlying69 info_Member rfl (by decide) (by decide) (.slice A xs.length c) xs x [.string x.1, .string x.2] (fun _ => True) (fun k => True ∧ some k ≠ (Value.slice A xs.length c).ownBlock) rfl rfl HE.out (fun _ h => h) (fun _ _ => trivial) HO.out (Below.refl _ _) (Nat.le_trans T3.out.size (Nat.le_refl _)) (by omega) ?_; intro v1 w4 ho hb hg hat; have HO4 := Lib.hid ho; have HB4 := Lib.hid hb; have HG4 := Lib.hid hg; clear ho hb hg hat))
        have hs4 : dTimes dMember (k + 1) l1 = some (xs ++ [x], l2) := by rw [dTimes_snoc, HT.out]; simp only [Option.bind_some, HD3.out, Option.map_some]
        have HS4 := Lib.hid hs4
        have S4 := Lib.hid (S3.out.keeps (Keeps.row HO.out HG4.out (by decide)) (HB4.out.mono (Nat.le_trans HSZ.out (Nat.le_refl _))))
        have T4 := Lib.hid (T3.out.then HB4.out)
        have HX4 := Lib.hid (show (xs ++ [x]).length = k + 1 by rw [List.length_append, HX.out]; rfl)
        clear hs4
        go_wp2
        go_roundw
        case rel => exact ⟨k + 1, by omega, by simp, _, _, HS4.out, HX4.out, HO4.out, S4.out, T4.out⟩
        case measure => simp [intOf]; omega
      · have hke : k = m := by omega
        have HK := Lib.hid hke
        clear hke
        go_wp2
        go_ret
        have ht := HT.out
        rw [HK.out] at ht
        exact .inl ⟨xs, lr, _, by rw [HL.out, ht], rfl, HR.out, SR_.out, TR.out⟩
set_option maxRecDepth 100000 in
set_option maxHeartbeats 16000000 in
theorem rr_grant {w0 w : World} {g : Nat} {B l0 : Bs} (hS : RAt w0 w g B l0) :
    Calls Try.prog 127 #[.pointer (some ⟨g, 0, none⟩)] w (RDone dGrant (fun x v w' => ∃ cs, kGrant.M w' w.heap.size (fun _ => True) x cs ∧ v = .agg cs.toArray) w0 g w B l0) := by
  have hb0 : Below w.heap.size w (w.alloc (.cells #[.string ⟨#[]⟩, .string ⟨#[]⟩, .int .i64 0, .string ⟨#[]⟩, .string ⟨#[]⟩, .bool false] 166)) := (Below.refl _ _).alloc (Nat.le_refl _) _
  have hx0 := blk_new w (.cells #[.string ⟨#[]⟩, .string ⟨#[]⟩, .int .i64 0, .string ⟨#[]⟩, .string ⟨#[]⟩, .bool false] 166)
  obtain ⟨W0, hW0⟩ : ∃ W0, w.alloc (.cells #[.string ⟨#[]⟩, .string ⟨#[]⟩, .int .i64 0, .string ⟨#[]⟩, .string ⟨#[]⟩, .bool false] 166) = W0 := ⟨_, rfl⟩
  rw [hW0] at hb0 hx0
  have HSZ := Lib.hid hS.below.size
  have S0 := Lib.hid (hS.keeps (Keeps.below hb0) (hb0.mono hS.below.size))
  have B0 := Lib.hid hx0
  have T0 := Lib.hid (Stp.below (S := SR) hb0)
  have HW := Lib.hid hW0
  clear hb0 hx0 hW0 hS
  go_enter Try.func127, Try.ntmps127
  go_wp2_with fail
  rw [HW.out]
  clear HW
  refine (rr_text S0.out).mono ?_
  rintro e y1 (⟨x1, l1, u, hd, rfl, rfl, S', T'⟩ | ⟨hd, rfl, hbe, T'⟩)
  rotate_left
  · exact ⟨rfl, .inr ⟨by simp only [dGrant, dPair, hd, Option.bind_some, Option.map_some, Option.bind_none, Option.map_none], rfl, hbe, T0.out.trans T'⟩⟩
  have hbx := T'.keep B0.out (by decide)
  have q := cell_blk hbx 0 _ rfl
  have f := frozen_at hbx 0
  obtain ⟨w1, hw, hbx2, hkp, hbl, hot⟩ := own_store hbx (by decide) 0 (.string x1)
  have hbx3 : w1.heap[w.heap.size]? = some (.cells #[.string x1, .string ⟨#[]⟩, .int .i64 0, .string ⟨#[]⟩, .string ⟨#[]⟩, .bool false] 166 (0, 0)) := hbx2
  have hbl' := hbl w.heap.size (Nat.le_refl _)
  have S1 := Lib.hid (S'.keeps hkp (hbl'.mono HSZ.out))
  have T1 := Lib.hid ((T0.out.trans T').then hbl')
  have B1 := Lib.hid hbx3
  have HD1 := Lib.hid hd
  have HV := Lib.hid hw
  clear hd hw hbx hbx2 hbx3 hkp hbl hbl' hot S' T' S0 T0 B0
  go_wp2_with fail
  first | rw [HV.out] | (erw [HV.out])
  clear HV q f
  refine (rr_text S1.out).mono ?_
  rintro e y2 (⟨x2, l2, u, hd, rfl, rfl, S', T'⟩ | ⟨hd, rfl, hbe, T'⟩)
  rotate_left
  · exact ⟨rfl, .inr ⟨by simp only [dGrant, dPair, HD1.out, hd, Option.bind_some, Option.map_some, Option.bind_none, Option.map_none], rfl, hbe, T1.out.trans T'⟩⟩
  have hbx := T'.keep B1.out (by decide)
  have q := cell_blk hbx 1 _ rfl
  have f := frozen_at hbx 1
  obtain ⟨w2, hw, hbx2, hkp, hbl, hot⟩ := own_store hbx (by decide) 1 (.string x2)
  have hbx3 : w2.heap[w.heap.size]? = some (.cells #[.string x1, .string x2, .int .i64 0, .string ⟨#[]⟩, .string ⟨#[]⟩, .bool false] 166 (0, 0)) := hbx2
  have hbl' := hbl w.heap.size (Nat.le_refl _)
  have S2 := Lib.hid (S'.keeps hkp (hbl'.mono HSZ.out))
  have T2 := Lib.hid ((T1.out.trans T').then hbl')
  have B2 := Lib.hid hbx3
  have HD2 := Lib.hid hd
  have HV := Lib.hid hw
  clear hd hw hbx hbx2 hbx3 hkp hbl hbl' hot S' T' S1 T1 B1
  go_wp2_with fail
  first | rw [HV.out] | (erw [HV.out])
  clear HV q f
  refine (rr_number S2.out).mono ?_
  rintro e y3 (⟨x3, l3, u, hd, rfl, rfl, S', T'⟩ | ⟨hd, rfl, hbe, T'⟩)
  rotate_left
  · exact ⟨rfl, .inr ⟨by simp only [dGrant, dPair, HD1.out, HD2.out, hd, Option.bind_some, Option.map_some, Option.bind_none, Option.map_none], rfl, hbe, T2.out.trans T'⟩⟩
  have hbx := T'.keep B2.out (by decide)
  have q := cell_blk hbx 2 _ rfl
  have f := frozen_at hbx 2
  obtain ⟨w3, hw, hbx2, hkp, hbl, hot⟩ := own_store hbx (by decide) 2 (.int .i64 x3)
  have hbx3 : w3.heap[w.heap.size]? = some (.cells #[.string x1, .string x2, .int .i64 x3, .string ⟨#[]⟩, .string ⟨#[]⟩, .bool false] 166 (0, 0)) := hbx2
  have hbl' := hbl w.heap.size (Nat.le_refl _)
  have S3 := Lib.hid (S'.keeps hkp (hbl'.mono HSZ.out))
  have T3 := Lib.hid ((T2.out.trans T').then hbl')
  have B3 := Lib.hid hbx3
  have HD3 := Lib.hid hd
  have HV := Lib.hid hw
  clear hd hw hbx hbx2 hbx3 hkp hbl hbl' hot S' T' S2 T2 B2
  go_wp2_with fail
  first | rw [HV.out] | (erw [HV.out])
  clear HV q f
  refine (rr_text S3.out).mono ?_
  rintro e y4 (⟨x4, l4, u, hd, rfl, rfl, S', T'⟩ | ⟨hd, rfl, hbe, T'⟩)
  rotate_left
  · exact ⟨rfl, .inr ⟨by simp only [dGrant, dPair, HD1.out, HD2.out, HD3.out, hd, Option.bind_some, Option.map_some, Option.bind_none, Option.map_none], rfl, hbe, T3.out.trans T'⟩⟩
  have hbx := T'.keep B3.out (by decide)
  have q := cell_blk hbx 3 _ rfl
  have f := frozen_at hbx 3
  obtain ⟨w4, hw, hbx2, hkp, hbl, hot⟩ := own_store hbx (by decide) 3 (.string x4)
  have hbx3 : w4.heap[w.heap.size]? = some (.cells #[.string x1, .string x2, .int .i64 x3, .string x4, .string ⟨#[]⟩, .bool false] 166 (0, 0)) := hbx2
  have hbl' := hbl w.heap.size (Nat.le_refl _)
  have S4 := Lib.hid (S'.keeps hkp (hbl'.mono HSZ.out))
  have T4 := Lib.hid ((T3.out.trans T').then hbl')
  have B4 := Lib.hid hbx3
  have HD4 := Lib.hid hd
  have HV := Lib.hid hw
  clear hd hw hbx hbx2 hbx3 hkp hbl hbl' hot S' T' S3 T3 B3
  go_wp2_with fail
  first | rw [HV.out] | (erw [HV.out])
  clear HV q f
  refine (rr_text S4.out).mono ?_
  rintro e y5 (⟨x5, l5, u, hd, rfl, rfl, S', T'⟩ | ⟨hd, rfl, hbe, T'⟩)
  rotate_left
  · exact ⟨rfl, .inr ⟨by simp only [dGrant, dPair, HD1.out, HD2.out, HD3.out, HD4.out, hd, Option.bind_some, Option.map_some, Option.bind_none, Option.map_none], rfl, hbe, T4.out.trans T'⟩⟩
  have hbx := T'.keep B4.out (by decide)
  have q := cell_blk hbx 4 _ rfl
  have f := frozen_at hbx 4
  obtain ⟨w5, hw, hbx2, hkp, hbl, hot⟩ := own_store hbx (by decide) 4 (.string x5)
  have hbx3 : w5.heap[w.heap.size]? = some (.cells #[.string x1, .string x2, .int .i64 x3, .string x4, .string x5, .bool false] 166 (0, 0)) := hbx2
  have hbl' := hbl w.heap.size (Nat.le_refl _)
  have S5 := Lib.hid (S'.keeps hkp (hbl'.mono HSZ.out))
  have T5 := Lib.hid ((T4.out.trans T').then hbl')
  have B5 := Lib.hid hbx3
  have HD5 := Lib.hid hd
  have HV := Lib.hid hw
  clear hd hw hbx hbx2 hbx3 hkp hbl hbl' hot S' T' S4 T4 B4
  go_wp2_with fail
  first | rw [HV.out] | (erw [HV.out])
  clear HV q f
  refine (rr_flag S5.out).mono ?_
  rintro e y6 (⟨x6, l6, u, hd, rfl, rfl, S', T'⟩ | ⟨hd, rfl, hbe, T'⟩)
  rotate_left
  · exact ⟨rfl, .inr ⟨by simp only [dGrant, dPair, HD1.out, HD2.out, HD3.out, HD4.out, HD5.out, hd, Option.bind_some, Option.map_some, Option.bind_none, Option.map_none], rfl, hbe, T5.out.trans T'⟩⟩
  have hbx := T'.keep B5.out (by decide)
  have q := cell_blk hbx 5 _ rfl
  have f := frozen_at hbx 5
  obtain ⟨w6, hw, hbx2, hkp, hbl, hot⟩ := own_store hbx (by decide) 5 (.bool x6)
  have hbx3 : w6.heap[w.heap.size]? = some (.cells #[.string x1, .string x2, .int .i64 x3, .string x4, .string x5, .bool x6] 166 (0, 0)) := hbx2
  have hbl' := hbl w.heap.size (Nat.le_refl _)
  have S6 := Lib.hid (S'.keeps hkp (hbl'.mono HSZ.out))
  have T6 := Lib.hid ((T5.out.trans T').then hbl')
  have B6 := Lib.hid hbx3
  have HD6 := Lib.hid hd
  have HV := Lib.hid hw
  clear hd hw hbx hbx2 hbx3 hkp hbl hbl' hot S' T' S5 T5 B5
  have HM := Lib.hid (mkMGrant (w := w6) (base := w.heap.size) (ok := fun _ => True) (x1, x2, x3, x4, x5, x6) )
  obtain ⟨WF, hWF, hbF, hkF, hblF, hotF⟩ := own_stores [] [.string x1, .string x2, .int .i64 x3, .string x4, .string x5, .bool x6] [.string x1, .string x2, .int .i64 x3, .string x4, .string x5, .bool x6] [] B6.out (by decide) rfl
  have HF := Lib.hid hWF
  have BF := Lib.hid hbF
  have KF := Lib.hid hkF
  have LF := Lib.hid (hblF w.heap.size (Nat.le_refl _))
  have OF := Lib.hid hotF
  clear hWF hbF hkF hblF hotF
  go_wp2_with (first | ((with_reducible refine gate_load (t := 166) rfl ?_); (first | rw [HV.out] | skip); refine wpList_load_mid rfl 166 _ rfl w.heap.size 0 rfl [.string x1, .string x2, .int .i64 x3, .string x4, .string x5, .bool x6] _ (range_blk [] [.string x1, .string x2, .int .i64 x3, .string x4, .string x5, .bool x6] [] B6.out) Try.underlying166 rfl (by kernel_rfl) ?_) | ((with_reducible refine gate_store (t := 166) rfl ?_); refine wpList_store_mid rfl 166 _ _ rfl w.heap.size 0 #[.string x1, .string x2, .int .i64 x3, .string x4, .string x5, .bool x6] rfl rfl (there_blk [] [.string x1, .string x2, .int .i64 x3, .string x4, .string x5, .bool x6] [] B6.out) (by kernel_rfl) (all_oneCell_toArray (kGrant.K_one (kGrant.K_of_M HM.out))) ?_))
  first | rw [HF.out] | (erw [HF.out])
  refine bodyPost_ret (v := .agg #[.string x1, .string x2, .int .i64 x3, .string x4, .string x5, .bool x6]) (results_cell_row rfl _ _ w.heap.size 166 #[.string x1, .string x2, .int .i64 x3, .string x4, .string x5, .bool x6] (0, 0) _ rfl BF.out Try.underlying166 rfl (by kernel_rfl)) rfl ?_
  exact .inl ⟨(x1, x2, x3, x4, x5, x6), l6, _, by simp only [dGrant, dPair, HD1.out, HD2.out, HD3.out, HD4.out, HD5.out, HD6.out, Option.bind_some, Option.map_some, Option.bind_none, Option.map_none], rfl, ⟨_, mkMGrant (x1, x2, x3, x4, x5, x6) , rfl⟩, S6.out.keeps KF.out (LF.out.mono HSZ.out), T6.out.then LF.out⟩
theorem info_Grant : (Try.prog.info? 166).map (fun i => (i.zero, i.size, i.bytes)) = some (some (.agg #[.string ⟨#[]⟩, .string ⟨#[]⟩, .int .i64 0, .string ⟨#[]⟩, .string ⟨#[]⟩, .bool false]), 6, 80) := by kernel_rfl
set_option maxRecDepth 100000 in
set_option maxHeartbeats 16000000 in
theorem rr_few_Grant {w0 w : World} {g : Nat} {B l : Bs} (hS : RAt w0 w g B l) :
    Calls Try.prog 126 #[.pointer (some ⟨g, 0, none⟩), .func (.func 127) #[] #[]] w (RDone (dList dGrant) (fun xs v w' => kGrant.R 166 w' w.heap.size (fun _ => True) v xs) w0 g w B l) := by
  have hIB : IsB l := by
    obtain ⟨p, hp⟩ := hS.suf
    have := hS.isB
    rw [hp] at this
    exact this.right
  have HSZ := Lib.hid hS.below.size
  have C1 := Lib.hid (rr_number hS)
  have HS := Lib.hid hS
  have HIB := Lib.hid hIB
  clear hS hIB
  go_enter Try.func126, Try.ntmps126
  go_wp2_with fail
  refine C1.out.mono ?_
  rintro e w1 (⟨n, l1, v, hd, rfl, rfl, S1', T1'⟩ | ⟨hd, rfl, hbe, T1'⟩)
  rotate_left
  · exact ⟨rfl, .inr ⟨by simp only [dList, hd, Option.bind_none], rfl, hbe, T1'⟩⟩
  obtain ⟨hn0, hn1⟩ := dNum_range HIB.out hd
  obtain ⟨m, rfl⟩ := Int.eq_ofNat_of_zero_le hn0
  have S1 := Lib.hid S1'
  have T1 := Lib.hid T1'
  have HD := Lib.hid hd
  clear S1' T1' hd C1 HIB
  by_cases h4 : 4096 < (m : Int)
  · have hdec : decide ((m : Int) ≤ 4096) = false := decide_eq_false (by omega)
    go_wp2_with fail
    refine (is_false _).mono ?_
    rintro e w2 ⟨rfl, rfl⟩
    exact ⟨rfl, .inr ⟨by simp only [dList, HD.out, Option.bind_some]; exact if_pos h4, rfl, S1.out.below, T1.out⟩⟩
  · have hdec : decide ((m : Int) ≤ 4096) = true := decide_eq_true (by omega)
    have hm4 : m ≤ 4096 := by omega
    have HL := Lib.hid (show dList dGrant l = dTimes dGrant m l1 by simp only [dList, HD.out, Option.bind_some, Int.toNat_natCast]; exact if_neg h4)
    clear h4
    go_wp2_with fail
    refine (is_true _).mono ?_
    rintro e w2 ⟨rfl, rfl⟩
    clear hdec
    go_wp2_with fail
    go_loopw [6, 13] (fun v i wr => ∃ k : Nat, k ≤ m ∧ i = .int .i64 k ∧ ∃ xs lr, dTimes dGrant k l1 = some (xs, lr) ∧ xs.length = k ∧ kGrant.R 166 wr w.heap.size (fun _ => True) v xs ∧ RAt w0 wr g B lr ∧ Stp SR w wr) (fun _ i _ => m - (intOf i).toNat)
    case atStart => exact ⟨0, Nat.zero_le _, rfl, [], l1, rfl, rfl, Kd.R_nil _ _ _ _ _, S1.out, T1.out⟩
    case round =>
      obtain ⟨k, hk, rfl, xs, lr, hdt, hxl, hR, hS, hT⟩ := hrel
      obtain ⟨A, c, hv, _, _⟩ := Kd.R_reads hR
      subst hv
      have HT := Lib.hid hdt
      have HX := Lib.hid hxl
      have HR := Lib.hid hR
      have SR_ := Lib.hid hS
      have TR := Lib.hid hT
      clear hdt hxl hR hS hT S1 T1
      by_cases hlt : k < m
      · have hlt' : (k : Int) < (m : Int) := by omega
        go_wp2_with fail
        refine (rr_grant SR_.out).mono ?_
        rintro e w3 (⟨x, l2, u, hd, rfl, ⟨cs, hM, rfl⟩, S3', T3'⟩ | ⟨hd, rfl, hbe, T3'⟩)
        rotate_left
        · exact ⟨rfl, .inr ⟨by rw [HL.out]; exact times_none _ HT.out hd hlt, rfl, hbe, TR.out.trans T3'⟩⟩
        have hlen : xs.length ≤ 4096 := by rw [HX.out]; omega
        have hO := T3'.R HR.out (by decide)
        have hE := elem_ok hM (fun k hk => Kd.R_lt HR.out k hk) TR.out.size (v := Value.slice A xs.length c)
        obtain rfl := openMGrant hM
        have HO := Lib.hid hO
        have HE := Lib.hid hE
        have S3 := Lib.hid S3'
        have T3 := Lib.hid (TR.out.trans T3')
        have HD3 := Lib.hid hd
        clear hO hE S3' T3' hd TR HR SR_ hM
        go_wp2_with (((with_reducible refine gate_builtin (b := .append) (xs := #[.tmp 15, .tmp 19]) rfl ?_); at_builtin; refine Kd.R_append kGrant (w0 := w3) w.heap.size rfl (.tmp 15) (.tmp 19) 72 166 (.agg #[.string ⟨#[]⟩, .string ⟨#[]⟩, .int .i64 0, .string ⟨#[]⟩, .string ⟨#[]⟩, .bool false]) 80 rfl Try.underlying72 info_Grant rfl (by decide) (by decide) (.slice A xs.length c) xs x [.string x.1, .string x.2.1, .int .i64 x.2.2.1, .string x.2.2.2.1, .string x.2.2.2.2.1, .bool x.2.2.2.2.2] (fun _ => True) (fun k => True ∧ some k ≠ (Value.slice A xs.length c).ownBlock) rfl rfl HE.out (fun _ h => h) (fun _ _ => trivial) HO.out (Below.refl _ _) (Nat.le_trans T3.out.size (Nat.le_refl _)) (by omega) ?_; intro v1 w4 ho hb hg hat; have HO4 := Lib.hid ho; have HB4 := Lib.hid hb; have HG4 := Lib.hid hg; clear ho hb hg hat))
        have hs4 : dTimes dGrant (k + 1) l1 = some (xs ++ [x], l2) := by rw [dTimes_snoc, HT.out]; simp only [Option.bind_some, HD3.out, Option.map_some]
        have HS4 := Lib.hid hs4
        have S4 := Lib.hid (S3.out.keeps (Keeps.row HO.out HG4.out (by decide)) (HB4.out.mono (Nat.le_trans HSZ.out (Nat.le_refl _))))
        have T4 := Lib.hid (T3.out.then HB4.out)
        have HX4 := Lib.hid (show (xs ++ [x]).length = k + 1 by rw [List.length_append, HX.out]; rfl)
        clear hs4
        go_wp2
        go_roundw
        case rel => exact ⟨k + 1, by omega, by simp, _, _, HS4.out, HX4.out, HO4.out, S4.out, T4.out⟩
        case measure => simp [intOf]; omega
      · have hke : k = m := by omega
        have HK := Lib.hid hke
        clear hke
        go_wp2
        go_ret
        have ht := HT.out
        rw [HK.out] at ht
        exact .inl ⟨xs, lr, _, by rw [HL.out, ht], rfl, HR.out, SR_.out, TR.out⟩
set_option maxRecDepth 100000 in
set_option maxHeartbeats 16000000 in
theorem rr_catalog {w0 w : World} {g : Nat} {B l0 : Bs} (hS : RAt w0 w g B l0) :
    Calls Try.prog 61 #[.pointer (some ⟨g, 0, none⟩)] w (RDone dCatalog (fun x v w' => ∃ cs, kCatalog.M w' w.heap.size (fun _ => True) x cs ∧ v = .agg cs.toArray) w0 g w B l0) := by
  have hb0 : Below w.heap.size w (w.alloc (.cells #[.int .i64 0, .int .i64 0, .slice none 0 0, .slice none 0 0, .slice none 0 0, .slice none 0 0, .slice none 0 0] 74)) := (Below.refl _ _).alloc (Nat.le_refl _) _
  have hx0 := blk_new w (.cells #[.int .i64 0, .int .i64 0, .slice none 0 0, .slice none 0 0, .slice none 0 0, .slice none 0 0, .slice none 0 0] 74)
  obtain ⟨W0, hW0⟩ : ∃ W0, w.alloc (.cells #[.int .i64 0, .int .i64 0, .slice none 0 0, .slice none 0 0, .slice none 0 0, .slice none 0 0, .slice none 0 0] 74) = W0 := ⟨_, rfl⟩
  rw [hW0] at hb0 hx0
  have HSZ := Lib.hid hS.below.size
  have S0 := Lib.hid (hS.keeps (Keeps.below hb0) (hb0.mono hS.below.size))
  have B0 := Lib.hid hx0
  have T0 := Lib.hid (Stp.below (S := SR) hb0)
  have HW := Lib.hid hW0
  clear hb0 hx0 hW0 hS
  go_enter Try.func61, Try.ntmps61
  go_wp2_with fail
  rw [HW.out]
  clear HW
  refine (rr_number S0.out).mono ?_
  rintro e y1 (⟨x1, l1, u, hd, rfl, rfl, S', T'⟩ | ⟨hd, rfl, hbe, T'⟩)
  rotate_left
  · exact ⟨rfl, .inr ⟨by simp only [dCatalog, dObjects, dRoles, dPair, hd, Option.bind_some, Option.map_some, Option.bind_none, Option.map_none], rfl, hbe, T0.out.trans T'⟩⟩
  have hbx := T'.keep B0.out (by decide)
  have q := cell_blk hbx 0 _ rfl
  have f := frozen_at hbx 0
  obtain ⟨w1, hw, hbx2, hkp, hbl, hot⟩ := own_store hbx (by decide) 0 (.int .i64 x1)
  have hbx3 : w1.heap[w.heap.size]? = some (.cells #[.int .i64 x1, .int .i64 0, .slice none 0 0, .slice none 0 0, .slice none 0 0, .slice none 0 0, .slice none 0 0] 74 (0, 0)) := hbx2
  have hbl' := hbl w.heap.size (Nat.le_refl _)
  have S1 := Lib.hid (S'.keeps hkp (hbl'.mono HSZ.out))
  have T1 := Lib.hid ((T0.out.trans T').then hbl')
  have B1 := Lib.hid hbx3
  have HD1 := Lib.hid hd
  have HV := Lib.hid hw
  clear hd hw hbx hbx2 hbx3 hkp hbl hbl' hot S' T' S0 T0 B0
  go_wp2_with fail
  first | rw [HV.out] | (erw [HV.out])
  clear HV q f
  refine (rr_number S1.out).mono ?_
  rintro e y2 (⟨x2, l2, u, hd, rfl, rfl, S', T'⟩ | ⟨hd, rfl, hbe, T'⟩)
  rotate_left
  · exact ⟨rfl, .inr ⟨by simp only [dCatalog, dObjects, dRoles, dPair, HD1.out, hd, Option.bind_some, Option.map_some, Option.bind_none, Option.map_none], rfl, hbe, T1.out.trans T'⟩⟩
  have hbx := T'.keep B1.out (by decide)
  have q := cell_blk hbx 1 _ rfl
  have f := frozen_at hbx 1
  obtain ⟨w2, hw, hbx2, hkp, hbl, hot⟩ := own_store hbx (by decide) 1 (.int .i64 x2)
  have hbx3 : w2.heap[w.heap.size]? = some (.cells #[.int .i64 x1, .int .i64 x2, .slice none 0 0, .slice none 0 0, .slice none 0 0, .slice none 0 0, .slice none 0 0] 74 (0, 0)) := hbx2
  have hbl' := hbl w.heap.size (Nat.le_refl _)
  have S2 := Lib.hid (S'.keeps hkp (hbl'.mono HSZ.out))
  have T2 := Lib.hid ((T1.out.trans T').then hbl')
  have B2 := Lib.hid hbx3
  have HD2 := Lib.hid hd
  have HV := Lib.hid hw
  clear hd hw hbx hbx2 hbx3 hkp hbl hbl' hot S' T' S1 T1 B1
  go_wp2_with fail
  first | rw [HV.out] | (erw [HV.out])
  clear HV q f
  refine (rr_few_Schema S2.out).mono ?_
  rintro e y3 (⟨x3, l3, u, hd, rfl, hR, S', T'⟩ | ⟨hd, rfl, hbe, T'⟩)
  rotate_left
  · exact ⟨rfl, .inr ⟨by simp only [dCatalog, dObjects, dRoles, dPair, HD1.out, HD2.out, hd, Option.bind_some, Option.map_some, Option.bind_none, Option.map_none], rfl, hbe, T2.out.trans T'⟩⟩
  have hbx := T'.keep B2.out (by decide)
  obtain ⟨A2, c2, hu, _, _⟩ := Kd.R_reads hR
  subst hu
  have R2' := Kd.R_lower hR T2.out.size
  clear hR
  have q := cell_blk hbx 2 _ rfl
  have f := frozen_at hbx 2
  obtain ⟨w3, hw, hbx2, hkp, hbl, hot⟩ := own_store hbx (by decide) 2 (.slice A2 x3.length c2)
  have hbx3 : w3.heap[w.heap.size]? = some (.cells #[.int .i64 x1, .int .i64 x2, .slice A2 x3.length c2, .slice none 0 0, .slice none 0 0, .slice none 0 0, .slice none 0 0] 74 (0, 0)) := hbx2
  have hbl' := hbl w.heap.size (Nat.le_refl _)
  have S3 := Lib.hid (S'.keeps hkp (hbl'.mono HSZ.out))
  have T3 := Lib.hid ((T2.out.trans T').then hbl')
  have B3 := Lib.hid hbx3
  have R2'' := made_only R2' hbx (by decide) hot
  have R2 := Lib.hid R2''
  clear R2' R2''
  have HD3 := Lib.hid hd
  have HV := Lib.hid hw
  clear hd hw hbx hbx2 hbx3 hkp hbl hbl' hot S' T' S2 T2 B2
  go_wp2_with fail
  first | rw [HV.out] | (erw [HV.out])
  clear HV q f
  refine (rr_few_Table S3.out).mono ?_
  rintro e y4 (⟨x4, l4, u, hd, rfl, hR, S', T'⟩ | ⟨hd, rfl, hbe, T'⟩)
  rotate_left
  · exact ⟨rfl, .inr ⟨by simp only [dCatalog, dObjects, dRoles, dPair, HD1.out, HD2.out, HD3.out, hd, Option.bind_some, Option.map_some, Option.bind_none, Option.map_none], rfl, hbe, T3.out.trans T'⟩⟩
  have hbx := T'.keep B3.out (by decide)
  have R2' := T'.R R2.out (by decide)
  obtain ⟨A3, c3, hu, _, _⟩ := Kd.R_reads hR
  subst hu
  have R3' := Kd.R_lower hR T3.out.size
  clear hR
  have q := cell_blk hbx 3 _ rfl
  have f := frozen_at hbx 3
  obtain ⟨w4, hw, hbx2, hkp, hbl, hot⟩ := own_store hbx (by decide) 3 (.slice A3 x4.length c3)
  have hbx3 : w4.heap[w.heap.size]? = some (.cells #[.int .i64 x1, .int .i64 x2, .slice A2 x3.length c2, .slice A3 x4.length c3, .slice none 0 0, .slice none 0 0, .slice none 0 0] 74 (0, 0)) := hbx2
  have hbl' := hbl w.heap.size (Nat.le_refl _)
  have S4 := Lib.hid (S'.keeps hkp (hbl'.mono HSZ.out))
  have T4 := Lib.hid ((T3.out.trans T').then hbl')
  have B4 := Lib.hid hbx3
  have R2'' := made_only R2' hbx (by decide) hot
  have R3'' := made_only R3' hbx (by decide) hot
  clear R2
  have R2 := Lib.hid R2''
  clear R2' R2''
  have R3 := Lib.hid R3''
  clear R3' R3''
  have HD4 := Lib.hid hd
  have HV := Lib.hid hw
  clear hd hw hbx hbx2 hbx3 hkp hbl hbl' hot S' T' S3 T3 B3
  go_wp2_with fail
  first | rw [HV.out] | (erw [HV.out])
  clear HV q f
  refine (rr_few_text S4.out).mono ?_
  rintro e y5 (⟨x5, l5, u, hd, rfl, hR, S', T'⟩ | ⟨hd, rfl, hbe, T'⟩)
  rotate_left
  · exact ⟨rfl, .inr ⟨by simp only [dCatalog, dObjects, dRoles, dPair, HD1.out, HD2.out, HD3.out, HD4.out, hd, Option.bind_some, Option.map_some, Option.bind_none, Option.map_none], rfl, hbe, T4.out.trans T'⟩⟩
  have hbx := T'.keep B4.out (by decide)
  have R2' := T'.R R2.out (by decide)
  have R3' := T'.R R3.out (by decide)
  obtain ⟨A4, c4, hu, _, _⟩ := Kd.R_reads hR
  subst hu
  have R4' := Kd.R_lower hR T4.out.size
  clear hR
  have q := cell_blk hbx 4 _ rfl
  have f := frozen_at hbx 4
  obtain ⟨w5, hw, hbx2, hkp, hbl, hot⟩ := own_store hbx (by decide) 4 (.slice A4 x5.length c4)
  have hbx3 : w5.heap[w.heap.size]? = some (.cells #[.int .i64 x1, .int .i64 x2, .slice A2 x3.length c2, .slice A3 x4.length c3, .slice A4 x5.length c4, .slice none 0 0, .slice none 0 0] 74 (0, 0)) := hbx2
  have hbl' := hbl w.heap.size (Nat.le_refl _)
  have S5 := Lib.hid (S'.keeps hkp (hbl'.mono HSZ.out))
  have T5 := Lib.hid ((T4.out.trans T').then hbl')
  have B5 := Lib.hid hbx3
  have R2'' := made_only R2' hbx (by decide) hot
  have R3'' := made_only R3' hbx (by decide) hot
  have R4'' := made_only R4' hbx (by decide) hot
  clear R2 R3
  have R2 := Lib.hid R2''
  clear R2' R2''
  have R3 := Lib.hid R3''
  clear R3' R3''
  have R4 := Lib.hid R4''
  clear R4' R4''
  have HD5 := Lib.hid hd
  have HV := Lib.hid hw
  clear hd hw hbx hbx2 hbx3 hkp hbl hbl' hot S' T' S4 T4 B4
  go_wp2_with fail
  first | rw [HV.out] | (erw [HV.out])
  clear HV q f
  refine (rr_few_Member S5.out).mono ?_
  rintro e y6 (⟨x6, l6, u, hd, rfl, hR, S', T'⟩ | ⟨hd, rfl, hbe, T'⟩)
  rotate_left
  · exact ⟨rfl, .inr ⟨by simp only [dCatalog, dObjects, dRoles, dPair, HD1.out, HD2.out, HD3.out, HD4.out, HD5.out, hd, Option.bind_some, Option.map_some, Option.bind_none, Option.map_none], rfl, hbe, T5.out.trans T'⟩⟩
  have hbx := T'.keep B5.out (by decide)
  have R2' := T'.R R2.out (by decide)
  have R3' := T'.R R3.out (by decide)
  have R4' := T'.R R4.out (by decide)
  obtain ⟨A5, c5, hu, _, _⟩ := Kd.R_reads hR
  subst hu
  have R5' := Kd.R_lower hR T5.out.size
  clear hR
  have q := cell_blk hbx 5 _ rfl
  have f := frozen_at hbx 5
  obtain ⟨w6, hw, hbx2, hkp, hbl, hot⟩ := own_store hbx (by decide) 5 (.slice A5 x6.length c5)
  have hbx3 : w6.heap[w.heap.size]? = some (.cells #[.int .i64 x1, .int .i64 x2, .slice A2 x3.length c2, .slice A3 x4.length c3, .slice A4 x5.length c4, .slice A5 x6.length c5, .slice none 0 0] 74 (0, 0)) := hbx2
  have hbl' := hbl w.heap.size (Nat.le_refl _)
  have S6 := Lib.hid (S'.keeps hkp (hbl'.mono HSZ.out))
  have T6 := Lib.hid ((T5.out.trans T').then hbl')
  have B6 := Lib.hid hbx3
  have R2'' := made_only R2' hbx (by decide) hot
  have R3'' := made_only R3' hbx (by decide) hot
  have R4'' := made_only R4' hbx (by decide) hot
  have R5'' := made_only R5' hbx (by decide) hot
  clear R2 R3 R4
  have R2 := Lib.hid R2''
  clear R2' R2''
  have R3 := Lib.hid R3''
  clear R3' R3''
  have R4 := Lib.hid R4''
  clear R4' R4''
  have R5 := Lib.hid R5''
  clear R5' R5''
  have HD6 := Lib.hid hd
  have HV := Lib.hid hw
  clear hd hw hbx hbx2 hbx3 hkp hbl hbl' hot S' T' S5 T5 B5
  go_wp2_with fail
  first | rw [HV.out] | (erw [HV.out])
  clear HV q f
  refine (rr_few_Grant S6.out).mono ?_
  rintro e y7 (⟨x7, l7, u, hd, rfl, hR, S', T'⟩ | ⟨hd, rfl, hbe, T'⟩)
  rotate_left
  · exact ⟨rfl, .inr ⟨by simp only [dCatalog, dObjects, dRoles, dPair, HD1.out, HD2.out, HD3.out, HD4.out, HD5.out, HD6.out, hd, Option.bind_some, Option.map_some, Option.bind_none, Option.map_none], rfl, hbe, T6.out.trans T'⟩⟩
  have hbx := T'.keep B6.out (by decide)
  have R2' := T'.R R2.out (by decide)
  have R3' := T'.R R3.out (by decide)
  have R4' := T'.R R4.out (by decide)
  have R5' := T'.R R5.out (by decide)
  obtain ⟨A6, c6, hu, _, _⟩ := Kd.R_reads hR
  subst hu
  have R6' := Kd.R_lower hR T6.out.size
  clear hR
  have q := cell_blk hbx 6 _ rfl
  have f := frozen_at hbx 6
  obtain ⟨w7, hw, hbx2, hkp, hbl, hot⟩ := own_store hbx (by decide) 6 (.slice A6 x7.length c6)
  have hbx3 : w7.heap[w.heap.size]? = some (.cells #[.int .i64 x1, .int .i64 x2, .slice A2 x3.length c2, .slice A3 x4.length c3, .slice A4 x5.length c4, .slice A5 x6.length c5, .slice A6 x7.length c6] 74 (0, 0)) := hbx2
  have hbl' := hbl w.heap.size (Nat.le_refl _)
  have S7 := Lib.hid (S'.keeps hkp (hbl'.mono HSZ.out))
  have T7 := Lib.hid ((T6.out.trans T').then hbl')
  have B7 := Lib.hid hbx3
  have R2'' := made_only R2' hbx (by decide) hot
  have R3'' := made_only R3' hbx (by decide) hot
  have R4'' := made_only R4' hbx (by decide) hot
  have R5'' := made_only R5' hbx (by decide) hot
  have R6'' := made_only R6' hbx (by decide) hot
  clear R2 R3 R4 R5
  have R2 := Lib.hid R2''
  clear R2' R2''
  have R3 := Lib.hid R3''
  clear R3' R3''
  have R4 := Lib.hid R4''
  clear R4' R4''
  have R5 := Lib.hid R5''
  clear R5' R5''
  have R6 := Lib.hid R6''
  clear R6' R6''
  have HD7 := Lib.hid hd
  have HV := Lib.hid hw
  clear hd hw hbx hbx2 hbx3 hkp hbl hbl' hot S' T' S6 T6 B6
  have HM := Lib.hid (mkMCatalog (w := w7) (base := w.heap.size) (ok := fun _ => True) (x1, x2, (x3, x4), (x5, x6), x7) R2.out R3.out R4.out R5.out R6.out)
  obtain ⟨WF, hWF, hbF, hkF, hblF, hotF⟩ := own_stores [] [.int .i64 x1, .int .i64 x2, .slice A2 x3.length c2, .slice A3 x4.length c3, .slice A4 x5.length c4, .slice A5 x6.length c5, .slice A6 x7.length c6] [.int .i64 x1, .int .i64 x2, .slice A2 x3.length c2, .slice A3 x4.length c3, .slice A4 x5.length c4, .slice A5 x6.length c5, .slice A6 x7.length c6] [] B7.out (by decide) rfl
  have HF := Lib.hid hWF
  have BF := Lib.hid hbF
  have KF := Lib.hid hkF
  have LF := Lib.hid (hblF w.heap.size (Nat.le_refl _))
  have OF := Lib.hid hotF
  clear hWF hbF hkF hblF hotF
  go_wp2_with (first | ((with_reducible refine gate_load (t := 74) rfl ?_); (first | rw [HV.out] | skip); refine wpList_load_mid rfl 74 _ rfl w.heap.size 0 rfl [.int .i64 x1, .int .i64 x2, .slice A2 x3.length c2, .slice A3 x4.length c3, .slice A4 x5.length c4, .slice A5 x6.length c5, .slice A6 x7.length c6] _ (range_blk [] [.int .i64 x1, .int .i64 x2, .slice A2 x3.length c2, .slice A3 x4.length c3, .slice A4 x5.length c4, .slice A5 x6.length c5, .slice A6 x7.length c6] [] B7.out) Try.underlying74 rfl (by kernel_rfl) ?_) | ((with_reducible refine gate_store (t := 74) rfl ?_); refine wpList_store_mid rfl 74 _ _ rfl w.heap.size 0 #[.int .i64 x1, .int .i64 x2, .slice A2 x3.length c2, .slice A3 x4.length c3, .slice A4 x5.length c4, .slice A5 x6.length c5, .slice A6 x7.length c6] rfl rfl (there_blk [] [.int .i64 x1, .int .i64 x2, .slice A2 x3.length c2, .slice A3 x4.length c3, .slice A4 x5.length c4, .slice A5 x6.length c5, .slice A6 x7.length c6] [] B7.out) (by kernel_rfl) (all_oneCell_toArray (kCatalog.K_one (kCatalog.K_of_M HM.out))) ?_))
  first | rw [HF.out] | (erw [HF.out])
  refine bodyPost_ret (v := .agg #[.int .i64 x1, .int .i64 x2, .slice A2 x3.length c2, .slice A3 x4.length c3, .slice A4 x5.length c4, .slice A5 x6.length c5, .slice A6 x7.length c6]) (results_cell_row rfl _ _ w.heap.size 74 #[.int .i64 x1, .int .i64 x2, .slice A2 x3.length c2, .slice A3 x4.length c3, .slice A4 x5.length c4, .slice A5 x6.length c5, .slice A6 x7.length c6] (0, 0) _ rfl BF.out Try.underlying74 rfl (by kernel_rfl)) rfl ?_
  exact .inl ⟨(x1, x2, (x3, x4), (x5, x6), x7), l7, _, by simp only [dCatalog, dObjects, dRoles, dPair, HD1.out, HD2.out, HD3.out, HD4.out, HD5.out, HD6.out, HD7.out, Option.bind_some, Option.map_some, Option.bind_none, Option.map_none], rfl, ⟨_, mkMCatalog (x1, x2, (x3, x4), (x5, x6), x7) (made_only R2.out B7.out (by decide) OF.out) (made_only R3.out B7.out (by decide) OF.out) (made_only R4.out B7.out (by decide) OF.out) (made_only R5.out B7.out (by decide) OF.out) (made_only R6.out B7.out (by decide) OF.out), rfl⟩, S7.out.keeps KF.out (LF.out.mono HSZ.out), T7.out.then LF.out⟩
end Go.Proofs.Ytoomcdgnnibjlaa.Wr
/- The program's reader. -/
namespace Go.Proofs.Ytoomcdgnnibjlaa.Wr
open Go.RowKit Go.Proofs.YtoomcdgnnibjlaaW.PrintWords Go.Proofs.YtoomcdgnnibjlaaW.PrintLast
set_option linter.unusedVariables false
set_option linter.unusedSimpArgs false

set_option maxRecDepth 100000 in
set_option maxHeartbeats 16000000 in
theorem rr_done {w0 w : World} {g : Nat} {B l0 : Bs} (hS : RAt w0 w g B l0) :
    Calls Try.prog 138 #[.pointer (some ⟨g, 0, none⟩)] w (RDone dDone (fun x v w' => ∃ cs, kDone.M w' w.heap.size (fun _ => True) x cs ∧ v = .agg cs.toArray) w0 g w B l0) := by
  have hb0 : Below w.heap.size w (w.alloc (.cells #[.int .i64 0, .int .i64 0, .int .i64 0, .int .i64 0, .int .i64 0] 203)) := (Below.refl _ _).alloc (Nat.le_refl _) _
  have hx0 := blk_new w (.cells #[.int .i64 0, .int .i64 0, .int .i64 0, .int .i64 0, .int .i64 0] 203)
  obtain ⟨W0, hW0⟩ : ∃ W0, w.alloc (.cells #[.int .i64 0, .int .i64 0, .int .i64 0, .int .i64 0, .int .i64 0] 203) = W0 := ⟨_, rfl⟩
  rw [hW0] at hb0 hx0
  have HSZ := Lib.hid hS.below.size
  have S0 := Lib.hid (hS.keeps (Keeps.below hb0) (hb0.mono hS.below.size))
  have B0 := Lib.hid hx0
  have T0 := Lib.hid (Stp.below (S := SR) hb0)
  have HW := Lib.hid hW0
  clear hb0 hx0 hW0 hS
  go_enter Try.func138, Try.ntmps138
  go_wp2_with fail
  rw [HW.out]
  clear HW
  refine (rr_number S0.out).mono ?_
  rintro e y1 (⟨x1, l1, u, hd, rfl, rfl, S', T'⟩ | ⟨hd, rfl, hbe, T'⟩)
  rotate_left
  · exact ⟨rfl, .inr ⟨by simp only [dDone, dPair, hd, Option.bind_some, Option.map_some, Option.bind_none, Option.map_none], rfl, hbe, T0.out.trans T'⟩⟩
  have hbx := T'.keep B0.out (by decide)
  have q := cell_blk hbx 0 _ rfl
  have f := frozen_at hbx 0
  obtain ⟨w1, hw, hbx2, hkp, hbl, hot⟩ := own_store hbx (by decide) 0 (.int .i64 x1)
  have hbx3 : w1.heap[w.heap.size]? = some (.cells #[.int .i64 x1, .int .i64 0, .int .i64 0, .int .i64 0, .int .i64 0] 203 (0, 0)) := hbx2
  have hbl' := hbl w.heap.size (Nat.le_refl _)
  have S1 := Lib.hid (S'.keeps hkp (hbl'.mono HSZ.out))
  have T1 := Lib.hid ((T0.out.trans T').then hbl')
  have B1 := Lib.hid hbx3
  have HD1 := Lib.hid hd
  have HV := Lib.hid hw
  clear hd hw hbx hbx2 hbx3 hkp hbl hbl' hot S' T' S0 T0 B0
  go_wp2_with fail
  first | rw [HV.out] | (erw [HV.out])
  clear HV q f
  refine (rr_number S1.out).mono ?_
  rintro e y2 (⟨x2, l2, u, hd, rfl, rfl, S', T'⟩ | ⟨hd, rfl, hbe, T'⟩)
  rotate_left
  · exact ⟨rfl, .inr ⟨by simp only [dDone, dPair, HD1.out, hd, Option.bind_some, Option.map_some, Option.bind_none, Option.map_none], rfl, hbe, T1.out.trans T'⟩⟩
  have hbx := T'.keep B1.out (by decide)
  have q := cell_blk hbx 1 _ rfl
  have f := frozen_at hbx 1
  obtain ⟨w2, hw, hbx2, hkp, hbl, hot⟩ := own_store hbx (by decide) 1 (.int .i64 x2)
  have hbx3 : w2.heap[w.heap.size]? = some (.cells #[.int .i64 x1, .int .i64 x2, .int .i64 0, .int .i64 0, .int .i64 0] 203 (0, 0)) := hbx2
  have hbl' := hbl w.heap.size (Nat.le_refl _)
  have S2 := Lib.hid (S'.keeps hkp (hbl'.mono HSZ.out))
  have T2 := Lib.hid ((T1.out.trans T').then hbl')
  have B2 := Lib.hid hbx3
  have HD2 := Lib.hid hd
  have HV := Lib.hid hw
  clear hd hw hbx hbx2 hbx3 hkp hbl hbl' hot S' T' S1 T1 B1
  go_wp2_with fail
  first | rw [HV.out] | (erw [HV.out])
  clear HV q f
  refine (rr_number S2.out).mono ?_
  rintro e y3 (⟨x3, l3, u, hd, rfl, rfl, S', T'⟩ | ⟨hd, rfl, hbe, T'⟩)
  rotate_left
  · exact ⟨rfl, .inr ⟨by simp only [dDone, dPair, HD1.out, HD2.out, hd, Option.bind_some, Option.map_some, Option.bind_none, Option.map_none], rfl, hbe, T2.out.trans T'⟩⟩
  have hbx := T'.keep B2.out (by decide)
  have q := cell_blk hbx 2 _ rfl
  have f := frozen_at hbx 2
  obtain ⟨w3, hw, hbx2, hkp, hbl, hot⟩ := own_store hbx (by decide) 2 (.int .i64 x3)
  have hbx3 : w3.heap[w.heap.size]? = some (.cells #[.int .i64 x1, .int .i64 x2, .int .i64 x3, .int .i64 0, .int .i64 0] 203 (0, 0)) := hbx2
  have hbl' := hbl w.heap.size (Nat.le_refl _)
  have S3 := Lib.hid (S'.keeps hkp (hbl'.mono HSZ.out))
  have T3 := Lib.hid ((T2.out.trans T').then hbl')
  have B3 := Lib.hid hbx3
  have HD3 := Lib.hid hd
  have HV := Lib.hid hw
  clear hd hw hbx hbx2 hbx3 hkp hbl hbl' hot S' T' S2 T2 B2
  go_wp2_with fail
  first | rw [HV.out] | (erw [HV.out])
  clear HV q f
  refine (rr_number S3.out).mono ?_
  rintro e y4 (⟨x4, l4, u, hd, rfl, rfl, S', T'⟩ | ⟨hd, rfl, hbe, T'⟩)
  rotate_left
  · exact ⟨rfl, .inr ⟨by simp only [dDone, dPair, HD1.out, HD2.out, HD3.out, hd, Option.bind_some, Option.map_some, Option.bind_none, Option.map_none], rfl, hbe, T3.out.trans T'⟩⟩
  have hbx := T'.keep B3.out (by decide)
  have q := cell_blk hbx 3 _ rfl
  have f := frozen_at hbx 3
  obtain ⟨w4, hw, hbx2, hkp, hbl, hot⟩ := own_store hbx (by decide) 3 (.int .i64 x4)
  have hbx3 : w4.heap[w.heap.size]? = some (.cells #[.int .i64 x1, .int .i64 x2, .int .i64 x3, .int .i64 x4, .int .i64 0] 203 (0, 0)) := hbx2
  have hbl' := hbl w.heap.size (Nat.le_refl _)
  have S4 := Lib.hid (S'.keeps hkp (hbl'.mono HSZ.out))
  have T4 := Lib.hid ((T3.out.trans T').then hbl')
  have B4 := Lib.hid hbx3
  have HD4 := Lib.hid hd
  have HV := Lib.hid hw
  clear hd hw hbx hbx2 hbx3 hkp hbl hbl' hot S' T' S3 T3 B3
  go_wp2_with fail
  first | rw [HV.out] | (erw [HV.out])
  clear HV q f
  refine (rr_number S4.out).mono ?_
  rintro e y5 (⟨x5, l5, u, hd, rfl, rfl, S', T'⟩ | ⟨hd, rfl, hbe, T'⟩)
  rotate_left
  · exact ⟨rfl, .inr ⟨by simp only [dDone, dPair, HD1.out, HD2.out, HD3.out, HD4.out, hd, Option.bind_some, Option.map_some, Option.bind_none, Option.map_none], rfl, hbe, T4.out.trans T'⟩⟩
  have hbx := T'.keep B4.out (by decide)
  have q := cell_blk hbx 4 _ rfl
  have f := frozen_at hbx 4
  obtain ⟨w5, hw, hbx2, hkp, hbl, hot⟩ := own_store hbx (by decide) 4 (.int .i64 x5)
  have hbx3 : w5.heap[w.heap.size]? = some (.cells #[.int .i64 x1, .int .i64 x2, .int .i64 x3, .int .i64 x4, .int .i64 x5] 203 (0, 0)) := hbx2
  have hbl' := hbl w.heap.size (Nat.le_refl _)
  have S5 := Lib.hid (S'.keeps hkp (hbl'.mono HSZ.out))
  have T5 := Lib.hid ((T4.out.trans T').then hbl')
  have B5 := Lib.hid hbx3
  have HD5 := Lib.hid hd
  have HV := Lib.hid hw
  clear hd hw hbx hbx2 hbx3 hkp hbl hbl' hot S' T' S4 T4 B4
  have HM := Lib.hid (mkMDone (w := w5) (base := w.heap.size) (ok := fun _ => True) (x1, x2, x3, x4, x5) )
  obtain ⟨WF, hWF, hbF, hkF, hblF, hotF⟩ := own_stores [] [.int .i64 x1, .int .i64 x2, .int .i64 x3, .int .i64 x4, .int .i64 x5] [.int .i64 x1, .int .i64 x2, .int .i64 x3, .int .i64 x4, .int .i64 x5] [] B5.out (by decide) rfl
  have HF := Lib.hid hWF
  have BF := Lib.hid hbF
  have KF := Lib.hid hkF
  have LF := Lib.hid (hblF w.heap.size (Nat.le_refl _))
  have OF := Lib.hid hotF
  clear hWF hbF hkF hblF hotF
  go_wp2_with (first | ((with_reducible refine gate_load (t := 203) rfl ?_); (first | rw [HV.out] | skip); refine wpList_load_mid rfl 203 _ rfl w.heap.size 0 rfl [.int .i64 x1, .int .i64 x2, .int .i64 x3, .int .i64 x4, .int .i64 x5] _ (range_blk [] [.int .i64 x1, .int .i64 x2, .int .i64 x3, .int .i64 x4, .int .i64 x5] [] B5.out) Try.underlying203 rfl (by kernel_rfl) ?_) | ((with_reducible refine gate_store (t := 203) rfl ?_); refine wpList_store_mid rfl 203 _ _ rfl w.heap.size 0 #[.int .i64 x1, .int .i64 x2, .int .i64 x3, .int .i64 x4, .int .i64 x5] rfl rfl (there_blk [] [.int .i64 x1, .int .i64 x2, .int .i64 x3, .int .i64 x4, .int .i64 x5] [] B5.out) (by kernel_rfl) (all_oneCell_toArray (kDone.K_one (kDone.K_of_M HM.out))) ?_))
  first | rw [HF.out] | (erw [HF.out])
  refine bodyPost_ret (v := .agg #[.int .i64 x1, .int .i64 x2, .int .i64 x3, .int .i64 x4, .int .i64 x5]) (results_cell_row rfl _ _ w.heap.size 203 #[.int .i64 x1, .int .i64 x2, .int .i64 x3, .int .i64 x4, .int .i64 x5] (0, 0) _ rfl BF.out Try.underlying203 rfl (by kernel_rfl)) rfl ?_
  exact .inl ⟨(x1, x2, x3, x4, x5), l5, _, by simp only [dDone, dPair, HD1.out, HD2.out, HD3.out, HD4.out, HD5.out, Option.bind_some, Option.map_some, Option.bind_none, Option.map_none], rfl, ⟨_, mkMDone (x1, x2, x3, x4, x5) , rfl⟩, S5.out.keeps KF.out (LF.out.mono HSZ.out), T5.out.then LF.out⟩
theorem info_Done : (Try.prog.info? 203).map (fun i => (i.zero, i.size, i.bytes)) = some (some (.agg #[.int .i64 0, .int .i64 0, .int .i64 0, .int .i64 0, .int .i64 0]), 5, 40) := by kernel_rfl
set_option maxRecDepth 100000 in
set_option maxHeartbeats 16000000 in
theorem rr_few_Done {w0 w : World} {g : Nat} {B l : Bs} (hS : RAt w0 w g B l) :
    Calls Try.prog 137 #[.pointer (some ⟨g, 0, none⟩), .func (.func 138) #[] #[]] w (RDone (dList dDone) (fun xs v w' => kDone.R 203 w' w.heap.size (fun _ => True) v xs) w0 g w B l) := by
  have hIB : IsB l := by
    obtain ⟨p, hp⟩ := hS.suf
    have := hS.isB
    rw [hp] at this
    exact this.right
  have HSZ := Lib.hid hS.below.size
  have C1 := Lib.hid (rr_number hS)
  have HS := Lib.hid hS
  have HIB := Lib.hid hIB
  clear hS hIB
  go_enter Try.func137, Try.ntmps137
  go_wp2_with fail
  refine C1.out.mono ?_
  rintro e w1 (⟨n, l1, v, hd, rfl, rfl, S1', T1'⟩ | ⟨hd, rfl, hbe, T1'⟩)
  rotate_left
  · exact ⟨rfl, .inr ⟨by simp only [dList, hd, Option.bind_none], rfl, hbe, T1'⟩⟩
  obtain ⟨hn0, hn1⟩ := dNum_range HIB.out hd
  obtain ⟨m, rfl⟩ := Int.eq_ofNat_of_zero_le hn0
  have S1 := Lib.hid S1'
  have T1 := Lib.hid T1'
  have HD := Lib.hid hd
  clear S1' T1' hd C1 HIB
  by_cases h4 : 4096 < (m : Int)
  · have hdec : decide ((m : Int) ≤ 4096) = false := decide_eq_false (by omega)
    go_wp2_with fail
    refine (is_false _).mono ?_
    rintro e w2 ⟨rfl, rfl⟩
    exact ⟨rfl, .inr ⟨by simp only [dList, HD.out, Option.bind_some]; exact if_pos h4, rfl, S1.out.below, T1.out⟩⟩
  · have hdec : decide ((m : Int) ≤ 4096) = true := decide_eq_true (by omega)
    have hm4 : m ≤ 4096 := by omega
    have HL := Lib.hid (show dList dDone l = dTimes dDone m l1 by simp only [dList, HD.out, Option.bind_some, Int.toNat_natCast]; exact if_neg h4)
    clear h4
    go_wp2_with fail
    refine (is_true _).mono ?_
    rintro e w2 ⟨rfl, rfl⟩
    clear hdec
    go_wp2_with fail
    go_loopw [6, 13] (fun v i wr => ∃ k : Nat, k ≤ m ∧ i = .int .i64 k ∧ ∃ xs lr, dTimes dDone k l1 = some (xs, lr) ∧ xs.length = k ∧ kDone.R 203 wr w.heap.size (fun _ => True) v xs ∧ RAt w0 wr g B lr ∧ Stp SR w wr) (fun _ i _ => m - (intOf i).toNat)
    case atStart => exact ⟨0, Nat.zero_le _, rfl, [], l1, rfl, rfl, Kd.R_nil _ _ _ _ _, S1.out, T1.out⟩
    case round =>
      obtain ⟨k, hk, rfl, xs, lr, hdt, hxl, hR, hS, hT⟩ := hrel
      obtain ⟨A, c, hv, _, _⟩ := Kd.R_reads hR
      subst hv
      have HT := Lib.hid hdt
      have HX := Lib.hid hxl
      have HR := Lib.hid hR
      have SR_ := Lib.hid hS
      have TR := Lib.hid hT
      clear hdt hxl hR hS hT S1 T1
      by_cases hlt : k < m
      · have hlt' : (k : Int) < (m : Int) := by omega
        go_wp2_with fail
        refine (rr_done SR_.out).mono ?_
        rintro e w3 (⟨x, l2, u, hd, rfl, ⟨cs, hM, rfl⟩, S3', T3'⟩ | ⟨hd, rfl, hbe, T3'⟩)
        rotate_left
        · exact ⟨rfl, .inr ⟨by rw [HL.out]; exact times_none _ HT.out hd hlt, rfl, hbe, TR.out.trans T3'⟩⟩
        have hlen : xs.length ≤ 4096 := by rw [HX.out]; omega
        have hO := T3'.R HR.out (by decide)
        have hE := elem_ok hM (fun k hk => Kd.R_lt HR.out k hk) TR.out.size (v := Value.slice A xs.length c)
        obtain rfl := openMDone hM
        have HO := Lib.hid hO
        have HE := Lib.hid hE
        have S3 := Lib.hid S3'
        have T3 := Lib.hid (TR.out.trans T3')
        have HD3 := Lib.hid hd
        clear hO hE S3' T3' hd TR HR SR_ hM
        go_wp2_with (((with_reducible refine gate_builtin (b := .append) (xs := #[.tmp 15, .tmp 19]) rfl ?_); at_builtin; refine Kd.R_append kDone (w0 := w3) w.heap.size rfl (.tmp 15) (.tmp 19) 79 203 (.agg #[.int .i64 0, .int .i64 0, .int .i64 0, .int .i64 0, .int .i64 0]) 40 rfl Try.underlying79 info_Done rfl (by decide) (by decide) (.slice A xs.length c) xs x [.int .i64 x.1, .int .i64 x.2.1, .int .i64 x.2.2.1, .int .i64 x.2.2.2.1, .int .i64 x.2.2.2.2] (fun _ => True) (fun k => True ∧ some k ≠ (Value.slice A xs.length c).ownBlock) rfl rfl HE.out (fun _ h => h) (fun _ _ => trivial) HO.out (Below.refl _ _) (Nat.le_trans T3.out.size (Nat.le_refl _)) (by omega) ?_; intro v1 w4 ho hb hg hat; have HO4 := Lib.hid ho; have HB4 := Lib.hid hb; have HG4 := Lib.hid hg; clear ho hb hg hat))
        have hs4 : dTimes dDone (k + 1) l1 = some (xs ++ [x], l2) := by rw [dTimes_snoc, HT.out]; simp only [Option.bind_some, HD3.out, Option.map_some]
        have HS4 := Lib.hid hs4
        have S4 := Lib.hid (S3.out.keeps (Keeps.row HO.out HG4.out (by decide)) (HB4.out.mono (Nat.le_trans HSZ.out (Nat.le_refl _))))
        have T4 := Lib.hid (T3.out.then HB4.out)
        have HX4 := Lib.hid (show (xs ++ [x]).length = k + 1 by rw [List.length_append, HX.out]; rfl)
        clear hs4
        go_wp2
        go_roundw
        case rel => exact ⟨k + 1, by omega, by simp, _, _, HS4.out, HX4.out, HO4.out, S4.out, T4.out⟩
        case measure => simp [intOf]; omega
      · have hke : k = m := by omega
        have HK := Lib.hid hke
        clear hke
        go_wp2
        go_ret
        have ht := HT.out
        rw [HK.out] at ht
        exact .inl ⟨xs, lr, _, by rw [HL.out, ht], rfl, HR.out, SR_.out, TR.out⟩
set_option maxRecDepth 100000 in
set_option maxHeartbeats 16000000 in
theorem rr_lease {w0 w : World} {g : Nat} {B l0 : Bs} (hS : RAt w0 w g B l0) :
    Calls Try.prog 140 #[.pointer (some ⟨g, 0, none⟩)] w (RDone dLease (fun x v w' => ∃ cs, kLease.M w' w.heap.size (fun _ => True) x cs ∧ v = .agg cs.toArray) w0 g w B l0) := by
  have hb0 : Below w.heap.size w (w.alloc (.cells #[.int .i64 0, .int .i64 0, .int .i64 0, .int .i64 0] 205)) := (Below.refl _ _).alloc (Nat.le_refl _) _
  have hx0 := blk_new w (.cells #[.int .i64 0, .int .i64 0, .int .i64 0, .int .i64 0] 205)
  obtain ⟨W0, hW0⟩ : ∃ W0, w.alloc (.cells #[.int .i64 0, .int .i64 0, .int .i64 0, .int .i64 0] 205) = W0 := ⟨_, rfl⟩
  rw [hW0] at hb0 hx0
  have HSZ := Lib.hid hS.below.size
  have S0 := Lib.hid (hS.keeps (Keeps.below hb0) (hb0.mono hS.below.size))
  have B0 := Lib.hid hx0
  have T0 := Lib.hid (Stp.below (S := SR) hb0)
  have HW := Lib.hid hW0
  clear hb0 hx0 hW0 hS
  go_enter Try.func140, Try.ntmps140
  go_wp2_with fail
  rw [HW.out]
  clear HW
  refine (rr_number S0.out).mono ?_
  rintro e y1 (⟨x1, l1, u, hd, rfl, rfl, S', T'⟩ | ⟨hd, rfl, hbe, T'⟩)
  rotate_left
  · exact ⟨rfl, .inr ⟨by simp only [dLease, dPair, hd, Option.bind_some, Option.map_some, Option.bind_none, Option.map_none], rfl, hbe, T0.out.trans T'⟩⟩
  have hbx := T'.keep B0.out (by decide)
  have q := cell_blk hbx 0 _ rfl
  have f := frozen_at hbx 0
  obtain ⟨w1, hw, hbx2, hkp, hbl, hot⟩ := own_store hbx (by decide) 0 (.int .i64 x1)
  have hbx3 : w1.heap[w.heap.size]? = some (.cells #[.int .i64 x1, .int .i64 0, .int .i64 0, .int .i64 0] 205 (0, 0)) := hbx2
  have hbl' := hbl w.heap.size (Nat.le_refl _)
  have S1 := Lib.hid (S'.keeps hkp (hbl'.mono HSZ.out))
  have T1 := Lib.hid ((T0.out.trans T').then hbl')
  have B1 := Lib.hid hbx3
  have HD1 := Lib.hid hd
  have HV := Lib.hid hw
  clear hd hw hbx hbx2 hbx3 hkp hbl hbl' hot S' T' S0 T0 B0
  go_wp2_with fail
  first | rw [HV.out] | (erw [HV.out])
  clear HV q f
  refine (rr_number S1.out).mono ?_
  rintro e y2 (⟨x2, l2, u, hd, rfl, rfl, S', T'⟩ | ⟨hd, rfl, hbe, T'⟩)
  rotate_left
  · exact ⟨rfl, .inr ⟨by simp only [dLease, dPair, HD1.out, hd, Option.bind_some, Option.map_some, Option.bind_none, Option.map_none], rfl, hbe, T1.out.trans T'⟩⟩
  have hbx := T'.keep B1.out (by decide)
  have q := cell_blk hbx 1 _ rfl
  have f := frozen_at hbx 1
  obtain ⟨w2, hw, hbx2, hkp, hbl, hot⟩ := own_store hbx (by decide) 1 (.int .i64 x2)
  have hbx3 : w2.heap[w.heap.size]? = some (.cells #[.int .i64 x1, .int .i64 x2, .int .i64 0, .int .i64 0] 205 (0, 0)) := hbx2
  have hbl' := hbl w.heap.size (Nat.le_refl _)
  have S2 := Lib.hid (S'.keeps hkp (hbl'.mono HSZ.out))
  have T2 := Lib.hid ((T1.out.trans T').then hbl')
  have B2 := Lib.hid hbx3
  have HD2 := Lib.hid hd
  have HV := Lib.hid hw
  clear hd hw hbx hbx2 hbx3 hkp hbl hbl' hot S' T' S1 T1 B1
  go_wp2_with fail
  first | rw [HV.out] | (erw [HV.out])
  clear HV q f
  refine (rr_number S2.out).mono ?_
  rintro e y3 (⟨x3, l3, u, hd, rfl, rfl, S', T'⟩ | ⟨hd, rfl, hbe, T'⟩)
  rotate_left
  · exact ⟨rfl, .inr ⟨by simp only [dLease, dPair, HD1.out, HD2.out, hd, Option.bind_some, Option.map_some, Option.bind_none, Option.map_none], rfl, hbe, T2.out.trans T'⟩⟩
  have hbx := T'.keep B2.out (by decide)
  have q := cell_blk hbx 2 _ rfl
  have f := frozen_at hbx 2
  obtain ⟨w3, hw, hbx2, hkp, hbl, hot⟩ := own_store hbx (by decide) 2 (.int .i64 x3)
  have hbx3 : w3.heap[w.heap.size]? = some (.cells #[.int .i64 x1, .int .i64 x2, .int .i64 x3, .int .i64 0] 205 (0, 0)) := hbx2
  have hbl' := hbl w.heap.size (Nat.le_refl _)
  have S3 := Lib.hid (S'.keeps hkp (hbl'.mono HSZ.out))
  have T3 := Lib.hid ((T2.out.trans T').then hbl')
  have B3 := Lib.hid hbx3
  have HD3 := Lib.hid hd
  have HV := Lib.hid hw
  clear hd hw hbx hbx2 hbx3 hkp hbl hbl' hot S' T' S2 T2 B2
  go_wp2_with fail
  first | rw [HV.out] | (erw [HV.out])
  clear HV q f
  refine (rr_number S3.out).mono ?_
  rintro e y4 (⟨x4, l4, u, hd, rfl, rfl, S', T'⟩ | ⟨hd, rfl, hbe, T'⟩)
  rotate_left
  · exact ⟨rfl, .inr ⟨by simp only [dLease, dPair, HD1.out, HD2.out, HD3.out, hd, Option.bind_some, Option.map_some, Option.bind_none, Option.map_none], rfl, hbe, T3.out.trans T'⟩⟩
  have hbx := T'.keep B3.out (by decide)
  have q := cell_blk hbx 3 _ rfl
  have f := frozen_at hbx 3
  obtain ⟨w4, hw, hbx2, hkp, hbl, hot⟩ := own_store hbx (by decide) 3 (.int .i64 x4)
  have hbx3 : w4.heap[w.heap.size]? = some (.cells #[.int .i64 x1, .int .i64 x2, .int .i64 x3, .int .i64 x4] 205 (0, 0)) := hbx2
  have hbl' := hbl w.heap.size (Nat.le_refl _)
  have S4 := Lib.hid (S'.keeps hkp (hbl'.mono HSZ.out))
  have T4 := Lib.hid ((T3.out.trans T').then hbl')
  have B4 := Lib.hid hbx3
  have HD4 := Lib.hid hd
  have HV := Lib.hid hw
  clear hd hw hbx hbx2 hbx3 hkp hbl hbl' hot S' T' S3 T3 B3
  have HM := Lib.hid (mkMLease (w := w4) (base := w.heap.size) (ok := fun _ => True) (x1, x2, x3, x4) )
  obtain ⟨WF, hWF, hbF, hkF, hblF, hotF⟩ := own_stores [] [.int .i64 x1, .int .i64 x2, .int .i64 x3, .int .i64 x4] [.int .i64 x1, .int .i64 x2, .int .i64 x3, .int .i64 x4] [] B4.out (by decide) rfl
  have HF := Lib.hid hWF
  have BF := Lib.hid hbF
  have KF := Lib.hid hkF
  have LF := Lib.hid (hblF w.heap.size (Nat.le_refl _))
  have OF := Lib.hid hotF
  clear hWF hbF hkF hblF hotF
  go_wp2_with (first | ((with_reducible refine gate_load (t := 205) rfl ?_); (first | rw [HV.out] | skip); refine wpList_load_mid rfl 205 _ rfl w.heap.size 0 rfl [.int .i64 x1, .int .i64 x2, .int .i64 x3, .int .i64 x4] _ (range_blk [] [.int .i64 x1, .int .i64 x2, .int .i64 x3, .int .i64 x4] [] B4.out) Try.underlying205 rfl (by kernel_rfl) ?_) | ((with_reducible refine gate_store (t := 205) rfl ?_); refine wpList_store_mid rfl 205 _ _ rfl w.heap.size 0 #[.int .i64 x1, .int .i64 x2, .int .i64 x3, .int .i64 x4] rfl rfl (there_blk [] [.int .i64 x1, .int .i64 x2, .int .i64 x3, .int .i64 x4] [] B4.out) (by kernel_rfl) (all_oneCell_toArray (kLease.K_one (kLease.K_of_M HM.out))) ?_))
  first | rw [HF.out] | (erw [HF.out])
  refine bodyPost_ret (v := .agg #[.int .i64 x1, .int .i64 x2, .int .i64 x3, .int .i64 x4]) (results_cell_row rfl _ _ w.heap.size 205 #[.int .i64 x1, .int .i64 x2, .int .i64 x3, .int .i64 x4] (0, 0) _ rfl BF.out Try.underlying205 rfl (by kernel_rfl)) rfl ?_
  exact .inl ⟨(x1, x2, x3, x4), l4, _, by simp only [dLease, dPair, HD1.out, HD2.out, HD3.out, HD4.out, Option.bind_some, Option.map_some, Option.bind_none, Option.map_none], rfl, ⟨_, mkMLease (x1, x2, x3, x4) , rfl⟩, S4.out.keeps KF.out (LF.out.mono HSZ.out), T4.out.then LF.out⟩
theorem info_Lease : (Try.prog.info? 205).map (fun i => (i.zero, i.size, i.bytes)) = some (some (.agg #[.int .i64 0, .int .i64 0, .int .i64 0, .int .i64 0]), 4, 32) := by kernel_rfl
set_option maxRecDepth 100000 in
set_option maxHeartbeats 16000000 in
theorem rr_few_Lease {w0 w : World} {g : Nat} {B l : Bs} (hS : RAt w0 w g B l) :
    Calls Try.prog 139 #[.pointer (some ⟨g, 0, none⟩), .func (.func 140) #[] #[]] w (RDone (dList dLease) (fun xs v w' => kLease.R 205 w' w.heap.size (fun _ => True) v xs) w0 g w B l) := by
  have hIB : IsB l := by
    obtain ⟨p, hp⟩ := hS.suf
    have := hS.isB
    rw [hp] at this
    exact this.right
  have HSZ := Lib.hid hS.below.size
  have C1 := Lib.hid (rr_number hS)
  have HS := Lib.hid hS
  have HIB := Lib.hid hIB
  clear hS hIB
  go_enter Try.func139, Try.ntmps139
  go_wp2_with fail
  refine C1.out.mono ?_
  rintro e w1 (⟨n, l1, v, hd, rfl, rfl, S1', T1'⟩ | ⟨hd, rfl, hbe, T1'⟩)
  rotate_left
  · exact ⟨rfl, .inr ⟨by simp only [dList, hd, Option.bind_none], rfl, hbe, T1'⟩⟩
  obtain ⟨hn0, hn1⟩ := dNum_range HIB.out hd
  obtain ⟨m, rfl⟩ := Int.eq_ofNat_of_zero_le hn0
  have S1 := Lib.hid S1'
  have T1 := Lib.hid T1'
  have HD := Lib.hid hd
  clear S1' T1' hd C1 HIB
  by_cases h4 : 4096 < (m : Int)
  · have hdec : decide ((m : Int) ≤ 4096) = false := decide_eq_false (by omega)
    go_wp2_with fail
    refine (is_false _).mono ?_
    rintro e w2 ⟨rfl, rfl⟩
    exact ⟨rfl, .inr ⟨by simp only [dList, HD.out, Option.bind_some]; exact if_pos h4, rfl, S1.out.below, T1.out⟩⟩
  · have hdec : decide ((m : Int) ≤ 4096) = true := decide_eq_true (by omega)
    have hm4 : m ≤ 4096 := by omega
    have HL := Lib.hid (show dList dLease l = dTimes dLease m l1 by simp only [dList, HD.out, Option.bind_some, Int.toNat_natCast]; exact if_neg h4)
    clear h4
    go_wp2_with fail
    refine (is_true _).mono ?_
    rintro e w2 ⟨rfl, rfl⟩
    clear hdec
    go_wp2_with fail
    go_loopw [6, 13] (fun v i wr => ∃ k : Nat, k ≤ m ∧ i = .int .i64 k ∧ ∃ xs lr, dTimes dLease k l1 = some (xs, lr) ∧ xs.length = k ∧ kLease.R 205 wr w.heap.size (fun _ => True) v xs ∧ RAt w0 wr g B lr ∧ Stp SR w wr) (fun _ i _ => m - (intOf i).toNat)
    case atStart => exact ⟨0, Nat.zero_le _, rfl, [], l1, rfl, rfl, Kd.R_nil _ _ _ _ _, S1.out, T1.out⟩
    case round =>
      obtain ⟨k, hk, rfl, xs, lr, hdt, hxl, hR, hS, hT⟩ := hrel
      obtain ⟨A, c, hv, _, _⟩ := Kd.R_reads hR
      subst hv
      have HT := Lib.hid hdt
      have HX := Lib.hid hxl
      have HR := Lib.hid hR
      have SR_ := Lib.hid hS
      have TR := Lib.hid hT
      clear hdt hxl hR hS hT S1 T1
      by_cases hlt : k < m
      · have hlt' : (k : Int) < (m : Int) := by omega
        go_wp2_with fail
        refine (rr_lease SR_.out).mono ?_
        rintro e w3 (⟨x, l2, u, hd, rfl, ⟨cs, hM, rfl⟩, S3', T3'⟩ | ⟨hd, rfl, hbe, T3'⟩)
        rotate_left
        · exact ⟨rfl, .inr ⟨by rw [HL.out]; exact times_none _ HT.out hd hlt, rfl, hbe, TR.out.trans T3'⟩⟩
        have hlen : xs.length ≤ 4096 := by rw [HX.out]; omega
        have hO := T3'.R HR.out (by decide)
        have hE := elem_ok hM (fun k hk => Kd.R_lt HR.out k hk) TR.out.size (v := Value.slice A xs.length c)
        obtain rfl := openMLease hM
        have HO := Lib.hid hO
        have HE := Lib.hid hE
        have S3 := Lib.hid S3'
        have T3 := Lib.hid (TR.out.trans T3')
        have HD3 := Lib.hid hd
        clear hO hE S3' T3' hd TR HR SR_ hM
        go_wp2_with (((with_reducible refine gate_builtin (b := .append) (xs := #[.tmp 15, .tmp 19]) rfl ?_); at_builtin; refine Kd.R_append kLease (w0 := w3) w.heap.size rfl (.tmp 15) (.tmp 19) 80 205 (.agg #[.int .i64 0, .int .i64 0, .int .i64 0, .int .i64 0]) 32 rfl Try.underlying80 info_Lease rfl (by decide) (by decide) (.slice A xs.length c) xs x [.int .i64 x.1, .int .i64 x.2.1, .int .i64 x.2.2.1, .int .i64 x.2.2.2] (fun _ => True) (fun k => True ∧ some k ≠ (Value.slice A xs.length c).ownBlock) rfl rfl HE.out (fun _ h => h) (fun _ _ => trivial) HO.out (Below.refl _ _) (Nat.le_trans T3.out.size (Nat.le_refl _)) (by omega) ?_; intro v1 w4 ho hb hg hat; have HO4 := Lib.hid ho; have HB4 := Lib.hid hb; have HG4 := Lib.hid hg; clear ho hb hg hat))
        have hs4 : dTimes dLease (k + 1) l1 = some (xs ++ [x], l2) := by rw [dTimes_snoc, HT.out]; simp only [Option.bind_some, HD3.out, Option.map_some]
        have HS4 := Lib.hid hs4
        have S4 := Lib.hid (S3.out.keeps (Keeps.row HO.out HG4.out (by decide)) (HB4.out.mono (Nat.le_trans HSZ.out (Nat.le_refl _))))
        have T4 := Lib.hid (T3.out.then HB4.out)
        have HX4 := Lib.hid (show (xs ++ [x]).length = k + 1 by rw [List.length_append, HX.out]; rfl)
        clear hs4
        go_wp2
        go_roundw
        case rel => exact ⟨k + 1, by omega, by simp, _, _, HS4.out, HX4.out, HO4.out, S4.out, T4.out⟩
        case measure => simp [intOf]; omega
      · have hke : k = m := by omega
        have HK := Lib.hid hke
        clear hke
        go_wp2
        go_ret
        have ht := HT.out
        rw [HK.out] at ht
        exact .inl ⟨xs, lr, _, by rw [HL.out, ht], rfl, HR.out, SR_.out, TR.out⟩
set_option maxRecDepth 100000 in
set_option maxHeartbeats 16000000 in
theorem rr_machine {w0 w : World} {g : Nat} {B l0 : Bs} (hS : RAt w0 w g B l0) :
    Calls Try.prog 67 #[.pointer (some ⟨g, 0, none⟩)] w (RDone dMachine (fun x v w' => ∃ cs, kMachine.M w' w.heap.size (fun _ => True) x cs ∧ v = .agg cs.toArray) w0 g w B l0) := by
  have hb0 : Below w.heap.size w (w.alloc (.cells #[.int .i64 0, .int .i64 0, .slice none 0 0, .slice none 0 0, .slice none 0 0, .slice none 0 0, .slice none 0 0, .slice none 0 0, .slice none 0 0, .int .i64 0] 82)) := (Below.refl _ _).alloc (Nat.le_refl _) _
  have hx0 := blk_new w (.cells #[.int .i64 0, .int .i64 0, .slice none 0 0, .slice none 0 0, .slice none 0 0, .slice none 0 0, .slice none 0 0, .slice none 0 0, .slice none 0 0, .int .i64 0] 82)
  obtain ⟨W0, hW0⟩ : ∃ W0, w.alloc (.cells #[.int .i64 0, .int .i64 0, .slice none 0 0, .slice none 0 0, .slice none 0 0, .slice none 0 0, .slice none 0 0, .slice none 0 0, .slice none 0 0, .int .i64 0] 82) = W0 := ⟨_, rfl⟩
  rw [hW0] at hb0 hx0
  have HSZ := Lib.hid hS.below.size
  have S0 := Lib.hid (hS.keeps (Keeps.below hb0) (hb0.mono hS.below.size))
  have B0 := Lib.hid hx0
  have T0 := Lib.hid (Stp.below (S := SR) hb0)
  have HW := Lib.hid hW0
  clear hb0 hx0 hW0 hS
  go_enter Try.func67, Try.ntmps67
  go_wp2_with fail
  rw [HW.out]
  clear HW
  refine (rr_catalog S0.out).mono ?_
  rintro e y1 (⟨x1, l1, u, hd, rfl, ⟨cs, hM, rfl⟩, S', T'⟩ | ⟨hd, rfl, hbe, T'⟩)
  rotate_left
  · exact ⟨rfl, .inr ⟨by simp only [dMachine, dPair, hd, Option.bind_some, Option.map_some, Option.bind_none, Option.map_none], rfl, hbe, T0.out.trans T'⟩⟩
  have hbx := T'.keep B0.out (by decide)
  have hone := all_oneCell_toArray (kCatalog.K_one (kCatalog.K_of_M hM))
  obtain ⟨v2, v3, v4, v5, v6, rfl, hR2, hR3, hR4, hR5, hR6⟩ := openMCatalog hM
  have R2' := Kd.R_lower hR2 T0.out.size
  clear hR2
  have R3' := Kd.R_lower hR3 T0.out.size
  clear hR3
  have R4' := Kd.R_lower hR4 T0.out.size
  clear hR4
  have R5' := Kd.R_lower hR5 T0.out.size
  clear hR5
  have R6' := Kd.R_lower hR6 T0.out.size
  clear hR6
  have hth := there_blk [] [.int .i64 0, .int .i64 0, .slice none 0 0, .slice none 0 0, .slice none 0 0, .slice none 0 0, .slice none 0 0] [.slice none 0 0, .slice none 0 0, .int .i64 0] hbx
  obtain ⟨w1, hw, hbx2, hkp, hbl, hot⟩ := own_stores [] [.int .i64 0, .int .i64 0, .slice none 0 0, .slice none 0 0, .slice none 0 0, .slice none 0 0, .slice none 0 0] [.int .i64 x1.1, .int .i64 x1.2.1, v2, v3, v4, v5, v6] [.slice none 0 0, .slice none 0 0, .int .i64 0] hbx (by decide) rfl
  have hbx3 : w1.heap[w.heap.size]? = some (.cells #[.int .i64 x1.1, .int .i64 x1.2.1, v2, v3, v4, v5, v6, .slice none 0 0, .slice none 0 0, .int .i64 0] 82 (0, 0)) := hbx2
  have hbl' := hbl w.heap.size (Nat.le_refl _)
  have S1 := Lib.hid (S'.keeps hkp (hbl'.mono HSZ.out))
  have T1 := Lib.hid ((T0.out.trans T').then hbl')
  have B1 := Lib.hid hbx3
  have R2'' := made_only R2' hbx (by decide) hot
  have R3'' := made_only R3' hbx (by decide) hot
  have R4'' := made_only R4' hbx (by decide) hot
  have R5'' := made_only R5' hbx (by decide) hot
  have R6'' := made_only R6' hbx (by decide) hot
  have R2 := Lib.hid R2''
  clear R2' R2''
  have R3 := Lib.hid R3''
  clear R3' R3''
  have R4 := Lib.hid R4''
  clear R4' R4''
  have R5 := Lib.hid R5''
  clear R5' R5''
  have R6 := Lib.hid R6''
  clear R6' R6''
  have HD1 := Lib.hid hd
  have HV := Lib.hid hw
  have HTH := Lib.hid hth
  have HON := Lib.hid hone
  clear hd hw hbx hbx2 hbx3 hkp hbl hbl' hot hth hone hM S' T' S0 T0 B0
  go_wp2_with (((with_reducible refine gate_store (t := 74) rfl ?_); refine wpList_store_mid rfl 74 _ _ rfl w.heap.size 0 #[.int .i64 x1.1, .int .i64 x1.2.1, v2, v3, v4, v5, v6] rfl rfl HTH.out (by kernel_rfl) HON.out ?_))
  first | rw [HV.out] | (erw [HV.out])
  clear HV HTH HON
  refine (rr_few_Done S1.out).mono ?_
  rintro e y2 (⟨x2, l2, u, hd, rfl, hR, S', T'⟩ | ⟨hd, rfl, hbe, T'⟩)
  rotate_left
  · exact ⟨rfl, .inr ⟨by simp only [dMachine, dPair, HD1.out, hd, Option.bind_some, Option.map_some, Option.bind_none, Option.map_none], rfl, hbe, T1.out.trans T'⟩⟩
  have hbx := T'.keep B1.out (by decide)
  have R2' := T'.R R2.out (by decide)
  have R3' := T'.R R3.out (by decide)
  have R4' := T'.R R4.out (by decide)
  have R5' := T'.R R5.out (by decide)
  have R6' := T'.R R6.out (by decide)
  obtain ⟨A7, c7, hu, _, _⟩ := Kd.R_reads hR
  subst hu
  have R7' := Kd.R_lower hR T1.out.size
  clear hR
  have q := cell_blk hbx 7 _ rfl
  have f := frozen_at hbx 7
  obtain ⟨w2, hw, hbx2, hkp, hbl, hot⟩ := own_store hbx (by decide) 7 (.slice A7 x2.length c7)
  have hbx3 : w2.heap[w.heap.size]? = some (.cells #[.int .i64 x1.1, .int .i64 x1.2.1, v2, v3, v4, v5, v6, .slice A7 x2.length c7, .slice none 0 0, .int .i64 0] 82 (0, 0)) := hbx2
  have hbl' := hbl w.heap.size (Nat.le_refl _)
  have S2 := Lib.hid (S'.keeps hkp (hbl'.mono HSZ.out))
  have T2 := Lib.hid ((T1.out.trans T').then hbl')
  have B2 := Lib.hid hbx3
  have R2'' := made_only R2' hbx (by decide) hot
  have R3'' := made_only R3' hbx (by decide) hot
  have R4'' := made_only R4' hbx (by decide) hot
  have R5'' := made_only R5' hbx (by decide) hot
  have R6'' := made_only R6' hbx (by decide) hot
  have R7'' := made_only R7' hbx (by decide) hot
  clear R2 R3 R4 R5 R6
  have R2 := Lib.hid R2''
  clear R2' R2''
  have R3 := Lib.hid R3''
  clear R3' R3''
  have R4 := Lib.hid R4''
  clear R4' R4''
  have R5 := Lib.hid R5''
  clear R5' R5''
  have R6 := Lib.hid R6''
  clear R6' R6''
  have R7 := Lib.hid R7''
  clear R7' R7''
  have HD2 := Lib.hid hd
  have HV := Lib.hid hw
  clear hd hw hbx hbx2 hbx3 hkp hbl hbl' hot S' T' S1 T1 B1
  go_wp2_with fail
  first | rw [HV.out] | (erw [HV.out])
  clear HV q f
  refine (rr_few_Lease S2.out).mono ?_
  rintro e y3 (⟨x3, l3, u, hd, rfl, hR, S', T'⟩ | ⟨hd, rfl, hbe, T'⟩)
  rotate_left
  · exact ⟨rfl, .inr ⟨by simp only [dMachine, dPair, HD1.out, HD2.out, hd, Option.bind_some, Option.map_some, Option.bind_none, Option.map_none], rfl, hbe, T2.out.trans T'⟩⟩
  have hbx := T'.keep B2.out (by decide)
  have R2' := T'.R R2.out (by decide)
  have R3' := T'.R R3.out (by decide)
  have R4' := T'.R R4.out (by decide)
  have R5' := T'.R R5.out (by decide)
  have R6' := T'.R R6.out (by decide)
  have R7' := T'.R R7.out (by decide)
  obtain ⟨A8, c8, hu, _, _⟩ := Kd.R_reads hR
  subst hu
  have R8' := Kd.R_lower hR T2.out.size
  clear hR
  have q := cell_blk hbx 8 _ rfl
  have f := frozen_at hbx 8
  obtain ⟨w3, hw, hbx2, hkp, hbl, hot⟩ := own_store hbx (by decide) 8 (.slice A8 x3.length c8)
  have hbx3 : w3.heap[w.heap.size]? = some (.cells #[.int .i64 x1.1, .int .i64 x1.2.1, v2, v3, v4, v5, v6, .slice A7 x2.length c7, .slice A8 x3.length c8, .int .i64 0] 82 (0, 0)) := hbx2
  have hbl' := hbl w.heap.size (Nat.le_refl _)
  have S3 := Lib.hid (S'.keeps hkp (hbl'.mono HSZ.out))
  have T3 := Lib.hid ((T2.out.trans T').then hbl')
  have B3 := Lib.hid hbx3
  have R2'' := made_only R2' hbx (by decide) hot
  have R3'' := made_only R3' hbx (by decide) hot
  have R4'' := made_only R4' hbx (by decide) hot
  have R5'' := made_only R5' hbx (by decide) hot
  have R6'' := made_only R6' hbx (by decide) hot
  have R7'' := made_only R7' hbx (by decide) hot
  have R8'' := made_only R8' hbx (by decide) hot
  clear R2 R3 R4 R5 R6 R7
  have R2 := Lib.hid R2''
  clear R2' R2''
  have R3 := Lib.hid R3''
  clear R3' R3''
  have R4 := Lib.hid R4''
  clear R4' R4''
  have R5 := Lib.hid R5''
  clear R5' R5''
  have R6 := Lib.hid R6''
  clear R6' R6''
  have R7 := Lib.hid R7''
  clear R7' R7''
  have R8 := Lib.hid R8''
  clear R8' R8''
  have HD3 := Lib.hid hd
  have HV := Lib.hid hw
  clear hd hw hbx hbx2 hbx3 hkp hbl hbl' hot S' T' S2 T2 B2
  go_wp2_with fail
  first | rw [HV.out] | (erw [HV.out])
  clear HV q f
  refine (rr_number S3.out).mono ?_
  rintro e y4 (⟨x4, l4, u, hd, rfl, rfl, S', T'⟩ | ⟨hd, rfl, hbe, T'⟩)
  rotate_left
  · exact ⟨rfl, .inr ⟨by simp only [dMachine, dPair, HD1.out, HD2.out, HD3.out, hd, Option.bind_some, Option.map_some, Option.bind_none, Option.map_none], rfl, hbe, T3.out.trans T'⟩⟩
  have hbx := T'.keep B3.out (by decide)
  have R2' := T'.R R2.out (by decide)
  have R3' := T'.R R3.out (by decide)
  have R4' := T'.R R4.out (by decide)
  have R5' := T'.R R5.out (by decide)
  have R6' := T'.R R6.out (by decide)
  have R7' := T'.R R7.out (by decide)
  have R8' := T'.R R8.out (by decide)
  have q := cell_blk hbx 9 _ rfl
  have f := frozen_at hbx 9
  obtain ⟨w4, hw, hbx2, hkp, hbl, hot⟩ := own_store hbx (by decide) 9 (.int .i64 x4)
  have hbx3 : w4.heap[w.heap.size]? = some (.cells #[.int .i64 x1.1, .int .i64 x1.2.1, v2, v3, v4, v5, v6, .slice A7 x2.length c7, .slice A8 x3.length c8, .int .i64 x4] 82 (0, 0)) := hbx2
  have hbl' := hbl w.heap.size (Nat.le_refl _)
  have S4 := Lib.hid (S'.keeps hkp (hbl'.mono HSZ.out))
  have T4 := Lib.hid ((T3.out.trans T').then hbl')
  have B4 := Lib.hid hbx3
  have R2'' := made_only R2' hbx (by decide) hot
  have R3'' := made_only R3' hbx (by decide) hot
  have R4'' := made_only R4' hbx (by decide) hot
  have R5'' := made_only R5' hbx (by decide) hot
  have R6'' := made_only R6' hbx (by decide) hot
  have R7'' := made_only R7' hbx (by decide) hot
  have R8'' := made_only R8' hbx (by decide) hot
  clear R2 R3 R4 R5 R6 R7 R8
  have R2 := Lib.hid R2''
  clear R2' R2''
  have R3 := Lib.hid R3''
  clear R3' R3''
  have R4 := Lib.hid R4''
  clear R4' R4''
  have R5 := Lib.hid R5''
  clear R5' R5''
  have R6 := Lib.hid R6''
  clear R6' R6''
  have R7 := Lib.hid R7''
  clear R7' R7''
  have R8 := Lib.hid R8''
  clear R8' R8''
  have HD4 := Lib.hid hd
  have HV := Lib.hid hw
  clear hd hw hbx hbx2 hbx3 hkp hbl hbl' hot S' T' S3 T3 B3
  have HM := Lib.hid (mkMMachine (w := w4) (base := w.heap.size) (ok := fun _ => True) (x1, x2, x3, x4) R2.out R3.out R4.out R5.out R6.out R7.out R8.out)
  obtain ⟨WF, hWF, hbF, hkF, hblF, hotF⟩ := own_stores [] [.int .i64 x1.1, .int .i64 x1.2.1, v2, v3, v4, v5, v6, .slice A7 x2.length c7, .slice A8 x3.length c8, .int .i64 x4] [.int .i64 x1.1, .int .i64 x1.2.1, v2, v3, v4, v5, v6, .slice A7 x2.length c7, .slice A8 x3.length c8, .int .i64 x4] [] B4.out (by decide) rfl
  have HF := Lib.hid hWF
  have BF := Lib.hid hbF
  have KF := Lib.hid hkF
  have LF := Lib.hid (hblF w.heap.size (Nat.le_refl _))
  have OF := Lib.hid hotF
  clear hWF hbF hkF hblF hotF
  go_wp2_with (first | ((with_reducible refine gate_load (t := 82) rfl ?_); (first | rw [HV.out] | skip); refine wpList_load_mid rfl 82 _ rfl w.heap.size 0 rfl [.int .i64 x1.1, .int .i64 x1.2.1, v2, v3, v4, v5, v6, .slice A7 x2.length c7, .slice A8 x3.length c8, .int .i64 x4] _ (range_blk [] [.int .i64 x1.1, .int .i64 x1.2.1, v2, v3, v4, v5, v6, .slice A7 x2.length c7, .slice A8 x3.length c8, .int .i64 x4] [] B4.out) Try.underlying82 rfl (by kernel_rfl) ?_) | ((with_reducible refine gate_store (t := 82) rfl ?_); refine wpList_store_mid rfl 82 _ _ rfl w.heap.size 0 #[.int .i64 x1.1, .int .i64 x1.2.1, v2, v3, v4, v5, v6, .slice A7 x2.length c7, .slice A8 x3.length c8, .int .i64 x4] rfl rfl (there_blk [] [.int .i64 x1.1, .int .i64 x1.2.1, v2, v3, v4, v5, v6, .slice A7 x2.length c7, .slice A8 x3.length c8, .int .i64 x4] [] B4.out) (by kernel_rfl) (all_oneCell_toArray (kMachine.K_one (kMachine.K_of_M HM.out))) ?_))
  first | rw [HF.out] | (erw [HF.out])
  refine bodyPost_ret (v := .agg #[.int .i64 x1.1, .int .i64 x1.2.1, v2, v3, v4, v5, v6, .slice A7 x2.length c7, .slice A8 x3.length c8, .int .i64 x4]) (results_cell_row rfl _ _ w.heap.size 82 #[.int .i64 x1.1, .int .i64 x1.2.1, v2, v3, v4, v5, v6, .slice A7 x2.length c7, .slice A8 x3.length c8, .int .i64 x4] (0, 0) _ rfl BF.out Try.underlying82 rfl (by kernel_rfl)) rfl ?_
  exact .inl ⟨(x1, x2, x3, x4), l4, _, by simp only [dMachine, dPair, HD1.out, HD2.out, HD3.out, HD4.out, Option.bind_some, Option.map_some, Option.bind_none, Option.map_none], rfl, ⟨_, mkMMachine (x1, x2, x3, x4) (made_only R2.out B4.out (by decide) OF.out) (made_only R3.out B4.out (by decide) OF.out) (made_only R4.out B4.out (by decide) OF.out) (made_only R5.out B4.out (by decide) OF.out) (made_only R6.out B4.out (by decide) OF.out) (made_only R7.out B4.out (by decide) OF.out) (made_only R8.out B4.out (by decide) OF.out), rfl⟩, S4.out.keeps KF.out (LF.out.mono HSZ.out), T4.out.then LF.out⟩
end Go.Proofs.Ytoomcdgnnibjlaa.Wr
/- Bytes read as a machine, or refused. -/
namespace Go.Proofs.Ytoomcdgnnibjlaa.Wr
open Go.RowKit Go.Proofs.YtoomcdgnnibjlaaW.PrintWords Go.Proofs.YtoomcdgnnibjlaaW.PrintLast
set_option linter.unusedVariables false
set_option linter.unusedSimpArgs false


set_option maxRecDepth 100000 in
set_option maxHeartbeats 4000000 in
theorem getMachine_close (pe px : Addr) (u : FrameMode) (w : World) (hc : w.cell? pe = some (.int .i64 0)) :
    CallsD Try.prog 136 #[.pointer (some pe), .pointer (some px)] u w fun e u' w' => u' = u ∧ e = .returned (.tuple #[]) ∧ w = w' := by
  go_enter_d Try.func136, Try.ntmps136
  go_wp2
  go_end0
  exact ⟨rfl, rfl⟩
set_option maxRecDepth 100000 in
set_option maxHeartbeats 8000000 in
theorem getMachine_drop (ge gx : Nat) (c : Int) (cs : List Value) (u : FrameMode) (w : World) (hne : ge ≠ gx) (h0 : c ≠ 0) (he : w.heap[ge]? = some (.cells #[.int .i64 c] 35 (0, 0))) (hx : w.heap[gx]? = some (.cells ([] ++ (cs ++ [])).toArray 82 (0, 0))) (hl : cs.length = 10) :
    CallsD Try.prog 136 #[.pointer (some ⟨ge, 0, none⟩), .pointer (some ⟨gx, 0, none⟩)] u w fun e u' w' => u' = u ∧ e = .returned (.tuple #[]) ∧ w'.heap[gx]? = some (.cells #[.int .i64 0, .int .i64 0, .slice none 0 0, .slice none 0 0, .slice none 0 0, .slice none 0 0, .slice none 0 0, .slice none 0 0, .slice none 0 0, .int .i64 0] 82 (0, 0)) ∧ w'.heap[ge]? = some (.cells #[.int .i64 c] 35 (0, 0)) ∧ (∀ B, B ≤ gx → B ≤ w.heap.size → Below B w w') := by
  have h1 : (c == 0) = false := by simpa using h0
  have h2 : (c != 0) = true := by simpa using h0
  have q0 := cell_blk he 0 _ rfl
  have hbn : Below w.heap.size w (w.alloc (.cells #[.int .i64 0, .int .i64 0, .slice none 0 0, .slice none 0 0, .slice none 0 0, .slice none 0 0, .slice none 0 0, .slice none 0 0, .slice none 0 0, .int .i64 0] 82)) := (Below.refl _ _).alloc (Nat.le_refl _) _
  have hx1 := (hbn.block gx (blk_lt hx)).trans hx
  have he1 := (hbn.block ge (blk_lt he)).trans he
  have hn1 := blk_new w (.cells #[.int .i64 0, .int .i64 0, .slice none 0 0, .slice none 0 0, .slice none 0 0, .slice none 0 0, .slice none 0 0, .slice none 0 0, .slice none 0 0, .int .i64 0] 82)
  obtain ⟨W0, hW0⟩ : ∃ W0, w.alloc (.cells #[.int .i64 0, .int .i64 0, .slice none 0 0, .slice none 0 0, .slice none 0 0, .slice none 0 0, .slice none 0 0, .slice none 0 0, .slice none 0 0, .int .i64 0] 82) = W0 := ⟨_, rfl⟩
  rw [hW0] at hbn hx1 he1 hn1
  obtain ⟨W1, hW1, hw1, _, hbl, hot⟩ := own_stores [] cs [.int .i64 0, .int .i64 0, .slice none 0 0, .slice none 0 0, .slice none 0 0, .slice none 0 0, .slice none 0 0, .slice none 0 0, .slice none 0 0, .int .i64 0] [] hx1 (by decide) (by rw [hl]; rfl)
  have HW0 := Lib.hid hW0
  have HN := Lib.hid (range_blk [] [.int .i64 0, .int .i64 0, .slice none 0 0, .slice none 0 0, .slice none 0 0, .slice none 0 0, .slice none 0 0, .slice none 0 0, .slice none 0 0, .int .i64 0] [] hn1)
  have HT := Lib.hid (show W0.there gx 0 (#[.int .i64 0, .int .i64 0, .slice none 0 0, .slice none 0 0, .slice none 0 0, .slice none 0 0, .slice none 0 0, .slice none 0 0, .slice none 0 0, .int .i64 0] : Array Value).size from by have := there_blk [] cs [] hx1; rwa [hl] at this)
  have HON := Lib.hid (all_oneCell_toArray (kMachine.K_one (kMachine.K_of_M (w := w) (base := 0) (ok := fun _ => True) (mkMMachine ((0, 0, ([], []), ([], []), []), [], [], 0) (Kd.R_nil _ _ _ _ _) (Kd.R_nil _ _ _ _ _) (Kd.R_nil _ _ _ _ _) (Kd.R_nil _ _ _ _ _) (Kd.R_nil _ _ _ _ _) (Kd.R_nil _ _ _ _ _) (Kd.R_nil _ _ _ _ _)))))
  have HW1 := Lib.hid hW1
  have HF := Lib.hid (show W1.heap[gx]? = some (.cells #[.int .i64 0, .int .i64 0, .slice none 0 0, .slice none 0 0, .slice none 0 0, .slice none 0 0, .slice none 0 0, .slice none 0 0, .slice none 0 0, .int .i64 0] 82 (0, 0)) from hw1)
  have HE := Lib.hid ((hot ge hne).trans he1)
  have HBL := Lib.hid (fun B (h1 : B ≤ gx) (h2 : B ≤ w.heap.size) => (hbn.mono h2).trans (hbl B h1))
  clear hx hl hx1 he1 hn1 hW0 hW1 hw1 hbl hot hbn he
  go_enter_d Try.func136, Try.ntmps136
  go_upto_region 2 with (fail)
  rw [HW0.out]
  go_wp2_with (first | ((with_reducible refine gate_load (t := 82) rfl ?_); refine wpList_load_mid rfl 82 _ rfl w.heap.size 0 rfl [.int .i64 0, .int .i64 0, .slice none 0 0, .slice none 0 0, .slice none 0 0, .slice none 0 0, .slice none 0 0, .slice none 0 0, .slice none 0 0, .int .i64 0] _ HN.out Try.underlying82 rfl (by kernel_rfl) ?_) | ((with_reducible refine gate_store (t := 82) rfl ?_); refine wpList_store_mid rfl 82 _ _ rfl gx 0 #[.int .i64 0, .int .i64 0, .slice none 0 0, .slice none 0 0, .slice none 0 0, .slice none 0 0, .slice none 0 0, .slice none 0 0, .slice none 0 0, .int .i64 0] rfl rfl HT.out (by kernel_rfl) HON.out ?_))
  have HW1' : W0.setCells gx 0 [.int .i64 0, .int .i64 0, .slice none 0 0, .slice none 0 0, .slice none 0 0, .slice none 0 0, .slice none 0 0, .slice none 0 0, .slice none 0 0, .int .i64 0] = W1 := HW1.out
  rw [HW1']
  go_end0
  exact ⟨rfl, HF.out, HE.out, HBL.out⟩
set_option maxRecDepth 100000 in
set_option maxHeartbeats 16000000 in
theorem getMachine (A : Option Addr) (c : Nat) {B : Bs} (w : World) (hA : (Kd.int .u8).C w A B.length B) (hc : B.length ≤ c) (hB : IsB B) (hl : B.length < 140737488355328) :
    Calls Try.prog 66 #[.slice A B.length c, .func (.func 67) #[] #[]] w (GetTold dMachine kMachine ((0, 0, ([], []), ([], []), []), [], [], 0) w B) := by
  have hmf : ∀ (fn : Fn) (first cap : Array Value) (w : World), (Instr.makeFunc fn first cap).run Try.prog w = .ok (.func fn first cap) w := fun _ _ _ _ => rfl
  obtain ⟨W, hW, hb, hx, he, hsz⟩ := get_world w #[.int .i64 0, .int .i64 0, .slice none 0 0, .slice none 0 0, .slice none 0 0, .slice none 0 0, .slice none 0 0, .slice none 0 0, .slice none 0 0, .int .i64 0] 82
  have C1 := Lib.hid (rd_new A B.length c rfl (Kd.C_below hA hb) hB hl)
  have HW := Lib.hid hW
  have HB := Lib.hid hb
  have HX := Lib.hid hx
  have HE := Lib.hid he
  have HA := Lib.hid hA
  have HI := Lib.hid hB
  clear hW hb hx he hA hB hsz
  go_enter_defers Try.func66, Try.ntmps66
  go_wp2_with fail
  rw [HW.out]
  refine C1.out.mono ?_
  rintro e w1 ⟨gc, A1, c1, rfl, hge, hBA, hb1, _⟩
  obtain ⟨W1, hW1, hS, hbW⟩ := get_start HB.out hge hBA hb1 HA.out hc HI.out hl
  have HW1 := Lib.hid hW1
  have HX1 := Lib.hid ((hbW.block _ (blk_lt HX.out)).trans HX.out)
  have HE1 := Lib.hid ((hbW.block _ (blk_lt HE.out)).trans HE.out)
  have HSZ1 := Lib.hid hS.below.size
  have C2 := Lib.hid (rr_machine hS)
  clear hBA hb1 hW1 hS hbW C1 HW hge HX HE HB HA HI
  go_wp2_with fail
  rw [HW1.out]
  clear HW1
  refine C2.out.mono ?_
  rintro e w2 (⟨x, l', v, hd, rfl, ⟨cs, hM, rfl⟩, S', T'⟩ | ⟨hd, rfl, hbe, T'⟩)
  · have hx2 := T'.keep HX1.out (by decide)
    have he2 := T'.keep HE1.out (by decide)
    have hln : cs.length = 10 := kMachine.K_len (kMachine.K_of_M hM)
    obtain ⟨W3, hW3, hx3, hkp, hbl, hot⟩ := own_stores [] [.int .i64 0, .int .i64 0, .slice none 0 0, .slice none 0 0, .slice none 0 0, .slice none 0 0, .slice none 0 0, .slice none 0 0, .slice none 0 0, .int .i64 0] cs [] hx2 (by decide) (by rw [hln]; rfl)
    have he3 := (hot _ (by omega)).trans he2
    have hM2 := kMachine.M_lower HSZ1.out hM
    have S3 := S'.keeps hkp (hbl w.heap.size (Nat.le_refl _))
    obtain ⟨gc2, A2, c2, A3, c3, hcc, _, hBA2, _, _⟩ := S3.ex
    have q3 := cell_blk hcc 0 _ rfl
    have h9 : cs.toArray.size = 10 := by simpa using hln
    have HTH := Lib.hid (show w2.there w.heap.size 0 cs.toArray.size from by rw [h9]; exact there_blk [] [.int .i64 0, .int .i64 0, .slice none 0 0, .slice none 0 0, .slice none 0 0, .slice none 0 0, .slice none 0 0, .slice none 0 0, .slice none 0 0, .int .i64 0] [] hx2)
    have HINF := Lib.hid (show (Try.prog.info? 82).map (·.size) = some cs.toArray.size from by rw [h9]; kernel_rfl)
    have HINL := Lib.hid (show (Try.prog.info? 82).map (·.size) = some cs.length from by rw [hln]; kernel_rfl)
    clear h9
    have HON := Lib.hid (all_oneCell_toArray (kMachine.K_one (kMachine.K_of_M hM)))
    have HM3 := Lib.hid (M_only hM2 hx2 (by decide) hot)
    have HV := Lib.hid hW3
    have HX3 := Lib.hid hx3
    have HE3 := Lib.hid he3
    have HLN := Lib.hid hln
    have B3 := Lib.hid S3.below
    have HD := Lib.hid hd
    have CL := Lib.hid (rd_left hBA2)
    clear hx2 he2 hln hW3 hx3 hkp hbl hot he3 hM hM2 S3 S' T' hd hcc hBA2 C2 HX1 HE1
    go_wp2_with ((with_reducible refine gate_store (t := 82) rfl ?_); refine wpList_store_mid rfl 82 _ _ rfl w.heap.size 0 cs.toArray rfl rfl HTH.out HINF.out HON.out ?_; rw [show w2.setCells w.heap.size 0 cs.toArray.toList = W3 from HV.out])
    cases l' with
    | nil =>
      refine (CL.out.mono (R' := fun e w' => W3 = w' ∧ e = .returned (.int .i64 0)) (fun e w' h => h)).mono ?_
      rintro e w3 ⟨rfl, rfl⟩
      clear q3 CL HTH
      go_wp2_with fail
      refine (is_true _).mono ?_
      rintro e w3 ⟨rfl, rfl⟩
      obtain ⟨W4, hW4, hx4, hkp, hbl, hot⟩ := own_stores [] cs cs [] HX3.out (by decide) rfl
      have he4 := (hot _ (by omega)).trans HE3.out
      obtain ⟨W5, hW5, he5, _, hbl5, hot5⟩ := own_store he4 (by decide) 0 (.int .i64 0)
      have hx5 := (hot5 w.heap.size (by omega)).trans hx4
      have q5 := cell_blk he4 0 _ rfl
      have f5 := frozen_at he4 0
      have HV4 := Lib.hid hW4
      have HV5 := Lib.hid hW5
      have HX5 := Lib.hid (show W5.heap[w.heap.size]? = some (.cells cs.toArray 82 (0, 0)) from by simpa using hx5)
      have HE5 := Lib.hid (show W5.heap[w.heap.size + 1]? = some (.cells #[.int .i64 0] 35 (0, 0)) from he5)
      have HM5 := Lib.hid (M_only (M_only HM3.out HX3.out (by decide) hot) he4 (by decide) hot5)
      have B5 := Lib.hid ((B3.out.trans (hbl w.heap.size (Nat.le_refl _))).trans (hbl5 w.heap.size (by omega)))
      have HTH := Lib.hid (show W3.there w.heap.size 0 cs.toArray.size from by have := there_blk [] cs [] HX3.out; simpa using this)
      have HRG := Lib.hid (range_blk [] cs [] HX3.out)
      clear hW4 hx4 hkp hbl hot he4 hW5 he5 hbl5 hot5 hx5
      go_wp2_with (first | ((with_reducible refine gate_load (t := 82) rfl ?_); refine wpList_load_mid rfl 82 _ rfl w.heap.size 0 rfl cs _ HRG.out Try.underlying82 rfl HINL.out ?_) | ((with_reducible refine gate_store (t := 82) rfl ?_); refine wpList_store_mid rfl 82 _ _ rfl w.heap.size 0 cs.toArray rfl rfl HTH.out HINF.out HON.out ?_; rw [show W3.setCells w.heap.size 0 cs.toArray.toList = W4 from HV4.out]))
      rw [HV5.out]
      refine leaves_cons (f := 72) (args := #[.pointer (some ⟨w.heap.size + 1, 0, none⟩)]) (by simp) (by simp [go_sem]) ?_
      refine (caught_idle ⟨w.heap.size + 1, 0, none⟩ _).mono ?_
      rintro e u' w'' ⟨rfl, rfl, rfl⟩
      refine leaves_cons (f := 136) (args := #[.pointer (some ⟨w.heap.size + 1, 0, none⟩), .pointer (some ⟨w.heap.size, 0, none⟩)]) (by simp [settle]) (by simp [go_sem]) ?_
      refine (getMachine_close ⟨w.heap.size + 1, 0, none⟩ ⟨w.heap.size, 0, none⟩ _ _ (cell_blk HE5.out 0 _ rfl)).mono ?_
      rintro e u' w'' ⟨rfl, rfl, rfl⟩
      refine ⟨_, results_cell2 rfl _ _ w.heap.size (w.heap.size + 1) 82 cs.toArray (0, 0) _ (.int .i64 0) rfl HX5.out Try.underlying82 rfl HINF.out rfl (load_errno HE5.out), ?_⟩
      exact ⟨x, cs, 0, rfl, HM5.out, B5.out, .inl ⟨rfl, HD.out⟩⟩
    | cons b l' =>
      obtain ⟨m, hm⟩ : ∃ m, (b :: l').length = m := ⟨_, rfl⟩
      have hm1 : 1 ≤ m := by rw [← hm]; simp
      refine (CL.out.mono (R' := fun e w' => W3 = w' ∧ e = .returned (.int .i64 (m : Int))) (fun e w' h => by rw [← hm]; exact h)).mono ?_
      rintro e w3 ⟨rfl, rfl⟩
      have k1 : ((m : Int) == 0) = false := by simp; omega
      have k2 : decide ((m : Int) = 0) = false := decide_eq_false (by omega)
      clear q3 CL HTH hm
      go_wp2_with fail
      refine (is_false _).mono ?_
      rintro e w3 ⟨rfl, rfl⟩
      have hbad : ∀ y, dMachine B ≠ some (y, []) := fun y hy => by rw [HD.out] at hy; cases hy
      have q := cell_blk HE3.out 0 _ rfl
      have fz := frozen_at HE3.out 0
      obtain ⟨W6, hW6, hw6, _, hbl6, hot6⟩ := own_store HE3.out (by decide) 0 (.int .i64 11)
      have HE6 := Lib.hid (show W6.heap[w.heap.size + 1]? = some (.cells #[.int .i64 11] 35 (0, 0)) from hw6)
      have HX6 := Lib.hid ((hot6 w.heap.size (by omega)).trans HX3.out)
      have HW6 := Lib.hid hW6
      have HB6 := Lib.hid (B3.out.trans (hbl6 w.heap.size (by omega)))
      have HBAD := Lib.hid hbad
      have Q2 := Lib.hid q
      have F2 := Lib.hid fz
      clear hW6 hw6 hbl6 hot6 q fz hbad
      simp only [thrown]
      refine leaves_cons (f := 72) (args := #[.pointer (some ⟨w.heap.size + 1, 0, none⟩)]) (by simp) (by simp [go_sem]) ?_
      refine (caught_thrown ⟨w.heap.size + 1, 0, none⟩ 0 11 _ Q2.out F2.out).mono ?_
      rintro e u' w'' ⟨rfl, rfl, rfl⟩
      rw [HW6.out]
      refine leaves_cons (f := 136) (args := #[.pointer (some ⟨w.heap.size + 1, 0, none⟩), .pointer (some ⟨w.heap.size, 0, none⟩)]) (by simp [settle]) (by simp [go_sem]) ?_
      refine (getMachine_drop (w.heap.size + 1) w.heap.size 11 cs _ _ (by omega) (by decide) HE6.out HX6.out HLN.out).mono ?_
      rintro e u' w'' ⟨rfl, rfl, k1, k2, k3⟩
      refine ⟨_, results_cell2 rfl _ _ w.heap.size (w.heap.size + 1) 82 #[.int .i64 0, .int .i64 0, .slice none 0 0, .slice none 0 0, .slice none 0 0, .slice none 0 0, .slice none 0 0, .slice none 0 0, .slice none 0 0, .int .i64 0] (0, 0) _ (.int .i64 11) rfl k1 Try.underlying82 rfl (by kernel_rfl) rfl (load_errno k2), ?_⟩
      exact ⟨((0, 0, ([], []), ([], []), []), [], [], 0), [.int .i64 0, .int .i64 0, .slice none 0 0, .slice none 0 0, .slice none 0 0, .slice none 0 0, .slice none 0 0, .slice none 0 0, .slice none 0 0, .int .i64 0], 11, rfl, (mkMMachine ((0, 0, ([], []), ([], []), []), [], [], 0) (Kd.R_nil _ _ _ _ _) (Kd.R_nil _ _ _ _ _) (Kd.R_nil _ _ _ _ _) (Kd.R_nil _ _ _ _ _) (Kd.R_nil _ _ _ _ _) (Kd.R_nil _ _ _ _ _) (Kd.R_nil _ _ _ _ _)), HB6.out.trans (k3 _ (Nat.le_refl _) HB6.out.size), .inr ⟨rfl, rfl, HBAD.out⟩⟩
  · have hbad : ∀ y, dMachine B ≠ some (y, []) := fun y hy => by rw [hd] at hy; cases hy
    have HX2 := Lib.hid (T'.keep HX1.out (by decide))
    have HE2 := Lib.hid (T'.keep HE1.out (by decide))
    have B2 := Lib.hid hbe
    clear T' hd hbe C2 HX1 HE1
    have q := cell_blk HE2.out 0 _ rfl
    have fz := frozen_at HE2.out 0
    obtain ⟨W6, hW6, hw6, _, hbl6, hot6⟩ := own_store HE2.out (by decide) 0 (.int .i64 11)
    have HE6 := Lib.hid (show W6.heap[w.heap.size + 1]? = some (.cells #[.int .i64 11] 35 (0, 0)) from hw6)
    have HX6 := Lib.hid ((hot6 w.heap.size (by omega)).trans HX2.out)
    have HW6 := Lib.hid hW6
    have HB6 := Lib.hid (B2.out.trans (hbl6 w.heap.size (by omega)))
    have HBAD := Lib.hid hbad
    have Q2 := Lib.hid q
    have F2 := Lib.hid fz
    clear hW6 hw6 hbl6 hot6 q fz hbad
    simp only [thrown]
    refine leaves_cons (f := 72) (args := #[.pointer (some ⟨w.heap.size + 1, 0, none⟩)]) (by simp) (by simp [go_sem]) ?_
    refine (caught_thrown ⟨w.heap.size + 1, 0, none⟩ 0 11 _ Q2.out F2.out).mono ?_
    rintro e u' w'' ⟨rfl, rfl, rfl⟩
    rw [HW6.out]
    refine leaves_cons (f := 136) (args := #[.pointer (some ⟨w.heap.size + 1, 0, none⟩), .pointer (some ⟨w.heap.size, 0, none⟩)]) (by simp [settle]) (by simp [go_sem]) ?_
    refine (getMachine_drop (w.heap.size + 1) w.heap.size 11 [.int .i64 0, .int .i64 0, .slice none 0 0, .slice none 0 0, .slice none 0 0, .slice none 0 0, .slice none 0 0, .slice none 0 0, .slice none 0 0, .int .i64 0] _ _ (by omega) (by decide) HE6.out HX6.out rfl).mono ?_
    rintro e u' w'' ⟨rfl, rfl, k1, k2, k3⟩
    refine ⟨_, results_cell2 rfl _ _ w.heap.size (w.heap.size + 1) 82 #[.int .i64 0, .int .i64 0, .slice none 0 0, .slice none 0 0, .slice none 0 0, .slice none 0 0, .slice none 0 0, .slice none 0 0, .slice none 0 0, .int .i64 0] (0, 0) _ (.int .i64 11) rfl k1 Try.underlying82 rfl (by kernel_rfl) rfl (load_errno k2), ?_⟩
    exact ⟨((0, 0, ([], []), ([], []), []), [], [], 0), [.int .i64 0, .int .i64 0, .slice none 0 0, .slice none 0 0, .slice none 0 0, .slice none 0 0, .slice none 0 0, .slice none 0 0, .slice none 0 0, .int .i64 0], 11, rfl, (mkMMachine ((0, 0, ([], []), ([], []), []), [], [], 0) (Kd.R_nil _ _ _ _ _) (Kd.R_nil _ _ _ _ _) (Kd.R_nil _ _ _ _ _) (Kd.R_nil _ _ _ _ _) (Kd.R_nil _ _ _ _ _) (Kd.R_nil _ _ _ _ _) (Kd.R_nil _ _ _ _ _)), HB6.out.trans (k3 _ (Nat.le_refl _) HB6.out.size), .inr ⟨rfl, rfl, HBAD.out⟩⟩
set_option maxRecDepth 100000 in
set_option maxHeartbeats 16000000 in
theorem wire_GetMachine (A : Option Addr) (c : Nat) {B : Bs} (w : World) (hA : (Kd.int .u8).C w A B.length B) (hc : B.length ≤ c) (hB : IsB B) (hl : B.length < 140737488355328) :
    Calls Try.prog 35 #[.slice A B.length c] w (GetTold dMachine kMachine ((0, 0, ([], []), ([], []), []), [], [], 0) w B) := by
  have hb0 : Below w.heap.size w (w.alloc (.cells #[.int .i64 0, .int .i64 0, .slice none 0 0, .slice none 0 0, .slice none 0 0, .slice none 0 0, .slice none 0 0, .slice none 0 0, .slice none 0 0, .int .i64 0] 82)) := (Below.refl _ _).alloc (Nat.le_refl _) _
  have hx0 := blk_new w (.cells #[.int .i64 0, .int .i64 0, .slice none 0 0, .slice none 0 0, .slice none 0 0, .slice none 0 0, .slice none 0 0, .slice none 0 0, .slice none 0 0, .int .i64 0] 82)
  obtain ⟨W0, hW0⟩ : ∃ W0, w.alloc (.cells #[.int .i64 0, .int .i64 0, .slice none 0 0, .slice none 0 0, .slice none 0 0, .slice none 0 0, .slice none 0 0, .slice none 0 0, .slice none 0 0, .int .i64 0] 82) = W0 := ⟨_, rfl⟩
  rw [hW0] at hb0 hx0
  have C1 := Lib.hid (getMachine A c W0 (Kd.C_below hA hb0) hc hB hl)
  have HW := Lib.hid hW0
  have HB0 := Lib.hid hb0
  have HX0 := Lib.hid hx0
  clear hA hB hb0 hx0 hW0
  go_enter Try.func35, Try.ntmps35
  go_wp2_with fail
  rw [HW.out]
  refine C1.out.mono ?_
  rintro e w1 ⟨x, cs, k, rfl, hM, hb, hh⟩
  have hln : cs.length = 10 := kMachine.K_len (kMachine.K_of_M hM)
  have h9 : cs.toArray.size = 10 := by simpa using hln
  have hx1 := (hb.block _ (blk_lt HX0.out)).trans HX0.out
  obtain ⟨W3, hW3, hx3, _, hbl, hot⟩ := own_stores [] [.int .i64 0, .int .i64 0, .slice none 0 0, .slice none 0 0, .slice none 0 0, .slice none 0 0, .slice none 0 0, .slice none 0 0, .slice none 0 0, .int .i64 0] cs [] hx1 (by decide) (by rw [hln]; rfl)
  have HTH := Lib.hid (show w1.there w.heap.size 0 cs.toArray.size from by rw [h9]; exact there_blk [] [.int .i64 0, .int .i64 0, .slice none 0 0, .slice none 0 0, .slice none 0 0, .slice none 0 0, .slice none 0 0, .slice none 0 0, .slice none 0 0, .int .i64 0] [] hx1)
  have HINF := Lib.hid (show (Try.prog.info? 82).map (·.size) = some cs.toArray.size from by rw [h9]; kernel_rfl)
  have HON := Lib.hid (all_oneCell_toArray (kMachine.K_one (kMachine.K_of_M hM)))
  have HM := Lib.hid (M_only (kMachine.M_lower HB0.out.size hM) hx1 (by decide) hot)
  have HB := Lib.hid ((HB0.out.trans (hb.mono HB0.out.size)).trans (hbl w.heap.size (Nat.le_refl _)))
  have HX3 := Lib.hid (show W3.heap[w.heap.size]? = some (.cells cs.toArray 82 (0, 0)) from by simpa using hx3)
  have HV := Lib.hid hW3
  have HH := Lib.hid hh
  clear hM hb hh C1 hln h9 hx1 hW3 hx3 hbl hot HW
  go_wp2_with ((with_reducible refine gate_store (t := 82) rfl ?_); refine wpList_store_mid rfl 82 _ _ rfl w.heap.size 0 cs.toArray rfl rfl HTH.out HINF.out HON.out ?_; rw [show w1.setCells w.heap.size 0 cs.toArray.toList = W3 from HV.out])
  refine bodyPost_ret (v := .tuple #[.agg cs.toArray, .int .i64 k]) (results_ct (p := 2) (u := 3) rfl _ _ w.heap.size 82 cs.toArray (0, 0) _ rfl HX3.out Try.underlying82 rfl HINF.out) rfl ?_
  exact ⟨x, cs, k, rfl, HM.out, HB.out, HH.out⟩
end Go.Proofs.Ytoomcdgnnibjlaa.Wr
/- What is read of bytes is read as well where more lies behind them. -/
namespace Go.Proofs.Ytoomcdgnnibjlaa.Wr
open Go.RowKit Go.Proofs.YtoomcdgnnibjlaaW.PrintWords Go.Proofs.YtoomcdgnnibjlaaW.PrintLast
set_option linter.unusedVariables false
set_option linter.unusedSimpArgs false


def Ext {α : Type} (d : Dc α) : Prop := ∀ l x r s, d l = some (x, r) → d (l ++ s) = some (x, r ++ s)
theorem ext_num : Ext dNum := by
  intro l x r s h
  unfold dNum at h ⊢
  by_cases h1 : l.length < 4
  · rw [if_pos h1] at h; cases h
  · rw [if_neg h1] at h
    rw [if_neg (by rw [List.length_append]; omega), List.take_append_of_le_length (by omega), List.drop_append_of_le_length (by omega)]
    by_cases h2 : 1000000000 < of (l.take 4)
    · rw [if_pos h2] at h; cases h
    · rw [if_neg h2] at h ⊢
      cases h
      rfl
theorem ext_int : Ext dInt := by
  intro l x r s h
  unfold dInt at h ⊢
  by_cases h1 : l.length < 8
  · rw [if_pos h1] at h; cases h
  · rw [if_neg h1] at h
    rw [if_neg (by rw [List.length_append]; omega), List.take_append_of_le_length (by omega), List.drop_append_of_le_length (by omega)]
    cases h
    rfl
theorem ext_flag : Ext dFlag := by
  intro l x r s h
  cases l with
  | nil => cases h
  | cons b l =>
    simp only [dFlag, List.cons_append] at h ⊢
    by_cases h1 : b ≤ 1
    · rw [if_pos h1] at h ⊢; cases h; rfl
    · rw [if_neg h1] at h; cases h
theorem ext_text : Ext dText := by
  intro l x r s h
  unfold dText at h ⊢
  by_cases h1 : l.length < 4
  · rw [if_pos h1] at h; cases h
  · rw [if_neg h1] at h
    rw [if_neg (by rw [List.length_append]; omega), List.take_append_of_le_length (by omega)]
    by_cases h2 : 65536 < of (l.take 4)
    · rw [if_pos h2] at h; cases h
    · rw [if_neg h2] at h ⊢
      by_cases h3 : (l.length : Int) - 4 < of (l.take 4)
      · rw [if_pos h3] at h; cases h
      · rw [if_neg h3] at h
        rw [if_neg (by rw [List.length_append]; omega), List.drop_append_of_le_length (by omega), List.drop_append_of_le_length (by omega), List.take_append_of_le_length (by rw [List.length_drop]; omega)]
        cases h
        rfl
theorem ext_pair {α β : Type} {d : Dc α} {e : Dc β} (h1 : Ext d) (h2 : Ext e) : Ext (dPair d e) := by
  intro l x r s h
  simp only [dPair, Option.bind_eq_some_iff, Option.map_eq_some_iff] at h ⊢
  obtain ⟨p, hp, q, hq, he⟩ := h
  cases he
  exact ⟨_, h1 l _ _ s hp, _, h2 _ _ _ s hq, rfl⟩
theorem ext_times {α : Type} {d : Dc α} (hd : Ext d) : ∀ n, Ext (dTimes d n) := by
  intro n
  induction n with
  | zero => intro l x r s h; cases h; rfl
  | succ n ih =>
    intro l x r s h
    simp only [dTimes, Option.bind_eq_some_iff, Option.map_eq_some_iff] at h ⊢
    obtain ⟨p, hp, q, hq, he⟩ := h
    cases he
    exact ⟨_, hd l _ _ s hp, _, ih _ _ _ s hq, rfl⟩
theorem ext_list {α : Type} {d : Dc α} (hd : Ext d) : Ext (dList d) := by
  intro l x r s h
  simp only [dList, Option.bind_eq_some_iff] at h ⊢
  obtain ⟨p, hp, h⟩ := h
  refine ⟨_, ext_num l _ _ s hp, ?_⟩
  by_cases h1 : 4096 < p.1
  · rw [if_pos h1] at h; cases h
  · rw [if_neg h1] at h ⊢
    exact ext_times hd _ _ _ _ s h
theorem extColumn : Ext dColumn := ext_pair ext_text (ext_pair ext_num ext_flag)
theorem extRule : Ext dRule := ext_pair ext_text (ext_pair ext_num (ext_pair (ext_list ext_text) (ext_pair ext_int (ext_pair ext_int (ext_pair ext_text (ext_pair ext_text ext_text))))))
theorem extTable : Ext dTable := ext_pair ext_text (ext_pair ext_text (ext_pair ext_text (ext_pair (ext_list extColumn) (ext_list extRule))))
theorem extSchema : Ext dSchema := ext_pair ext_text ext_text
theorem extMember : Ext dMember := ext_pair ext_text ext_text
theorem extGrant : Ext dGrant := ext_pair ext_text (ext_pair ext_text (ext_pair ext_num (ext_pair ext_text (ext_pair ext_text ext_flag))))
theorem extObjects : Ext dObjects := ext_pair (ext_list extSchema) (ext_list extTable)
theorem extRoles : Ext dRoles := ext_pair (ext_list ext_text) (ext_list extMember)
theorem extCatalog : Ext dCatalog := ext_pair ext_num (ext_pair ext_num (ext_pair extObjects (ext_pair extRoles (ext_list extGrant))))
theorem extCommand : Ext dCommand := ext_pair ext_num (ext_pair ext_text (ext_pair ext_text (ext_pair ext_text (ext_pair ext_text (ext_pair ext_text (ext_pair (ext_list extColumn) (ext_pair extRule (ext_pair ext_num ext_flag))))))))
theorem extConfig : Ext dConfig := ext_pair (ext_list ext_num) (ext_list ext_num)
theorem extEntry : Ext dEntry := ext_pair ext_num (ext_pair ext_num (ext_pair ext_num (ext_pair extConfig ext_text)))
theorem extSnapshot : Ext dSnapshot := ext_pair ext_num (ext_pair ext_num (ext_pair extConfig ext_text))
theorem extRecord : Ext dRecord := ext_pair ext_num (ext_pair ext_num (ext_pair ext_num (ext_pair extEntry (ext_pair ext_num extSnapshot))))
theorem extOp : Ext dOp := ext_pair ext_num (ext_pair ext_num (ext_pair ext_num (ext_pair extCommand (ext_pair ext_num (ext_pair ext_num ext_num)))))
theorem extLease : Ext dLease := ext_pair ext_num (ext_pair ext_num (ext_pair ext_num ext_num))
theorem extDone : Ext dDone := ext_pair ext_num (ext_pair ext_num (ext_pair ext_num (ext_pair ext_num ext_num)))
theorem extMachine : Ext dMachine := ext_pair extCatalog (ext_pair (ext_list extDone) (ext_pair (ext_list extLease) ext_num))
end Go.Proofs.Ytoomcdgnnibjlaa.Wr
/- The law WireMore, walked. -/
namespace Go.Proofs.Ytoomcdgnnibjlaa.Wr
open Go.RowKit Go.Proofs.YtoomcdgnnibjlaaW.PrintWords Go.Proofs.YtoomcdgnnibjlaaW.PrintLast
set_option linter.unusedVariables false
set_option linter.unusedSimpArgs false
theorem more_ok {α : Type} {e : α → Er} {d : Dc α} {w : α → Nat} {V : α → Prop} (h : Cod e d w V) {x : α} (hr : resE (e x) = 0) : ∃ b, e x = .ok b := by
  cases he : e x with
  | ok b => exact ⟨b, rfl⟩
  | error c =>
    rw [he] at hr
    have hr' : c = 0 := hr
    rcases h.err x c he with rfl | rfl <;> cases hr'
theorem more_got {α : Type} {e : α → Er} {d : Dc α} {w : α → Nat} {V : α → Prop} (h : Cod e d w V) {x y z : α} {b : Bs} {k : Int} (hV : V x) (he : e x = .ok b) (hh : k = 0 ∧ d b = some (y, []) ∨ k = 11 ∧ y = z ∧ ∀ y', d b ≠ some (y', [])) : k = 0 ∧ x = y := by
  have hd := get_yes h hV he
  rcases hh with ⟨rfl, h1⟩ | ⟨_, _, h1⟩
  · rw [hd] at h1; cases h1; exact ⟨rfl, rfl⟩
  · exact absurd hd (h1 _)
theorem more_behind {α : Type} {e : α → Er} {d : Dc α} {w : α → Nat} {V : α → Prop} (h : Cod e d w V) {x y z : α} {b m : Bs} {k : Int} (hV : V x) (he : e x = .ok b) (hm : m ≠ []) (hh : k = 0 ∧ d (b ++ m) = some (y, []) ∨ k = 11 ∧ y = z ∧ ∀ y', d (b ++ m) ≠ some (y', [])) : k = 11 := by
  have hd := h.there x b m hV he
  rcases hh with ⟨_, h1⟩ | ⟨h1, _, _⟩
  · rw [hd] at h1; cases h1; exact absurd rfl hm
  · exact h1
theorem more_short {α : Type} {e : α → Er} {d : Dc α} {w : α → Nat} {V : α → Prop} (h : Cod e d w V) (hx : Ext d) {x y z : α} {b : Bs} {n : Nat} {k : Int} (hV : V x) (he : e x = .ok b) (hn : b.length = n + 1)
    (hh : k = 0 ∧ d (b.take n) = some (y, []) ∨ k = 11 ∧ y = z ∧ ∀ y', d (b.take n) ≠ some (y', [])) : k = 11 := by
  rcases hh with ⟨_, h1⟩ | ⟨h1, _, _⟩
  · exfalso
    have h2 := hx _ _ _ (b.drop n) h1
    rw [List.take_append_drop, get_yes h hV he, List.nil_append] at h2
    have h3 := congrArg (fun q => q.map fun p => p.2.length) h2
    simp only [Option.map_some, List.length_nil, List.length_drop, Option.some.injEq] at h3
    omega
  · exact h1
set_option maxRecDepth 100000 in
set_option maxHeartbeats 40000000 in
theorem law_WireMore (x : TMachine) (A2 : Option Addr) (c2 : Nat) (A3 : Option Addr) (c3 : Nat) (A4 : Option Addr) (c4 : Nat) (A5 : Option Addr) (c5 : Nat) (A6 : Option Addr) (c6 : Nat) (A7 : Option Addr) (c7 : Nat) (A8 : Option Addr) (c8 : Nat) (M : Option Addr) (mc : Nat) (m : Bs) (w : World) (h2 : kSchema.C w A2 x.1.2.2.1.1.length x.1.2.2.1.1) (h3 : kTable.C w A3 x.1.2.2.1.2.length x.1.2.2.1.2) (h4 : Kd.string.C w A4 x.1.2.2.2.1.1.length x.1.2.2.2.1.1) (h5 : kMember.C w A5 x.1.2.2.2.1.2.length x.1.2.2.2.1.2) (h6 : kGrant.C w A6 x.1.2.2.2.2.length x.1.2.2.2.2) (h7 : kDone.C w A7 x.2.1.length x.2.1) (h8 : kLease.C w A8 x.2.2.1.length x.2.2.1) (hmo : (Kd.int .u8).C w M m.length m) (hmB : IsB m) (hv : VMachine x) (hm : wMachine x < 140737488355328) : Calls Try.prog 13 #[.agg #[.int .i64 x.1.1, .int .i64 x.1.2.1, .slice A2 x.1.2.2.1.1.length c2, .slice A3 x.1.2.2.1.2.length c3, .slice A4 x.1.2.2.2.1.1.length c4, .slice A5 x.1.2.2.2.1.2.length c5, .slice A6 x.1.2.2.2.2.length c6, .slice A7 x.2.1.length c7, .slice A8 x.2.2.1.length c8, .int .i64 x.2.2.2], .slice M m.length mc] w fun e w' => e = .returned (.bool true) ∧ Below w.heap.size w w' := by
  obtain ⟨W, hW⟩ : ∃ W, w.alloc (.cells #[.int .i64 x.1.1, .int .i64 x.1.2.1, .slice A2 x.1.2.2.1.1.length c2, .slice A3 x.1.2.2.1.2.length c3, .slice A4 x.1.2.2.2.1.1.length c4, .slice A5 x.1.2.2.2.1.2.length c5, .slice A6 x.1.2.2.2.2.length c6, .slice A7 x.2.1.length c7, .slice A8 x.2.2.1.length c8, .int .i64 x.2.2.2] 82) = W := ⟨_, rfl⟩
  have hb0 : Below w.heap.size w W := by rw [← hW]; exact (Below.refl _ _).alloc (Nat.le_refl _) _
  have hx0 : W.heap[w.heap.size]? = some (.cells #[.int .i64 x.1.1, .int .i64 x.1.2.1, .slice A2 x.1.2.2.1.1.length c2, .slice A3 x.1.2.2.1.2.length c3, .slice A4 x.1.2.2.2.1.1.length c4, .slice A5 x.1.2.2.2.1.2.length c5, .slice A6 x.1.2.2.2.2.length c6, .slice A7 x.2.1.length c7, .slice A8 x.2.2.1.length c8, .int .i64 x.2.2.2] 82 (0, 0)) := by rw [← hW]; exact blk_new w _
  have C1 := Lib.hid (wire_PutMachine x A2 c2 A3 c3 A4 c4 A5 c5 A6 c6 A7 c7 A8 c8 W (Kd.C_below h2 hb0) (Kd.C_below h3 hb0) (Kd.C_below h4 hb0) (Kd.C_below h5 hb0) (Kd.C_below h6 hb0) (Kd.C_below h7 hb0) (Kd.C_below h8 hb0) hm)
  have HR := Lib.hid (range_blk [] [.int .i64 x.1.1, .int .i64 x.1.2.1, .slice A2 x.1.2.2.1.1.length c2, .slice A3 x.1.2.2.1.2.length c3, .slice A4 x.1.2.2.2.1.1.length c4, .slice A5 x.1.2.2.2.1.2.length c5, .slice A6 x.1.2.2.2.2.length c6, .slice A7 x.2.1.length c7, .slice A8 x.2.2.1.length c8, .int .i64 x.2.2.2] [] hx0)
  have HX := Lib.hid hx0
  have HB0 := Lib.hid hb0
  have HW := Lib.hid hW
  have HMO := Lib.hid hmo
  have HMB := Lib.hid hmB
  clear hb0 hx0 hW hmo hmB h2 h3 h4 h5 h6 h7 h8
  go_enter Try.func13, Try.ntmps13
  go_wp2_with (((with_reducible refine gate_load (t := 82) rfl ?_); refine wpList_load_mid rfl 82 _ rfl w.heap.size 0 rfl [.int .i64 x.1.1, .int .i64 x.1.2.1, .slice A2 x.1.2.2.1.1.length c2, .slice A3 x.1.2.2.1.2.length c3, .slice A4 x.1.2.2.2.1.1.length c4, .slice A5 x.1.2.2.2.1.2.length c5, .slice A6 x.1.2.2.2.2.length c6, .slice A7 x.2.1.length c7, .slice A8 x.2.2.1.length c8, .int .i64 x.2.2.2] _ (by rw [HW.out]; exact HR.out) Try.underlying82 rfl (by kernel_rfl) ?_))
  rw [HW.out]
  refine C1.out.mono ?_
  rintro e u1 ⟨v1, rfl, R1', hb1⟩
  obtain ⟨B1, d1, rfl, hle, hC1⟩ := Kd.R_reads R1'
  have HT := Lib.hid (HB0.out.trans (hb1.mono HB0.out.size))
  have HWT := Lib.hid hb1
  have HR1 := Lib.hid R1'
  have HC1 := Lib.hid hC1
  have HS := Lib.hid HB0.out.size
  clear HR HW C1 hb1 R1' hC1
  by_cases z1 : resE (eMachine x) = 0
  rotate_left
  · have y1 : (resE (eMachine x) == 0) = false := by simpa using z1
    have y2 : (resE (eMachine x) != 0) = true := by simpa using z1
    clear z1
    have C4 := Lib.hid (awake_true u1)
    go_wp2_with fail
    refine C4.out.mono ?_
    rintro e u4 ⟨rfl, hb4⟩
    have HB4 := Lib.hid (HT.out.trans (hb4.mono HT.out.size))
    clear hb4 C4
    go_wp2
    refine bodyPost_ret (v := .bool true) (by rw [results_tmp Try.results13]; rfl) rfl ⟨rfl, HB4.out⟩
  have y1 : (resE (eMachine x) == 0) = true := by simpa using z1
  have y2 : (resE (eMachine x) != 0) = false := by simpa using z1
  have Z1 := Lib.hid z1
  clear z1
  by_cases n1 : (262144 : Int) < ((resB (eMachine x)).length : Int)
  · have n1a : decide ((262144 : Int) < ((resB (eMachine x)).length : Int)) = true := decide_eq_true n1
    clear n1
    have C4 := Lib.hid (awake_true u1)
    go_wp2_with fail
    refine C4.out.mono ?_
    rintro e u4 ⟨rfl, hb4⟩
    have HB4 := Lib.hid (HT.out.trans (hb4.mono HT.out.size))
    clear hb4 C4
    go_wp2
    refine bodyPost_ret (v := .bool true) (by rw [results_tmp Try.results13]; rfl) rfl ⟨rfl, HB4.out⟩
  have n1a : decide ((262144 : Int) < ((resB (eMachine x)).length : Int)) = false := decide_eq_false n1
  have N1 := Lib.hid (show (resB (eMachine x)).length ≤ 262144 by omega)
  clear n1
  by_cases n2 : (262144 : Int) < (m.length : Int)
  · have n2a : decide ((262144 : Int) < (m.length : Int)) = true := decide_eq_true n2
    clear n2
    have C4 := Lib.hid (awake_true u1)
    go_wp2_with fail
    refine C4.out.mono ?_
    rintro e u4 ⟨rfl, hb4⟩
    have HB4 := Lib.hid (HT.out.trans (hb4.mono HT.out.size))
    clear hb4 C4
    go_wp2
    refine bodyPost_ret (v := .bool true) (by rw [results_tmp Try.results13]; rfl) rfl ⟨rfl, HB4.out⟩
  have n2a : decide ((262144 : Int) < (m.length : Int)) = false := decide_eq_false n2
  have N2 := Lib.hid (show m.length ≤ 262144 by omega)
  clear n2
  by_cases n3 : m.length = 0
  · have n3a : ((m.length : Int) == 0) = true := by simpa using n3
    have n3b : (m.length : Int) = 0 := by omega
    clear n3
    have C4 := Lib.hid (awake_true u1)
    go_wp2_with fail
    refine C4.out.mono ?_
    rintro e u4 ⟨rfl, hb4⟩
    have HB4 := Lib.hid (HT.out.trans (hb4.mono HT.out.size))
    clear hb4 C4
    go_wp2
    refine bodyPost_ret (v := .bool true) (by rw [results_tmp Try.results13]; rfl) rfl ⟨rfl, HB4.out⟩
  have n3a : ((m.length : Int) == 0) = false := by simpa using n3
  have N3 := Lib.hid (show m ≠ [] from fun hh => n3 (by rw [hh]; rfl))
  clear n3
  go_upto_region 4 with (fail)
  clear y1 y2 n1a n2a n3a
  obtain ⟨b, hb⟩ := more_ok codMachine Z1.out
  have e1 : resB (eMachine x) = b := by rw [hb]; rfl
  have hC1 := HC1.out
  have hn1 := N1.out
  have hR1 := HR1.out
  rw [e1] at hC1 hn1 hR1 hle ⊢
  obtain ⟨n, hn⟩ : ∃ n, b.length = n + 1 := by
    have h1 := codMachine.len _ _ hb
    have h2 : 4 ≤ wMachine x := by unfold wMachine wCatalog; omega
    exact ⟨b.length - 1, by omega⟩
  have HE := Lib.hid hb
  have HN := Lib.hid hn
  clear HC1 N1 HR1 Z1 e1 hb
  have HC1 := Lib.hid hC1
  have HR1 := Lib.hid hR1
  have HLE := Lib.hid hle
  have N1 := Lib.hid hn1
  have hpos : decide ((b.length : Int) < 1) = false := decide_eq_false (by omega)
  clear hC1 hR1 hle hn1 hn
  go_upto_region 6 with (fail)
  clear hpos
  have hC2 : (Kd.int .u8).C u1 B1 (b.take n).length (b.take n) := Kd.C_take HC1.out (by have := HN.out; omega)
  have htl : (b.take n).length = n := by rw [List.length_take]; have := HN.out; omega
  have C1 := Lib.hid (wire_GetMachine B1 d1 u1 hC2 (by rw [htl]; have := HN.out; have := HLE.out; omega) (fun q hq => codMachine.isB _ _ HE.out q (List.mem_of_mem_take hq)) (by rw [htl]; have := HN.out; have := N1.out; omega))
  rw [htl] at C1
  have hbl : b.length = n + 1 := HN.out
  have hle : n + 1 ≤ d1 := by have := HLE.out; omega
  have h0 : n ≤ d1 := by omega
  have hw1 : wrap64 (n : Int) = (n : Int) := by have := N1.out; unfold wrap64; omega
  have hw2 : (wrap64 (n : Int)).toNat = n := by rw [hw1]; omega
  rw [hbl]
  clear hC2 htl
  go_wp2_with fail
  refine C1.out.mono ?_
  rintro e g1 ⟨y, cs, k, rfl, hM, hb, hh⟩
  have hk := more_short codMachine extMachine hv HE.out HN.out hh
  subst hk
  clear hh
  obtain ⟨W0, hW0, hth, V1, hV, hx, hbx⟩ := box_put (w := g1) (t := 82) (zs := [.int .i64 0, .int .i64 0, .slice none 0 0, .slice none 0 0, .slice none 0 0, .slice none 0 0, .slice none 0 0, .slice none 0 0, .slice none 0 0, .int .i64 0]) (n := 10) rfl (kMachine.K_len (kMachine.K_of_M hM)) (by decide)
  have HINF := Lib.hid (show (Try.prog.info? 82).map (·.size) = some cs.toArray.size from by rw [List.size_toArray, kMachine.K_len (kMachine.K_of_M hM)]; kernel_rfl)
  have HON := Lib.hid (all_oneCell_toArray (kMachine.K_one (kMachine.K_of_M hM)))
  have hstep : Below u1.heap.size u1 V1 := hb.trans (hbx.mono hb.size)
  have ht := HT.out.trans (hstep.mono HT.out.size)
  have HOWN := Lib.hid (fun k hk => Nat.lt_of_lt_of_le (Kd.R_lt HR1.out k hk) (Nat.le_refl u1.heap.size))
  have HV1 := Lib.hid hstep.size
  have f := Kd.C_below HC1.out hstep
  clear HC1
  have HC1 := Lib.hid f
  clear f
  have f := Kd.R_below HR1.out hstep
  clear HR1
  have HR1 := Lib.hid f
  clear f
  have f := HWT.out.trans (hstep.mono HWT.out.size)
  clear HWT
  have HWT := Lib.hid f
  clear f
  have HW0 := Lib.hid hW0
  have HV := Lib.hid hV
  have HTH := Lib.hid hth
  clear HT C1
  have HT := Lib.hid ht
  clear hW0 hV hth hx hbx hb hM ht hstep
  go_upto_region 7 with ((with_reducible refine gate_store (t := 82) rfl ?_); refine wpList_store_mid rfl 82 _ _ rfl g1.heap.size 0 cs.toArray rfl rfl (by rw [show g1.alloc (.cells #[.int .i64 0, .int .i64 0, .slice none 0 0, .slice none 0 0, .slice none 0 0, .slice none 0 0, .slice none 0 0, .slice none 0 0, .slice none 0 0, .int .i64 0] 82) = W0 from HW0.out]; exact HTH.out) HINF.out HON.out ?_; rw [show g1.alloc (.cells #[.int .i64 0, .int .i64 0, .slice none 0 0, .slice none 0 0, .slice none 0 0, .slice none 0 0, .slice none 0 0, .slice none 0 0, .slice none 0 0, .int .i64 0] 82) = W0 from HW0.out, show W0.setCells g1.heap.size 0 cs.toArray.toList = V1 from HV.out])
  clear HINF HON HW0 HV HTH W0
  have C1 := Lib.hid (wire_GetMachine B1 d1 V1 HC1.out HLE.out (codMachine.isB _ _ HE.out) (by have := N1.out; omega))
  rw [hbl] at C1
  clear hle h0 hw1 hw2
  go_wp2_with fail
  refine C1.out.mono ?_
  rintro e g2 ⟨y, cs, k, rfl, hM, hb, hh⟩
  obtain ⟨rfl, hxx⟩ := more_got codMachine hv HE.out hh
  subst hxx
  clear hh
  obtain ⟨W0, hW0, hth, V2, hV, hx, hbx⟩ := box_put (w := g2) (t := 82) (zs := [.int .i64 0, .int .i64 0, .slice none 0 0, .slice none 0 0, .slice none 0 0, .slice none 0 0, .slice none 0 0, .slice none 0 0, .slice none 0 0, .int .i64 0]) (n := 10) rfl (kMachine.K_len (kMachine.K_of_M hM)) (by decide)
  have HINF := Lib.hid (show (Try.prog.info? 82).map (·.size) = some cs.toArray.size from by rw [List.size_toArray, kMachine.K_len (kMachine.K_of_M hM)]; kernel_rfl)
  have HON := Lib.hid (all_oneCell_toArray (kMachine.K_one (kMachine.K_of_M hM)))
  have hstep : Below V1.heap.size V1 V2 := hb.trans (hbx.mono hb.size)
  have ht := HT.out.trans (hstep.mono HT.out.size)
  have f := Kd.C_below HC1.out hstep
  clear HC1
  have HC1 := Lib.hid f
  clear f
  have f := Kd.R_below HR1.out hstep
  clear HR1
  have HR1 := Lib.hid f
  clear f
  have f := HWT.out.trans (hstep.mono HWT.out.size)
  clear HWT
  have HWT := Lib.hid f
  clear f
  obtain ⟨z2, z3, z4, z5, z6, z7, z8, hcs, _⟩ := openMMachine hM
  have hy : V2.heap[g2.heap.size]? = some (.cells [.int .i64 x.1.1, .int .i64 x.1.2.1, z2, z3, z4, z5, z6, z7, z8, .int .i64 x.2.2.2].toArray 82 (0, 0)) := by rw [hx, hcs]
  have HY := Lib.hid hy
  have HNE := Lib.hid (show some g2.heap.size ≠ (Value.slice B1 b.length d1).ownBlock from fun hh => by have h1 := HOWN.out _ hh.symm; have h2 : u1.heap.size ≤ V1.heap.size := HV1.out; have h3 := hb.size; omega)
  clear hy hcs
  have HW0 := Lib.hid hW0
  have HV := Lib.hid hV
  have HTH := Lib.hid hth
  clear HT C1
  have HT := Lib.hid ht
  clear hW0 hV hth hx hbx hb hM ht hstep
  go_upto_region 8 with ((with_reducible refine gate_store (t := 82) rfl ?_); refine wpList_store_mid rfl 82 _ _ rfl g2.heap.size 0 cs.toArray rfl rfl (by rw [show g2.alloc (.cells #[.int .i64 0, .int .i64 0, .slice none 0 0, .slice none 0 0, .slice none 0 0, .slice none 0 0, .slice none 0 0, .slice none 0 0, .slice none 0 0, .int .i64 0] 82) = W0 from HW0.out]; exact HTH.out) HINF.out HON.out ?_; rw [show g2.alloc (.cells #[.int .i64 0, .int .i64 0, .slice none 0 0, .slice none 0 0, .slice none 0 0, .slice none 0 0, .slice none 0 0, .slice none 0 0, .slice none 0 0, .int .i64 0] 82) = W0 from HW0.out, show W0.setCells g2.heap.size 0 cs.toArray.toList = V2 from HV.out])
  clear HINF HON HW0 HV HTH W0
  have hr := HR1.out
  rw [hbl] at hr
  have HRA := Lib.hid hr
  have HCM := Lib.hid (Kd.C_below HMO.out HT.out)
  have hne := HNE.out
  rw [hbl] at hne
  have HNE' := Lib.hid hne
  have hroom : (b.length + m.length) * 1 ≤ 140737488355328 := by have := N1.out; have := N2.out; omega
  clear hr hne HR1 HNE HC1
  go_wp2_with (((with_reducible refine gate_builtin (b := .append) (xs := #[.tmp 53, .tmp 54]) rfl ?_); at_builtin; refine Kd.R_append_rows (Kd.int .u8) (w0 := W) W.heap.size rfl (.tmp 53) (.tmp 54) 34 5 (.int .u8 0) 1 rfl Try.underlying34 PA.info5 rfl (by decide) (by decide) (.slice B1 (n + 1) d1) b m M _ mc (fun _ => True) (fun _ => False) rfl rfl HRA.out HCM.out (fun _ _ h => h) (fun _ h => h.elim) (fun _ _ => trivial) HWT.out HWT.out.size hroom ?_; intro v1 w2 ho hb hg hat; obtain ⟨A1, d2, hv1, hle2, hCa⟩ := Kd.R_reads ho; subst hv1))
  have C1 := Lib.hid (wire_GetMachine A1 d2 w2 hCa hle2 (fun q hq => (List.mem_append.1 hq).elim (codMachine.isB _ _ HE.out q) (HMB.out q)) (by rw [List.length_append]; have := N1.out; have := N2.out; omega))
  rw [List.length_append, hbl] at C1
  have f := (hg.block _ (blk_lt HY.out) HNE'.out).trans HY.out
  clear HY HT HWT
  have HY := Lib.hid f
  have HWT := Lib.hid hb
  have HT := Lib.hid (HB0.out.trans (hb.mono HS.out))
  clear f ho hb hg hat hCa hle2 HRA HCM hroom
  go_wp2_with fail
  refine C1.out.mono ?_
  rintro e g3 ⟨y, cs, k, rfl, hM, hb, hh⟩
  have hk := more_behind codMachine hv HE.out N3.out hh
  subst hk
  clear hh
  obtain ⟨W0, hW0, hth, V3, hV, hx, hbx⟩ := box_put (w := g3) (t := 82) (zs := [.int .i64 0, .int .i64 0, .slice none 0 0, .slice none 0 0, .slice none 0 0, .slice none 0 0, .slice none 0 0, .slice none 0 0, .slice none 0 0, .int .i64 0]) (n := 10) rfl (kMachine.K_len (kMachine.K_of_M hM)) (by decide)
  have HINF := Lib.hid (show (Try.prog.info? 82).map (·.size) = some cs.toArray.size from by rw [List.size_toArray, kMachine.K_len (kMachine.K_of_M hM)]; kernel_rfl)
  have HON := Lib.hid (all_oneCell_toArray (kMachine.K_one (kMachine.K_of_M hM)))
  have hstep : Below w2.heap.size w2 V3 := hb.trans (hbx.mono hb.size)
  have ht := HT.out.trans (hstep.mono HT.out.size)
  have f := (hstep.block _ (blk_lt HY.out)).trans HY.out
  clear HY
  have HY := Lib.hid f
  clear f
  have f := HWT.out.trans (hstep.mono HWT.out.size)
  clear HWT
  have HWT := Lib.hid f
  clear f
  have HW0 := Lib.hid hW0
  have HV := Lib.hid hV
  have HTH := Lib.hid hth
  clear HT C1
  have HT := Lib.hid ht
  clear hW0 hV hth hx hbx hb hM ht hstep
  go_upto_region 10 with ((with_reducible refine gate_store (t := 82) rfl ?_); refine wpList_store_mid rfl 82 _ _ rfl g3.heap.size 0 cs.toArray rfl rfl (by rw [show g3.alloc (.cells #[.int .i64 0, .int .i64 0, .slice none 0 0, .slice none 0 0, .slice none 0 0, .slice none 0 0, .slice none 0 0, .slice none 0 0, .slice none 0 0, .int .i64 0] 82) = W0 from HW0.out]; exact HTH.out) HINF.out HON.out ?_; rw [show g3.alloc (.cells #[.int .i64 0, .int .i64 0, .slice none 0 0, .slice none 0 0, .slice none 0 0, .slice none 0 0, .slice none 0 0, .slice none 0 0, .slice none 0 0, .int .i64 0] 82) = W0 from HW0.out, show W0.setCells g3.heap.size 0 cs.toArray.toList = V3 from HV.out])
  clear HINF HON HW0 HV HTH W0
  have C4 := Lib.hid (awake_true V3)
  go_wp2_with fail
  refine C4.out.mono ?_
  rintro e w4 ⟨rfl, hb4⟩
  have q9 := cell_blk ((hb4.block _ (blk_lt HY.out)).trans HY.out) 9 _ rfl
  have hwt := HWT.out.trans (hb4.mono HWT.out.size)
  have p9 := cell_blk ((hwt.block _ (blk_lt HX.out)).trans HX.out) 9 _ rfl
  have HB4 := Lib.hid (HT.out.trans (hb4.mono HT.out.size))
  clear HT HY HWT hwt hb4 C4
  go_wp2
  refine bodyPost_ret (v := .bool true) (by rw [results_tmp Try.results13]; simp) rfl ⟨rfl, HB4.out⟩
end Go.Proofs.Ytoomcdgnnibjlaa.Wr
