/- Texts put together: LayF, LayG, RefPutMachine, WrE, WrF, PutMachine, LawWireMachines. -/
import Derived.Test.YtoomcdgnnibjlaaMmb
/- The document's writer: structs with rows of structs. -/
namespace Go.Proofs.Ytoomcdgnnibjlaa.Wr
open Go.RowKit Go.Proofs.YtoomcdgnnibjlaaW.PrintWords Go.Proofs.YtoomcdgnnibjlaaW.PrintLast
set_option linter.unusedVariables false
set_option linter.unusedSimpArgs false

set_option maxRecDepth 100000 in
set_option maxHeartbeats 16000000 in
theorem lay_Catalog (x : TCatalog) (A2 : Option Addr) (c2 : Nat) (A3 : Option Addr) (c3 : Nat) (A4 : Option Addr) (c4 : Nat) (A5 : Option Addr) (c5 : Nat) (A6 : Option Addr) (c6 : Nat) {w0 w : World} {g : Nat} {v : Value} {s0 : LSt} (h2 : kSchema.C w0 A2 x.2.2.1.1.length x.2.2.1.1) (h3 : kTable.C w0 A3 x.2.2.1.2.length x.2.2.1.2) (h4 : Kd.string.C w0 A4 x.2.2.2.1.1.length x.2.2.2.1.1) (h5 : kMember.C w0 A5 x.2.2.2.1.2.length x.2.2.2.1.2) (h6 : kGrant.C w0 A6 x.2.2.2.2.length x.2.2.2.2) (hS : LayAt w0 w g v s0) (hm : s0.1.length + wCatalog x < 140737488355328) :
    Calls Try.prog 57 #[.pointer (some ⟨g, 0, none⟩), .agg #[.int .i64 x.1, .int .i64 x.2.1, .slice A2 x.2.2.1.1.length c2, .slice A3 x.2.2.1.2.length c3, .slice A4 x.2.2.2.1.1.length c4, .slice A5 x.2.2.2.1.2.length c5, .slice A6 x.2.2.2.2.length c6]] w (LDone w0 g w (eCatalog x) (wCatalog x) s0) := by
  have hm' : s0.1.length + (4 + (4 + (wObjects x.2.2.1 + (((wList wText) x.2.2.2.1.1 + ((wList wMember) x.2.2.2.1.2)) + ((wList wGrant) x.2.2.2.2))))) < 140737488355328 := hm
  clear hm
  have hb0 : Below w.heap.size w (w.alloc (.cells #[.int .i64 x.1, .int .i64 x.2.1, .slice A2 x.2.2.1.1.length c2, .slice A3 x.2.2.1.2.length c3, .slice A4 x.2.2.2.1.1.length c4, .slice A5 x.2.2.2.1.2.length c5, .slice A6 x.2.2.2.2.length c6] 74)) := (Below.refl _ _).alloc (Nat.le_refl _) _
  have hx0 := blk_new w (.cells #[.int .i64 x.1, .int .i64 x.2.1, .slice A2 x.2.2.1.1.length c2, .slice A3 x.2.2.1.2.length c3, .slice A4 x.2.2.2.1.1.length c4, .slice A5 x.2.2.2.1.2.length c5, .slice A6 x.2.2.2.2.length c6] 74)
  obtain ⟨W0, hW0⟩ : ∃ W0, w.alloc (.cells #[.int .i64 x.1, .int .i64 x.2.1, .slice A2 x.2.2.1.1.length c2, .slice A3 x.2.2.1.2.length c3, .slice A4 x.2.2.2.1.1.length c4, .slice A5 x.2.2.2.1.2.length c5, .slice A6 x.2.2.2.2.length c6] 74) = W0 := ⟨_, rfl⟩
  rw [hW0] at hb0 hx0
  have S0 := Lib.hid (hS.stays hb0)
  have HB := Lib.hid hx0
  have T0 := Lib.hid (Stp.refl SL W0)
  have TW := Lib.hid (Stp.below (S := SL) hb0)
  have HW := Lib.hid hW0
  clear hb0 hx0 hW0 hS
  go_enter Try.func57, Try.ntmps57
  have q0 := cell_blk (T0.out.keep HB.out (by decide)) 0 _ rfl
  go_wp2_with fail
  rw [HW.out]
  clear HW
  clear q0
  refine (lay_number (x.1)   S0.out (by omega)).mono ?_
  rintro e w1 ⟨rfl, v1, s1, S1', T1', L1'⟩
  have hl1 : s1.1.length ≤ s0.1.length + (4) := by have := L1'.len; omega
  have S1 := Lib.hid S1'
  have T1 := Lib.hid (T0.out.trans T1')
  have L1 := Lib.hid L1'
  clear S1' T1' L1' S0 T0
  have q1 := cell_blk (T1.out.keep HB.out (by decide)) 1 _ rfl
  go_wp2_with fail
  clear q1
  refine (lay_number (x.2.1)   S1.out (by have := hl1; omega)).mono ?_
  rintro e w2 ⟨rfl, v2, s2, S2', T2', L2'⟩
  have hl2 : s2.1.length ≤ s0.1.length + (4 + (4)) := by have := L2'.len; have := hl1; omega
  clear hl1
  have S2 := Lib.hid S2'
  have T2 := Lib.hid (T1.out.trans T2')
  have L2 := Lib.hid L2'
  clear S2' T2' L2' S1 T1
  have q2 := cell_blk (T2.out.keep HB.out (by decide)) 2 _ rfl
  have q3 := cell_blk (T2.out.keep HB.out (by decide)) 3 _ rfl
  go_wp2_with fail
  clear q2 q3
  refine (lay_objects (x.2.2.1) A2 c2 A3 c3 h2 h3 S2.out (by have := hl2; omega)).mono ?_
  rintro e w3 ⟨rfl, v3, s3, S3', T3', L3'⟩
  have hl3 : s3.1.length ≤ s0.1.length + (4 + (4 + (wObjects x.2.2.1))) := by have := L3'.len; have := hl2; omega
  clear hl2
  have S3 := Lib.hid S3'
  have T3 := Lib.hid (T2.out.trans T3')
  have L3 := Lib.hid L3'
  clear S3' T3' L3' S2 T2
  have q4 := cell_blk (T3.out.keep HB.out (by decide)) 4 _ rfl
  go_wp2_with fail
  clear q4
  refine (lay_texts A4 c4 (l := x.2.2.2.1.1) h4 S3.out (by have := hl3; omega)).mono ?_
  rintro e w4 ⟨rfl, v4, s4, S4', T4', L4'⟩
  have hl4 : s4.1.length ≤ s0.1.length + (4 + (4 + (wObjects x.2.2.1 + ((wList wText) x.2.2.2.1.1)))) := by have := L4'.len; have := hl3; omega
  clear hl3
  have S4 := Lib.hid S4'
  have T4 := Lib.hid (T3.out.trans T4')
  have L4 := Lib.hid L4'
  clear S4' T4' L4' S3 T3
  have hr5 : s4.1.length + (wList wMember) x.2.2.2.1.2 < 140737488355328 := by have := hl4; omega
  have q5 := cell_blk (T4.out.keep HB.out (by decide)) 5 _ rfl
  have hx5 : x.2.2.2.1.2.length ≤ 9223372036854775807 := h5.2.1
  go_wp2_with fail
  clear q5
  refine (lay_many (x.2.2.2.1.2.length : Int) S4.out (many_room hr5)).mono ?_
  rintro e w5 ⟨b, rfl, v5, t5, S5', T5', hyes, hno⟩
  cases b with
  | false =>
    obtain ⟨L5, hne⟩ := LRel.list_no (e := eMember) (w := wMember) (hno rfl)
    have S5 := Lib.hid S5'
    have T5 := Lib.hid (T4.out.trans T5')
    have HN := Lib.hid hne
    have LN := Lib.hid L5
    clear S5' T5' hyes hno hne L5
    go_wp2
    first | go_end0 | refine bodyPost_ret (results_none rfl _ _ _) rfl ?_
    exact ⟨rfl, _, _, S5.out, TW.out.trans T5.out, LRel.seq L1.out (LRel.seq L2.out (LRel.seq L3.out (LRel.seq (LRel.seq L4.out LN.out) ((LRel.skip _ _ _ HN.out)))))⟩
  | true =>
    obtain ⟨_, h45, L5'⟩ := hyes rfl
    have n45 : ¬ 4096 < x.2.2.2.1.2.length := by omega
    have S5 := Lib.hid S5'
    have T5 := Lib.hid (T4.out.trans T5')
    have L5s := Lib.hid (LRel.list_start (e := eMember) (w := wMember) L5')
    clear S5' T5' L5' hyes hno S4
    have q5 := cell_blk (T5.out.keep HB.out (by decide)) 5 _ rfl
    go_wp2
    go_loopw [4] (fun i wr => ∃ k : Nat, k ≤ x.2.2.2.1.2.length ∧ i = .int .i64 k ∧ ∃ vr sr, LayAt w0 wr g vr sr ∧ Stp SL W0 wr ∧ LRel (cat (eNum x.2.2.2.1.2.length) (cats ((x.2.2.2.1.2.take k).map eMember))) (4 + wSum wMember (x.2.2.2.1.2.take k)) s4 sr) (fun i _ => x.2.2.2.1.2.length - (intOf i).toNat)
    case atStart => exact ⟨0, Nat.zero_le _, rfl, _, _, S5.out, T5.out, L5s.out⟩
    case round =>
      obtain ⟨k, hk, rfl, vr, s5, hS, hT, hL⟩ := hrel
      have SR := Lib.hid hS
      have TR := Lib.hid hT
      have LR := Lib.hid hL
      clear hS hT hL S5 T5 L5s q5
      have qb := cell_blk (TR.out.keep HB.out (by decide)) 5 _ rfl
      by_cases hlt : k < x.2.2.2.1.2.length
      · skip
        have hroom := LRel.list_room hlt n45 hr5 LR.out
        obtain ⟨ad, e0, g0, g1⟩ := atMember h5 k hlt
        cases e0
        have hroom' : s5.1.length + (wText x.2.2.2.1.2[k].1 + (wText x.2.2.2.1.2[k].2)) < 140737488355328 := hroom
        clear hroom
        have Z0 := Lib.hid SR.out
        have Y0 := Lib.hid TR.out
        have g0' := pw_cell_below Z0.out.below g0
        have qc := cell_blk (Y0.out.keep HB.out (by decide)) 5 _ rfl
        go_wp2_with fail
        clear g0' qc qb
        refine (lay_text (x.2.2.2.1.2[k].1) Z0.out (by omega)).mono ?_
        rintro e w' ⟨rfl, u1, z1, Z1', Y1', X1'⟩
        have y1 : z1.1.length ≤ s5.1.length + (wText x.2.2.2.1.2[k].1) := by have := X1'.len; omega
        have Z1 := Lib.hid Z1'
        have Y1 := Lib.hid (Y0.out.trans Y1')
        have X1 := Lib.hid X1'
        clear Z1' Y1' X1' Z0 Y0
        have g1' := pw_cell_below Z1.out.below g1
        have qc := cell_blk (Y1.out.keep HB.out (by decide)) 5 _ rfl
        go_wp2_with fail
        clear g1' qc
        refine (lay_text (x.2.2.2.1.2[k].2) Z1.out (by have := y1; omega)).mono ?_
        rintro e w' ⟨rfl, u2, z2, Z2', Y2', X2'⟩
        have y2 : z2.1.length ≤ s5.1.length + (wText x.2.2.2.1.2[k].1 + (wText x.2.2.2.1.2[k].2)) := by have := X2'.len; have := y1; omega
        have Z2 := Lib.hid Z2'
        have Y2 := Lib.hid (Y1.out.trans Y2')
        have X2 := Lib.hid X2'
        clear Z2' Y2' X2' Z1 Y1
        have LL := Lib.hid (LRel.list_step (e := eMember) (w := wMember) hlt LR.out (show LRel (eMember x.2.2.2.1.2[k]) (wMember x.2.2.2.1.2[k]) s5 z2 from LRel.seq X1.out (X2.out)))
        have S1 := Lib.hid Z2.out
        have T1 := Lib.hid Y2.out
        clear Z2 Y2 SR TR LR X1 y1 X2 y2
        go_wp2
        go_roundw
        case rel => exact ⟨k + 1, by omega, by simp, _, _, S1.out, T1.out, LL.out⟩
        case measure => simp [intOf]; omega
      · have hke : k = x.2.2.2.1.2.length := by omega
        have S5 := Lib.hid SR.out
        have T5 := Lib.hid TR.out
        have L5' := LRel.list_yes hke n45 LR.out
        have hl5 : s5.1.length ≤ s0.1.length + (4 + (4 + (wObjects x.2.2.1 + ((wList wText) x.2.2.2.1.1 + ((wList wMember) x.2.2.2.1.2))))) := by have := L5'.len; have := hl4; omega
        have L5 := Lib.hid L5'
        clear L5' SR TR LR
        clear hl4
        have hr6 : s5.1.length + (wList wGrant) x.2.2.2.2 < 140737488355328 := by have := hl5; omega
        have q6 := cell_blk (T5.out.keep HB.out (by decide)) 6 _ rfl
        have hx6 : x.2.2.2.2.length ≤ 9223372036854775807 := h6.2.1
        go_wp2_with fail
        clear qb
        clear q6
        refine (lay_many (x.2.2.2.2.length : Int) S5.out (many_room hr6)).mono ?_
        rintro e w6 ⟨b, rfl, v6, t6, S6', T6', hyes, hno⟩
        cases b with
        | false =>
          obtain ⟨L6, hne⟩ := LRel.list_no (e := eGrant) (w := wGrant) (hno rfl)
          have S6 := Lib.hid S6'
          have T6 := Lib.hid (T5.out.trans T6')
          have HN := Lib.hid hne
          have LN := Lib.hid L6
          clear S6' T6' hyes hno hne L6
          go_wp2
          first | go_end0 | refine bodyPost_ret (results_none rfl _ _ _) rfl ?_
          exact ⟨rfl, _, _, S6.out, TW.out.trans T6.out, LRel.seq L1.out (LRel.seq L2.out (LRel.seq L3.out (LRel.seq (LRel.seq L4.out L5.out) LN.out)))⟩
        | true =>
          obtain ⟨_, h46, L6'⟩ := hyes rfl
          have n46 : ¬ 4096 < x.2.2.2.2.length := by omega
          have S6 := Lib.hid S6'
          have T6 := Lib.hid (T5.out.trans T6')
          have L6s := Lib.hid (LRel.list_start (e := eGrant) (w := wGrant) L6')
          clear S6' T6' L6' hyes hno S5
          have q6 := cell_blk (T6.out.keep HB.out (by decide)) 6 _ rfl
          go_wp2
          go_loopw [5] (fun i wr => ∃ k : Nat, k ≤ x.2.2.2.2.length ∧ i = .int .i64 k ∧ ∃ vr sr, LayAt w0 wr g vr sr ∧ Stp SL W0 wr ∧ LRel (cat (eNum x.2.2.2.2.length) (cats ((x.2.2.2.2.take k).map eGrant))) (4 + wSum wGrant (x.2.2.2.2.take k)) s5 sr) (fun i _ => x.2.2.2.2.length - (intOf i).toNat)
          case atStart => exact ⟨0, Nat.zero_le _, rfl, _, _, S6.out, T6.out, L6s.out⟩
          case round =>
            obtain ⟨k, hk, rfl, vr, s6, hS, hT, hL⟩ := hrel
            have SR := Lib.hid hS
            have TR := Lib.hid hT
            have LR := Lib.hid hL
            clear hS hT hL S6 T6 L6s q6
            have qb := cell_blk (TR.out.keep HB.out (by decide)) 6 _ rfl
            by_cases hlt : k < x.2.2.2.2.length
            · skip
              have hroom := LRel.list_room hlt n46 hr6 LR.out
              obtain ⟨ad, e0, g0, g1, g2, g3, g4, g5⟩ := atGrant h6 k hlt
              cases e0
              have hroom' : s6.1.length + (wText x.2.2.2.2[k].1 + (wText x.2.2.2.2[k].2.1 + (4 + (wText x.2.2.2.2[k].2.2.2.1 + (wText x.2.2.2.2[k].2.2.2.2.1 + (1)))))) < 140737488355328 := hroom
              clear hroom
              have g0' := pw_cell_below SR.out.below g0
              clear g0
              have g1' := pw_cell_below SR.out.below g1
              clear g1
              have g2' := pw_cell_below SR.out.below g2
              clear g2
              have g3' := pw_cell_below SR.out.below g3
              clear g3
              have g4' := pw_cell_below SR.out.below g4
              clear g4
              have g5' := pw_cell_below SR.out.below g5
              clear g5
              obtain ⟨W1, hW1, Z0', TB', hz'⟩ := lay_box SR.out TR.out #[.string x.2.2.2.2[k].1, .string x.2.2.2.2[k].2.1, .int .i64 x.2.2.2.2[k].2.2.1, .string x.2.2.2.2[k].2.2.2.1, .string x.2.2.2.2[k].2.2.2.2.1, .bool x.2.2.2.2[k].2.2.2.2.2] 166
              have Z0 := Lib.hid Z0'
              have Y0 := Lib.hid (Stp.refl SL W1)
              have TB := Lib.hid TB'
              have HZ := Lib.hid hz'
              have HW1 := Lib.hid hW1
              clear Z0' TB' hz' hW1
              go_wp2_with fail
              rw [HW1.out]
              clear HW1 qb g0' g1' g2' g3' g4' g5'
              refine (lay_text (x.2.2.2.2[k].1) Z0.out (by omega)).mono ?_
              rintro e w' ⟨rfl, u1, z1, Z1', Y1', X1'⟩
              have y1 : z1.1.length ≤ s6.1.length + (wText x.2.2.2.2[k].1) := by have := X1'.len; omega
              have Z1 := Lib.hid Z1'
              have Y1 := Lib.hid (Y0.out.trans Y1')
              have X1 := Lib.hid X1'
              clear Z1' Y1' X1' Z0 Y0
              have q' := cell_blk (Y1.out.keep HZ.out (by decide)) 1 _ rfl
              go_wp2_with fail
              clear q'
              refine (lay_text (x.2.2.2.2[k].2.1) Z1.out (by have := y1; omega)).mono ?_
              rintro e w' ⟨rfl, u2, z2, Z2', Y2', X2'⟩
              have y2 : z2.1.length ≤ s6.1.length + (wText x.2.2.2.2[k].1 + (wText x.2.2.2.2[k].2.1)) := by have := X2'.len; have := y1; omega
              have Z2 := Lib.hid Z2'
              have Y2 := Lib.hid (Y1.out.trans Y2')
              have X2 := Lib.hid X2'
              clear Z2' Y2' X2' Z1 Y1
              have q' := cell_blk (Y2.out.keep HZ.out (by decide)) 2 _ rfl
              go_wp2_with fail
              clear q'
              refine (lay_number (x.2.2.2.2[k].2.2.1) Z2.out (by have := y2; omega)).mono ?_
              rintro e w' ⟨rfl, u3, z3, Z3', Y3', X3'⟩
              have y3 : z3.1.length ≤ s6.1.length + (wText x.2.2.2.2[k].1 + (wText x.2.2.2.2[k].2.1 + (4))) := by have := X3'.len; have := y2; omega
              have Z3 := Lib.hid Z3'
              have Y3 := Lib.hid (Y2.out.trans Y3')
              have X3 := Lib.hid X3'
              clear Z3' Y3' X3' Z2 Y2
              have q' := cell_blk (Y3.out.keep HZ.out (by decide)) 3 _ rfl
              go_wp2_with fail
              clear q'
              refine (lay_text (x.2.2.2.2[k].2.2.2.1) Z3.out (by have := y3; omega)).mono ?_
              rintro e w' ⟨rfl, u4, z4, Z4', Y4', X4'⟩
              have y4 : z4.1.length ≤ s6.1.length + (wText x.2.2.2.2[k].1 + (wText x.2.2.2.2[k].2.1 + (4 + (wText x.2.2.2.2[k].2.2.2.1)))) := by have := X4'.len; have := y3; omega
              have Z4 := Lib.hid Z4'
              have Y4 := Lib.hid (Y3.out.trans Y4')
              have X4 := Lib.hid X4'
              clear Z4' Y4' X4' Z3 Y3
              have q' := cell_blk (Y4.out.keep HZ.out (by decide)) 4 _ rfl
              go_wp2_with fail
              clear q'
              refine (lay_text (x.2.2.2.2[k].2.2.2.2.1) Z4.out (by have := y4; omega)).mono ?_
              rintro e w' ⟨rfl, u5, z5, Z5', Y5', X5'⟩
              have y5 : z5.1.length ≤ s6.1.length + (wText x.2.2.2.2[k].1 + (wText x.2.2.2.2[k].2.1 + (4 + (wText x.2.2.2.2[k].2.2.2.1 + (wText x.2.2.2.2[k].2.2.2.2.1))))) := by have := X5'.len; have := y4; omega
              have Z5 := Lib.hid Z5'
              have Y5 := Lib.hid (Y4.out.trans Y5')
              have X5 := Lib.hid X5'
              clear Z5' Y5' X5' Z4 Y4
              have q' := cell_blk (Y5.out.keep HZ.out (by decide)) 5 _ rfl
              go_wp2_with fail
              clear q'
              refine (lay_flag (x.2.2.2.2[k].2.2.2.2.2) Z5.out (by have := y5; omega)).mono ?_
              rintro e w' ⟨rfl, u6, z6, Z6', Y6', X6'⟩
              have y6 : z6.1.length ≤ s6.1.length + (wText x.2.2.2.2[k].1 + (wText x.2.2.2.2[k].2.1 + (4 + (wText x.2.2.2.2[k].2.2.2.1 + (wText x.2.2.2.2[k].2.2.2.2.1 + (1)))))) := by have := X6'.len; have := y5; omega
              have Z6 := Lib.hid Z6'
              have Y6 := Lib.hid (Y5.out.trans Y6')
              have X6 := Lib.hid X6'
              clear Z6' Y6' X6' Z5 Y5
              have LL := Lib.hid (LRel.list_step (e := eGrant) (w := wGrant) hlt LR.out (show LRel (eGrant x.2.2.2.2[k]) (wGrant x.2.2.2.2[k]) s6 z6 from LRel.seq X1.out (LRel.seq X2.out (LRel.seq X3.out (LRel.seq X4.out (LRel.seq X5.out (X6.out)))))))
              have S1 := Lib.hid Z6.out
              have T1 := Lib.hid (TB.out.trans Y6.out)
              clear Z6 Y6 SR TR LR X1 y1 X2 y2 X3 y3 X4 y4 X5 y5 X6 y6
              go_wp2
              go_roundw
              case rel => exact ⟨k + 1, by omega, by simp, _, _, S1.out, T1.out, LL.out⟩
              case measure => simp [intOf]; omega
            · have hke : k = x.2.2.2.2.length := by omega
              have S6 := Lib.hid SR.out
              have T6 := Lib.hid TR.out
              have L6' := LRel.list_yes hke n46 LR.out
              have hl6 : s6.1.length ≤ s0.1.length + (4 + (4 + (wObjects x.2.2.1 + ((wList wText) x.2.2.2.1.1 + ((wList wMember) x.2.2.2.1.2 + ((wList wGrant) x.2.2.2.2)))))) := by have := L6'.len; have := hl5; omega
              have L6 := Lib.hid L6'
              clear L6' SR TR LR
              clear hl5
              go_wp2
              clear qb
              try go_wp2
              go_end0
              exact ⟨rfl, _, _, S6.out, TW.out.trans T6.out, LRel.seq L1.out (LRel.seq L2.out (LRel.seq L3.out (LRel.seq (LRel.seq L4.out L5.out) L6.out)))⟩
end Go.Proofs.Ytoomcdgnnibjlaa.Wr
/- The document's writer: structs with rows of structs. -/
namespace Go.Proofs.Ytoomcdgnnibjlaa.Wr
open Go.RowKit Go.Proofs.YtoomcdgnnibjlaaW.PrintWords Go.Proofs.YtoomcdgnnibjlaaW.PrintLast
set_option linter.unusedVariables false
set_option linter.unusedSimpArgs false

set_option maxRecDepth 100000 in
set_option maxHeartbeats 16000000 in
theorem lay_Machine (x : TMachine) (A2 : Option Addr) (c2 : Nat) (A3 : Option Addr) (c3 : Nat) (A4 : Option Addr) (c4 : Nat) (A5 : Option Addr) (c5 : Nat) (A6 : Option Addr) (c6 : Nat) (A7 : Option Addr) (c7 : Nat) (A8 : Option Addr) (c8 : Nat) {w0 w : World} {g : Nat} {v : Value} {s0 : LSt} (h2 : kSchema.C w0 A2 x.1.2.2.1.1.length x.1.2.2.1.1) (h3 : kTable.C w0 A3 x.1.2.2.1.2.length x.1.2.2.1.2) (h4 : Kd.string.C w0 A4 x.1.2.2.2.1.1.length x.1.2.2.2.1.1) (h5 : kMember.C w0 A5 x.1.2.2.2.1.2.length x.1.2.2.2.1.2) (h6 : kGrant.C w0 A6 x.1.2.2.2.2.length x.1.2.2.2.2) (h7 : kDone.C w0 A7 x.2.1.length x.2.1) (h8 : kLease.C w0 A8 x.2.2.1.length x.2.2.1) (hS : LayAt w0 w g v s0) (hm : s0.1.length + wMachine x < 140737488355328) :
    Calls Try.prog 63 #[.pointer (some ⟨g, 0, none⟩), .agg #[.int .i64 x.1.1, .int .i64 x.1.2.1, .slice A2 x.1.2.2.1.1.length c2, .slice A3 x.1.2.2.1.2.length c3, .slice A4 x.1.2.2.2.1.1.length c4, .slice A5 x.1.2.2.2.1.2.length c5, .slice A6 x.1.2.2.2.2.length c6, .slice A7 x.2.1.length c7, .slice A8 x.2.2.1.length c8, .int .i64 x.2.2.2]] w (LDone w0 g w (eMachine x) (wMachine x) s0) := by
  have hm' : s0.1.length + (wCatalog x.1 + ((wList wDone) x.2.1 + ((wList wLease) x.2.2.1 + (4)))) < 140737488355328 := hm
  clear hm
  have hb0 : Below w.heap.size w (w.alloc (.cells #[.int .i64 x.1.1, .int .i64 x.1.2.1, .slice A2 x.1.2.2.1.1.length c2, .slice A3 x.1.2.2.1.2.length c3, .slice A4 x.1.2.2.2.1.1.length c4, .slice A5 x.1.2.2.2.1.2.length c5, .slice A6 x.1.2.2.2.2.length c6, .slice A7 x.2.1.length c7, .slice A8 x.2.2.1.length c8, .int .i64 x.2.2.2] 82)) := (Below.refl _ _).alloc (Nat.le_refl _) _
  have hx0 := blk_new w (.cells #[.int .i64 x.1.1, .int .i64 x.1.2.1, .slice A2 x.1.2.2.1.1.length c2, .slice A3 x.1.2.2.1.2.length c3, .slice A4 x.1.2.2.2.1.1.length c4, .slice A5 x.1.2.2.2.1.2.length c5, .slice A6 x.1.2.2.2.2.length c6, .slice A7 x.2.1.length c7, .slice A8 x.2.2.1.length c8, .int .i64 x.2.2.2] 82)
  obtain ⟨W0, hW0⟩ : ∃ W0, w.alloc (.cells #[.int .i64 x.1.1, .int .i64 x.1.2.1, .slice A2 x.1.2.2.1.1.length c2, .slice A3 x.1.2.2.1.2.length c3, .slice A4 x.1.2.2.2.1.1.length c4, .slice A5 x.1.2.2.2.1.2.length c5, .slice A6 x.1.2.2.2.2.length c6, .slice A7 x.2.1.length c7, .slice A8 x.2.2.1.length c8, .int .i64 x.2.2.2] 82) = W0 := ⟨_, rfl⟩
  rw [hW0] at hb0 hx0
  have S0 := Lib.hid (hS.stays hb0)
  have HB := Lib.hid hx0
  have T0 := Lib.hid (Stp.refl SL W0)
  have TW := Lib.hid (Stp.below (S := SL) hb0)
  have HW := Lib.hid hW0
  clear hb0 hx0 hW0 hS
  go_enter Try.func63, Try.ntmps63
  have HR0 := Lib.hid (range_blk [] [.int .i64 x.1.1, .int .i64 x.1.2.1, .slice A2 x.1.2.2.1.1.length c2, .slice A3 x.1.2.2.1.2.length c3, .slice A4 x.1.2.2.2.1.1.length c4, .slice A5 x.1.2.2.2.1.2.length c5, .slice A6 x.1.2.2.2.2.length c6] [.slice A7 x.2.1.length c7, .slice A8 x.2.2.1.length c8, .int .i64 x.2.2.2] (T0.out.keep HB.out (by decide)))
  go_wp2_with (((with_reducible refine gate_load (t := 74) rfl ?_); refine wpList_load_mid rfl 74 _ rfl w.heap.size 0 rfl [.int .i64 x.1.1, .int .i64 x.1.2.1, .slice A2 x.1.2.2.1.1.length c2, .slice A3 x.1.2.2.1.2.length c3, .slice A4 x.1.2.2.2.1.1.length c4, .slice A5 x.1.2.2.2.1.2.length c5, .slice A6 x.1.2.2.2.2.length c6] _ HR0.out Try.underlying74 rfl (by kernel_rfl) ?_))
  rw [HW.out]
  clear HW
  clear HR0
  refine (lay_Catalog (x.1) A2 c2 A3 c3 A4 c4 A5 c5 A6 c6 h2 h3 h4 h5 h6 S0.out (by omega)).mono ?_
  rintro e w1 ⟨rfl, v1, s1, S1', T1', L1'⟩
  have hl1 : s1.1.length ≤ s0.1.length + (wCatalog x.1) := by have := L1'.len; omega
  have S1 := Lib.hid S1'
  have T1 := Lib.hid (T0.out.trans T1')
  have L1 := Lib.hid L1'
  clear S1' T1' L1' S0 T0
  have hr2 : s1.1.length + (wList wDone) x.2.1 < 140737488355328 := by have := hl1; omega
  have q7 := cell_blk (T1.out.keep HB.out (by decide)) 7 _ rfl
  have hx2 : x.2.1.length ≤ 9223372036854775807 := h7.2.1
  go_wp2_with fail
  clear q7
  refine (lay_many (x.2.1.length : Int) S1.out (many_room hr2)).mono ?_
  rintro e w2 ⟨b, rfl, v2, t2, S2', T2', hyes, hno⟩
  cases b with
  | false =>
    obtain ⟨L2, hne⟩ := LRel.list_no (e := eDone) (w := wDone) (hno rfl)
    have S2 := Lib.hid S2'
    have T2 := Lib.hid (T1.out.trans T2')
    have HN := Lib.hid hne
    have LN := Lib.hid L2
    clear S2' T2' hyes hno hne L2
    go_wp2
    first | go_end0 | refine bodyPost_ret (results_none rfl _ _ _) rfl ?_
    exact ⟨rfl, _, _, S2.out, TW.out.trans T2.out, LRel.seq L1.out (LRel.seq LN.out (LRel.seq (LRel.skip _ _ _ HN.out) ((LRel.skip _ _ _ HN.out))))⟩
  | true =>
    obtain ⟨_, h42, L2'⟩ := hyes rfl
    have n42 : ¬ 4096 < x.2.1.length := by omega
    have S2 := Lib.hid S2'
    have T2 := Lib.hid (T1.out.trans T2')
    have L2s := Lib.hid (LRel.list_start (e := eDone) (w := wDone) L2')
    clear S2' T2' L2' hyes hno S1
    have q7 := cell_blk (T2.out.keep HB.out (by decide)) 7 _ rfl
    go_wp2
    go_loopw [4] (fun i wr => ∃ k : Nat, k ≤ x.2.1.length ∧ i = .int .i64 k ∧ ∃ vr sr, LayAt w0 wr g vr sr ∧ Stp SL W0 wr ∧ LRel (cat (eNum x.2.1.length) (cats ((x.2.1.take k).map eDone))) (4 + wSum wDone (x.2.1.take k)) s1 sr) (fun i _ => x.2.1.length - (intOf i).toNat)
    case atStart => exact ⟨0, Nat.zero_le _, rfl, _, _, S2.out, T2.out, L2s.out⟩
    case round =>
      obtain ⟨k, hk, rfl, vr, s2, hS, hT, hL⟩ := hrel
      have SR := Lib.hid hS
      have TR := Lib.hid hT
      have LR := Lib.hid hL
      clear hS hT hL S2 T2 L2s q7
      have qb := cell_blk (TR.out.keep HB.out (by decide)) 7 _ rfl
      by_cases hlt : k < x.2.1.length
      · skip
        have hroom := LRel.list_room hlt n42 hr2 LR.out
        obtain ⟨ad, e0, g0, g1, g2, g3, g4⟩ := atDone h7 k hlt
        cases e0
        have hroom' : s2.1.length + (4 + (4 + (4 + (4 + (4))))) < 140737488355328 := hroom
        clear hroom
        have g0' := pw_cell_below SR.out.below g0
        clear g0
        have g1' := pw_cell_below SR.out.below g1
        clear g1
        have g2' := pw_cell_below SR.out.below g2
        clear g2
        have g3' := pw_cell_below SR.out.below g3
        clear g3
        have g4' := pw_cell_below SR.out.below g4
        clear g4
        obtain ⟨W1, hW1, Z0', TB', hz'⟩ := lay_box SR.out TR.out #[.int .i64 x.2.1[k].1, .int .i64 x.2.1[k].2.1, .int .i64 x.2.1[k].2.2.1, .int .i64 x.2.1[k].2.2.2.1, .int .i64 x.2.1[k].2.2.2.2] 203
        have Z0 := Lib.hid Z0'
        have Y0 := Lib.hid (Stp.refl SL W1)
        have TB := Lib.hid TB'
        have HZ := Lib.hid hz'
        have HW1 := Lib.hid hW1
        clear Z0' TB' hz' hW1
        go_wp2_with fail
        rw [HW1.out]
        clear HW1 qb g0' g1' g2' g3' g4'
        refine (lay_number (x.2.1[k].1) Z0.out (by omega)).mono ?_
        rintro e w' ⟨rfl, u1, z1, Z1', Y1', X1'⟩
        have y1 : z1.1.length ≤ s2.1.length + (4) := by have := X1'.len; omega
        have Z1 := Lib.hid Z1'
        have Y1 := Lib.hid (Y0.out.trans Y1')
        have X1 := Lib.hid X1'
        clear Z1' Y1' X1' Z0 Y0
        have q' := cell_blk (Y1.out.keep HZ.out (by decide)) 1 _ rfl
        go_wp2_with fail
        clear q'
        refine (lay_number (x.2.1[k].2.1) Z1.out (by have := y1; omega)).mono ?_
        rintro e w' ⟨rfl, u2, z2, Z2', Y2', X2'⟩
        have y2 : z2.1.length ≤ s2.1.length + (4 + (4)) := by have := X2'.len; have := y1; omega
        have Z2 := Lib.hid Z2'
        have Y2 := Lib.hid (Y1.out.trans Y2')
        have X2 := Lib.hid X2'
        clear Z2' Y2' X2' Z1 Y1
        have q' := cell_blk (Y2.out.keep HZ.out (by decide)) 2 _ rfl
        go_wp2_with fail
        clear q'
        refine (lay_number (x.2.1[k].2.2.1) Z2.out (by have := y2; omega)).mono ?_
        rintro e w' ⟨rfl, u3, z3, Z3', Y3', X3'⟩
        have y3 : z3.1.length ≤ s2.1.length + (4 + (4 + (4))) := by have := X3'.len; have := y2; omega
        have Z3 := Lib.hid Z3'
        have Y3 := Lib.hid (Y2.out.trans Y3')
        have X3 := Lib.hid X3'
        clear Z3' Y3' X3' Z2 Y2
        have q' := cell_blk (Y3.out.keep HZ.out (by decide)) 3 _ rfl
        go_wp2_with fail
        clear q'
        refine (lay_number (x.2.1[k].2.2.2.1) Z3.out (by have := y3; omega)).mono ?_
        rintro e w' ⟨rfl, u4, z4, Z4', Y4', X4'⟩
        have y4 : z4.1.length ≤ s2.1.length + (4 + (4 + (4 + (4)))) := by have := X4'.len; have := y3; omega
        have Z4 := Lib.hid Z4'
        have Y4 := Lib.hid (Y3.out.trans Y4')
        have X4 := Lib.hid X4'
        clear Z4' Y4' X4' Z3 Y3
        have q' := cell_blk (Y4.out.keep HZ.out (by decide)) 4 _ rfl
        go_wp2_with fail
        clear q'
        refine (lay_number (x.2.1[k].2.2.2.2) Z4.out (by have := y4; omega)).mono ?_
        rintro e w' ⟨rfl, u5, z5, Z5', Y5', X5'⟩
        have y5 : z5.1.length ≤ s2.1.length + (4 + (4 + (4 + (4 + (4))))) := by have := X5'.len; have := y4; omega
        have Z5 := Lib.hid Z5'
        have Y5 := Lib.hid (Y4.out.trans Y5')
        have X5 := Lib.hid X5'
        clear Z5' Y5' X5' Z4 Y4
        have LL := Lib.hid (LRel.list_step (e := eDone) (w := wDone) hlt LR.out (show LRel (eDone x.2.1[k]) (wDone x.2.1[k]) s2 z5 from LRel.seq X1.out (LRel.seq X2.out (LRel.seq X3.out (LRel.seq X4.out (X5.out))))))
        have S1 := Lib.hid Z5.out
        have T1 := Lib.hid (TB.out.trans Y5.out)
        clear Z5 Y5 SR TR LR X1 y1 X2 y2 X3 y3 X4 y4 X5 y5
        go_wp2
        go_roundw
        case rel => exact ⟨k + 1, by omega, by simp, _, _, S1.out, T1.out, LL.out⟩
        case measure => simp [intOf]; omega
      · have hke : k = x.2.1.length := by omega
        have S2 := Lib.hid SR.out
        have T2 := Lib.hid TR.out
        have L2' := LRel.list_yes hke n42 LR.out
        have hl2 : s2.1.length ≤ s0.1.length + (wCatalog x.1 + ((wList wDone) x.2.1)) := by have := L2'.len; have := hl1; omega
        have L2 := Lib.hid L2'
        clear L2' SR TR LR
        clear hl1
        have hr3 : s2.1.length + (wList wLease) x.2.2.1 < 140737488355328 := by have := hl2; omega
        have q8 := cell_blk (T2.out.keep HB.out (by decide)) 8 _ rfl
        have hx3 : x.2.2.1.length ≤ 9223372036854775807 := h8.2.1
        go_wp2_with fail
        clear qb
        clear q8
        refine (lay_many (x.2.2.1.length : Int) S2.out (many_room hr3)).mono ?_
        rintro e w3 ⟨b, rfl, v3, t3, S3', T3', hyes, hno⟩
        cases b with
        | false =>
          obtain ⟨L3, hne⟩ := LRel.list_no (e := eLease) (w := wLease) (hno rfl)
          have S3 := Lib.hid S3'
          have T3 := Lib.hid (T2.out.trans T3')
          have HN := Lib.hid hne
          have LN := Lib.hid L3
          clear S3' T3' hyes hno hne L3
          go_wp2
          first | go_end0 | refine bodyPost_ret (results_none rfl _ _ _) rfl ?_
          exact ⟨rfl, _, _, S3.out, TW.out.trans T3.out, LRel.seq L1.out (LRel.seq L2.out (LRel.seq LN.out ((LRel.skip _ _ _ HN.out))))⟩
        | true =>
          obtain ⟨_, h43, L3'⟩ := hyes rfl
          have n43 : ¬ 4096 < x.2.2.1.length := by omega
          have S3 := Lib.hid S3'
          have T3 := Lib.hid (T2.out.trans T3')
          have L3s := Lib.hid (LRel.list_start (e := eLease) (w := wLease) L3')
          clear S3' T3' L3' hyes hno S2
          have q8 := cell_blk (T3.out.keep HB.out (by decide)) 8 _ rfl
          go_wp2
          go_loopw [6] (fun i wr => ∃ k : Nat, k ≤ x.2.2.1.length ∧ i = .int .i64 k ∧ ∃ vr sr, LayAt w0 wr g vr sr ∧ Stp SL W0 wr ∧ LRel (cat (eNum x.2.2.1.length) (cats ((x.2.2.1.take k).map eLease))) (4 + wSum wLease (x.2.2.1.take k)) s2 sr) (fun i _ => x.2.2.1.length - (intOf i).toNat)
          case atStart => exact ⟨0, Nat.zero_le _, rfl, _, _, S3.out, T3.out, L3s.out⟩
          case round =>
            obtain ⟨k, hk, rfl, vr, s3, hS, hT, hL⟩ := hrel
            have SR := Lib.hid hS
            have TR := Lib.hid hT
            have LR := Lib.hid hL
            clear hS hT hL S3 T3 L3s q8
            have qb := cell_blk (TR.out.keep HB.out (by decide)) 8 _ rfl
            by_cases hlt : k < x.2.2.1.length
            · skip
              have hroom := LRel.list_room hlt n43 hr3 LR.out
              obtain ⟨ad, e0, g0, g1, g2, g3⟩ := atLease h8 k hlt
              cases e0
              have hroom' : s3.1.length + (4 + (4 + (4 + (4)))) < 140737488355328 := hroom
              clear hroom
              have g0' := pw_cell_below SR.out.below g0
              clear g0
              have g1' := pw_cell_below SR.out.below g1
              clear g1
              have g2' := pw_cell_below SR.out.below g2
              clear g2
              have g3' := pw_cell_below SR.out.below g3
              clear g3
              obtain ⟨W1, hW1, Z0', TB', hz'⟩ := lay_box SR.out TR.out #[.int .i64 x.2.2.1[k].1, .int .i64 x.2.2.1[k].2.1, .int .i64 x.2.2.1[k].2.2.1, .int .i64 x.2.2.1[k].2.2.2] 205
              have Z0 := Lib.hid Z0'
              have Y0 := Lib.hid (Stp.refl SL W1)
              have TB := Lib.hid TB'
              have HZ := Lib.hid hz'
              have HW1 := Lib.hid hW1
              clear Z0' TB' hz' hW1
              go_wp2_with fail
              rw [HW1.out]
              clear HW1 qb g0' g1' g2' g3'
              refine (lay_number (x.2.2.1[k].1) Z0.out (by omega)).mono ?_
              rintro e w' ⟨rfl, u1, z1, Z1', Y1', X1'⟩
              have y1 : z1.1.length ≤ s3.1.length + (4) := by have := X1'.len; omega
              have Z1 := Lib.hid Z1'
              have Y1 := Lib.hid (Y0.out.trans Y1')
              have X1 := Lib.hid X1'
              clear Z1' Y1' X1' Z0 Y0
              have q' := cell_blk (Y1.out.keep HZ.out (by decide)) 1 _ rfl
              go_wp2_with fail
              clear q'
              refine (lay_number (x.2.2.1[k].2.1) Z1.out (by have := y1; omega)).mono ?_
              rintro e w' ⟨rfl, u2, z2, Z2', Y2', X2'⟩
              have y2 : z2.1.length ≤ s3.1.length + (4 + (4)) := by have := X2'.len; have := y1; omega
              have Z2 := Lib.hid Z2'
              have Y2 := Lib.hid (Y1.out.trans Y2')
              have X2 := Lib.hid X2'
              clear Z2' Y2' X2' Z1 Y1
              have q' := cell_blk (Y2.out.keep HZ.out (by decide)) 2 _ rfl
              go_wp2_with fail
              clear q'
              refine (lay_number (x.2.2.1[k].2.2.1) Z2.out (by have := y2; omega)).mono ?_
              rintro e w' ⟨rfl, u3, z3, Z3', Y3', X3'⟩
              have y3 : z3.1.length ≤ s3.1.length + (4 + (4 + (4))) := by have := X3'.len; have := y2; omega
              have Z3 := Lib.hid Z3'
              have Y3 := Lib.hid (Y2.out.trans Y3')
              have X3 := Lib.hid X3'
              clear Z3' Y3' X3' Z2 Y2
              have q' := cell_blk (Y3.out.keep HZ.out (by decide)) 3 _ rfl
              go_wp2_with fail
              clear q'
              refine (lay_number (x.2.2.1[k].2.2.2) Z3.out (by have := y3; omega)).mono ?_
              rintro e w' ⟨rfl, u4, z4, Z4', Y4', X4'⟩
              have y4 : z4.1.length ≤ s3.1.length + (4 + (4 + (4 + (4)))) := by have := X4'.len; have := y3; omega
              have Z4 := Lib.hid Z4'
              have Y4 := Lib.hid (Y3.out.trans Y4')
              have X4 := Lib.hid X4'
              clear Z4' Y4' X4' Z3 Y3
              have LL := Lib.hid (LRel.list_step (e := eLease) (w := wLease) hlt LR.out (show LRel (eLease x.2.2.1[k]) (wLease x.2.2.1[k]) s3 z4 from LRel.seq X1.out (LRel.seq X2.out (LRel.seq X3.out (X4.out)))))
              have S1 := Lib.hid Z4.out
              have T1 := Lib.hid (TB.out.trans Y4.out)
              clear Z4 Y4 SR TR LR X1 y1 X2 y2 X3 y3 X4 y4
              go_wp2
              go_roundw
              case rel => exact ⟨k + 1, by omega, by simp, _, _, S1.out, T1.out, LL.out⟩
              case measure => simp [intOf]; omega
            · have hke : k = x.2.2.1.length := by omega
              have S3 := Lib.hid SR.out
              have T3 := Lib.hid TR.out
              have L3' := LRel.list_yes hke n43 LR.out
              have hl3 : s3.1.length ≤ s0.1.length + (wCatalog x.1 + ((wList wDone) x.2.1 + ((wList wLease) x.2.2.1))) := by have := L3'.len; have := hl2; omega
              have L3 := Lib.hid L3'
              clear L3' SR TR LR
              clear hl2
              have q9 := cell_blk (T3.out.keep HB.out (by decide)) 9 _ rfl
              go_wp2_with fail
              clear qb
              clear q9
              refine (lay_number (x.2.2.2)   S3.out (by have := hl3; omega)).mono ?_
              rintro e w4 ⟨rfl, v4, s4, S4', T4', L4'⟩
              have hl4 : s4.1.length ≤ s0.1.length + (wCatalog x.1 + ((wList wDone) x.2.1 + ((wList wLease) x.2.2.1 + (4)))) := by have := L4'.len; have := hl3; omega
              clear hl3
              have S4 := Lib.hid S4'
              have T4 := Lib.hid (T3.out.trans T4')
              have L4 := Lib.hid L4'
              clear S4' T4' L4' S3 T3
              try go_wp2
              go_end0
              exact ⟨rfl, _, _, S4.out, TW.out.trans T4.out, LRel.seq L1.out (LRel.seq L2.out (LRel.seq L3.out L4.out))⟩
end Go.Proofs.Ytoomcdgnnibjlaa.Wr
/- The document's bytes of a machine, or the first fault. -/
namespace Go.Proofs.Ytoomcdgnnibjlaa.Wr
open Go.RowKit Go.Proofs.YtoomcdgnnibjlaaW.PrintWords Go.Proofs.YtoomcdgnnibjlaaW.PrintLast
set_option linter.unusedVariables false
set_option linter.unusedSimpArgs false


set_option maxRecDepth 100000 in
set_option maxHeartbeats 16000000 in
theorem ref_PutMachine (x : TMachine) (A2 : Option Addr) (c2 : Nat) (A3 : Option Addr) (c3 : Nat) (A4 : Option Addr) (c4 : Nat) (A5 : Option Addr) (c5 : Nat) (A6 : Option Addr) (c6 : Nat) (A7 : Option Addr) (c7 : Nat) (A8 : Option Addr) (c8 : Nat) (w : World) (h2 : kSchema.C w A2 x.1.2.2.1.1.length x.1.2.2.1.1) (h3 : kTable.C w A3 x.1.2.2.1.2.length x.1.2.2.1.2) (h4 : Kd.string.C w A4 x.1.2.2.2.1.1.length x.1.2.2.2.1.1) (h5 : kMember.C w A5 x.1.2.2.2.1.2.length x.1.2.2.2.1.2) (h6 : kGrant.C w A6 x.1.2.2.2.2.length x.1.2.2.2.2) (h7 : kDone.C w A7 x.2.1.length x.2.1) (h8 : kLease.C w A8 x.2.2.1.length x.2.2.1) (hm : wMachine x < 140737488355328) : Calls Try.prog 33 #[.agg #[.int .i64 x.1.1, .int .i64 x.1.2.1, .slice A2 x.1.2.2.1.1.length c2, .slice A3 x.1.2.2.1.2.length c3, .slice A4 x.1.2.2.2.1.1.length c4, .slice A5 x.1.2.2.2.1.2.length c5, .slice A6 x.1.2.2.2.2.length c6, .slice A7 x.2.1.length c7, .slice A8 x.2.2.1.length c8, .int .i64 x.2.2.2]] w (PutTold w (eMachine x)) := by
  obtain ⟨W, hW⟩ : ∃ W, (w.alloc (.cells #[.int .i64 x.1.1, .int .i64 x.1.2.1, .slice A2 x.1.2.2.1.1.length c2, .slice A3 x.1.2.2.1.2.length c3, .slice A4 x.1.2.2.2.1.1.length c4, .slice A5 x.1.2.2.2.1.2.length c5, .slice A6 x.1.2.2.2.2.length c6, .slice A7 x.2.1.length c7, .slice A8 x.2.2.1.length c8, .int .i64 x.2.2.2] 82)).alloc (.cells #[.slice none 0 0, .int .i64 0] 91) = W := ⟨_, rfl⟩
  have hb : Below w.heap.size w W := by rw [← hW]; exact ((Below.refl _ _).alloc (Nat.le_refl _) _).alloc (by simp) _
  have hg : W.heap[w.heap.size + 1]? = some (.cells #[.slice none 0 0, .int .i64 0] 91) := by
    rw [← hW]; have := blk_new (w.alloc (.cells #[.int .i64 x.1.1, .int .i64 x.1.2.1, .slice A2 x.1.2.2.1.1.length c2, .slice A3 x.1.2.2.1.2.length c3, .slice A4 x.1.2.2.2.1.1.length c4, .slice A5 x.1.2.2.2.1.2.length c5, .slice A6 x.1.2.2.2.2.length c6, .slice A7 x.2.1.length c7, .slice A8 x.2.2.1.length c8, .int .i64 x.2.2.2] 82)) (.cells #[.slice none 0 0, .int .i64 0] 91); rwa [World.size_alloc] at this
  have hL : LayAt w W (w.heap.size + 1) (.slice none 0 0) ([], 0) := ⟨by omega, hb, hg, Kd.R_nil _ _ _ _ _⟩
  have C1 := Lib.hid (lay_Machine x A2 c2 A3 c3 A4 c4 A5 c5 A6 c6 A7 c7 A8 c8 h2 h3 h4 h5 h6 h7 h8 hL (by simpa using hm))
  have hx0 : ((w.alloc (.cells #[.int .i64 x.1.1, .int .i64 x.1.2.1, .slice A2 x.1.2.2.1.1.length c2, .slice A3 x.1.2.2.1.2.length c3, .slice A4 x.1.2.2.2.1.1.length c4, .slice A5 x.1.2.2.2.1.2.length c5, .slice A6 x.1.2.2.2.2.length c6, .slice A7 x.2.1.length c7, .slice A8 x.2.2.1.length c8, .int .i64 x.2.2.2] 82)).alloc (.cells #[.slice none 0 0, .int .i64 0] 91)).heap[w.heap.size]? = some (.cells #[.int .i64 x.1.1, .int .i64 x.1.2.1, .slice A2 x.1.2.2.1.1.length c2, .slice A3 x.1.2.2.1.2.length c3, .slice A4 x.1.2.2.2.1.1.length c4, .slice A5 x.1.2.2.2.1.2.length c5, .slice A6 x.1.2.2.2.2.length c6, .slice A7 x.2.1.length c7, .slice A8 x.2.2.1.length c8, .int .i64 x.2.2.2] 82 (0, 0)) :=
    (Below.heap_alloc _ _ _ (by simp)).trans (blk_new w _)
  have HR := Lib.hid (range_blk [] [.int .i64 x.1.1, .int .i64 x.1.2.1, .slice A2 x.1.2.2.1.1.length c2, .slice A3 x.1.2.2.1.2.length c3, .slice A4 x.1.2.2.2.1.1.length c4, .slice A5 x.1.2.2.2.1.2.length c5, .slice A6 x.1.2.2.2.2.length c6, .slice A7 x.2.1.length c7, .slice A8 x.2.2.1.length c8, .int .i64 x.2.2.2] [] hx0)
  have HW := Lib.hid hW
  clear hb hg hL hW hx0 h2 h3 h4 h5 h6 h7 h8
  go_enter Try.func33, Try.ntmps33
  go_wp2_with (((with_reducible refine gate_load (t := 82) rfl ?_); refine wpList_load_mid rfl 82 _ rfl w.heap.size 0 rfl [.int .i64 x.1.1, .int .i64 x.1.2.1, .slice A2 x.1.2.2.1.1.length c2, .slice A3 x.1.2.2.1.2.length c3, .slice A4 x.1.2.2.2.1.1.length c4, .slice A5 x.1.2.2.2.1.2.length c5, .slice A6 x.1.2.2.2.2.length c6, .slice A7 x.2.1.length c7, .slice A8 x.2.2.1.length c8, .int .i64 x.2.2.2] _ HR.out Try.underlying82 rfl (by kernel_rfl) ?_))
  rw [HW.out]
  refine C1.out.mono ?_
  rintro e w1 ⟨rfl, v1, s1, S1, T1, L1⟩
  have C2 := Lib.hid (told_out S1 L1)
  have B1 := S1.below
  clear C1 HW S1 T1 L1
  go_wp2_with fail
  refine C2.out.mono ?_
  rintro e w2 ⟨v2, rfl, R2, hb2⟩
  clear C2
  go_wp2
  go_ret2
  exact ⟨v2, rfl, R2, B1.trans (hb2.mono B1.size)⟩
end Go.Proofs.Ytoomcdgnnibjlaa.Wr
/- The program's writer. -/
namespace Go.Proofs.Ytoomcdgnnibjlaa.Wr
open Go.RowKit Go.Proofs.YtoomcdgnnibjlaaW.PrintWords Go.Proofs.YtoomcdgnnibjlaaW.PrintLast
set_option linter.unusedVariables false
set_option linter.unusedSimpArgs false

set_option maxRecDepth 100000 in
set_option maxHeartbeats 16000000 in
theorem wr_many_Rule (A : Option Addr) (c : Nat) {l : List TRule} {w0 w : World} {g : Nat} {v : Value} {z0 : Bs} (h0 : kRule.C w0 A l.length l) (hS : WAt w0 w g v z0) (hr : z0.length + wList wRule l < 140737488355328) :
    Calls Try.prog 158 #[.pointer (some ⟨g, 0, none⟩), .slice A l.length c, .func (.func 90) #[] #[]] w (WDone w0 g w (eList eRule l) z0) := by
  have hx1 : l.length ≤ 9223372036854775807 := h0.2.1
  have S0 := Lib.hid hS
  clear hS
  by_cases h4 : 4096 < l.length
  · have HE := Lib.hid (show eList eRule l = .error 2 from if_pos h4)
    have h4' : (4096 : Int) < (l.length : Int) := by omega
    clear h4 hr
    go_enter Try.func158, Try.ntmps158
    go_wp2
    exact ⟨rfl, .inr ⟨2, HE.out, rfl, S0.out.below, Stp.refl _ _⟩⟩
  · have hlen : eList eRule l = cat (eNum l.length) (cats (l.map eRule)) := if_neg h4
    have hnum : eNum (l.length : Int) = .ok (lows (l.length : Int) 4) := if_pos ⟨by omega, by omega⟩
    have hwl : wList wRule l = 4 + wSum wRule l := if_neg h4
    rw [hwl] at hr
    rw [hnum] at hlen
    clear hwl
    have HL := Lib.hid hlen
    have HN := Lib.hid hnum
    clear hlen hnum
    have h4' : (l.length : Int) ≤ 4096 := by omega
    go_enter Try.func158, Try.ntmps158
    go_wp2_with fail
    refine (wr_number (l.length : Int) S0.out (by omega)).mono ?_
    rintro e w1 (⟨b1, hb1, rfl, v1, S1', T1'⟩ | ⟨c1, hc1, _⟩)
    rotate_left
    · exact absurd (HN.out.symm.trans hc1) (by simp)
    rw [HN.out] at hb1
    cases hb1
    have S1 := Lib.hid S1'
    have T1 := Lib.hid T1'
    clear S1' T1' S0
    go_wp2_with fail
    go_loopw [19] (fun i wr => ∃ k : Nat, k ≤ l.length ∧ i = .int .i64 k ∧ ∃ vr b, cats ((l.take k).map eRule) = .ok b ∧ WAt w0 wr g vr (z0 ++ lows (l.length : Int) 4 ++ b) ∧ Stp SW w wr) (fun i _ => l.length - (intOf i).toNat)
    case atStart => exact ⟨0, Nat.zero_le _, rfl, v1, [], rfl, by rw [List.append_nil]; exact S1.out, T1.out⟩
    case round =>
      obtain ⟨k, hk, rfl, vr, b, hb, hS, hT⟩ := hrel
      have SR := Lib.hid hS
      have TR := Lib.hid hT
      have HBK := Lib.hid hb
      clear hS hT hb S1 T1
      by_cases hlt : k < l.length
      · have hroom : (z0 ++ lows (l.length : Int) 4 ++ b).length + wRule l[k] < 140737488355328 := by
          have h1 := cats_len codRule.len _ _ HBK.out
          have h2 := wSum_take wRule l k hlt
          have h3 := wSum_le wRule l (k + 1)
          rw [List.length_append, List.length_append, lows_length]
          omega
        obtain ⟨ad, B2, d2, e0, g0, g1, g2, g3, g4, g5, g6, g7, _, m2⟩ := atRule h0 k hlt
        cases e0
        have g0' := pw_cell_below SR.out.below g0
        clear g0
        have g1' := pw_cell_below SR.out.below g1
        clear g1
        have g2' := pw_cell_below SR.out.below g2
        clear g2
        have g3' := pw_cell_below SR.out.below g3
        clear g3
        have g4' := pw_cell_below SR.out.below g4
        clear g4
        have g5' := pw_cell_below SR.out.below g5
        clear g5
        have g6' := pw_cell_below SR.out.below g6
        clear g6
        have g7' := pw_cell_below SR.out.below g7
        clear g7
        obtain ⟨W1, hW1, Z0', TB'⟩ := wr_box SR.out TR.out #[.string l[k].1, .int .i64 l[k].2.1, .slice B2 l[k].2.2.1.length d2, .int .i64 l[k].2.2.2.1, .int .i64 l[k].2.2.2.2.1, .string l[k].2.2.2.2.2.1, .string l[k].2.2.2.2.2.2.1, .string l[k].2.2.2.2.2.2.2] 46
        clear SR TR
        have SR := Lib.hid Z0'
        have TR := Lib.hid TB'
        have HW1 := Lib.hid hW1
        clear Z0' TB' hW1
        go_wp2_with fail
        clear g0' g1' g2' g3' g4' g5' g6' g7'
        rw [HW1.out]
        clear HW1
        refine (wr_rule l[k] B2 d2 m2 SR.out hroom).mono ?_
        rintro e w2 (⟨b2, hb2, rfl, v2, S2', T2'⟩ | ⟨c2, hc2, rfl, hbe, T2'⟩)
        rotate_left
        · exact ⟨rfl, .inr ⟨c2, by rw [HL.out, cats_fault _ l k hlt HBK.out hc2]; rfl, rfl, hbe, TR.out.trans T2'⟩⟩
        have hb3 : cats ((l.take (k + 1)).map eRule) = .ok (b ++ b2) := by rw [cats_take _ l k hlt, HBK.out, hb2]; rfl
        rw [List.append_assoc] at S2'
        have S2 := Lib.hid S2'
        have T2 := Lib.hid (TR.out.trans T2')
        have HB3 := Lib.hid hb3
        clear S2' T2' hb3 hb2 SR TR HBK hroom
        go_wp2
        go_roundw
        case rel => exact ⟨k + 1, by omega, by simp, _, _, HB3.out, S2.out, T2.out⟩
        case measure => simp [intOf]; omega
      · have hke : k = l.length := by omega
        have HF := Lib.hid hke
        clear hke
        go_wp2
        go_end0
        have hb := HBK.out
        rw [HF.out, List.take_length] at hb
        have hs := SR.out
        rw [List.append_assoc] at hs
        exact .inl ⟨_, by rw [HL.out, hb]; rfl, rfl, _, hs, TR.out⟩
set_option maxRecDepth 100000 in
set_option maxHeartbeats 16000000 in
theorem wr_table (x : TTable) (A3 : Option Addr) (c3 : Nat) (A4 : Option Addr) (c4 : Nat) {w0 w : World} {g : Nat} {v : Value} {z0 : Bs} (h3 : kColumn.C w0 A3 x.2.2.2.1.length x.2.2.2.1) (h4 : kRule.C w0 A4 x.2.2.2.2.length x.2.2.2.2) (hS : WAt w0 w g v z0) (hm : z0.length + wTable x < 140737488355328) :
    Calls Try.prog 112 #[.pointer (some ⟨g, 0, none⟩), .agg #[.string x.1, .string x.2.1, .string x.2.2.1, .slice A3 x.2.2.2.1.length c3, .slice A4 x.2.2.2.2.length c4]] w (WDone w0 g w (eTable x) z0) := by
  have hm' : z0.length + (wText x.1 + (wText x.2.1 + (wText x.2.2.1 + ((wList wColumn) x.2.2.2.1 + ((wList wRule) x.2.2.2.2))))) < 140737488355328 := hm
  clear hm
  have hb0 : Below w.heap.size w (w.alloc (.cells #[.string x.1, .string x.2.1, .string x.2.2.1, .slice A3 x.2.2.2.1.length c3, .slice A4 x.2.2.2.2.length c4] 175)) := (Below.refl _ _).alloc (Nat.le_refl _) _
  have hx0 := blk_new w (.cells #[.string x.1, .string x.2.1, .string x.2.2.1, .slice A3 x.2.2.2.1.length c3, .slice A4 x.2.2.2.2.length c4] 175)
  obtain ⟨W0, hW0⟩ : ∃ W0, w.alloc (.cells #[.string x.1, .string x.2.1, .string x.2.2.1, .slice A3 x.2.2.2.1.length c3, .slice A4 x.2.2.2.2.length c4] 175) = W0 := ⟨_, rfl⟩
  rw [hW0] at hb0 hx0
  have S0 := Lib.hid (hS.stays hb0)
  have HB := Lib.hid hx0
  have T0 := Lib.hid (Stp.refl SW W0)
  have TW := Lib.hid (Stp.below (S := SW) hb0)
  have HW := Lib.hid hW0
  clear hb0 hx0 hW0 hS
  go_enter Try.func112, Try.ntmps112
  have q0 := cell_blk (T0.out.keep HB.out (by decide)) 0 _ rfl
  go_wp2_with fail
  rw [HW.out]
  clear HW
  clear q0
  refine (wr_text (x.1)   S0.out (by omega)).mono ?_
  rintro e w1 (⟨b1, hb1, rfl, v1, S1', T1'⟩ | ⟨c, hc, rfl, hbe, T1'⟩)
  rotate_left
  · exact ⟨rfl, .inr ⟨c, by simp only [eTable, hc, cat_err, cat_ok_err, cat_ok_ok], rfl, hbe, TW.out.trans (T0.out.trans T1')⟩⟩
  have hn1 : b1.length = wText x.1 := cod_text.len _ _ hb1
  obtain ⟨z1, hz1⟩ : ∃ z, z0 ++ b1 = z := ⟨_, rfl⟩
  rw [hz1] at S1'
  have hl1 : z1.length ≤ z0.length + (wText x.1) := by rw [← hz1, List.length_append]; omega
  have S1 := Lib.hid S1'
  have T1 := Lib.hid (T0.out.trans T1')
  have HE1 := Lib.hid hb1
  have HZ1 := Lib.hid hz1
  clear S1' T1' hb1 hz1 hn1 S0 T0
  have q1 := cell_blk (T1.out.keep HB.out (by decide)) 1 _ rfl
  go_wp2_with fail
  clear q1
  refine (wr_text (x.2.1)   S1.out (by have := hl1; omega)).mono ?_
  rintro e w2 (⟨b2, hb2, rfl, v2, S2', T2'⟩ | ⟨c, hc, rfl, hbe, T2'⟩)
  rotate_left
  · exact ⟨rfl, .inr ⟨c, by simp only [eTable, HE1.out, hc, cat_err, cat_ok_err, cat_ok_ok], rfl, hbe, TW.out.trans (T1.out.trans T2')⟩⟩
  have hn2 : b2.length = wText x.2.1 := cod_text.len _ _ hb2
  obtain ⟨z2, hz2⟩ : ∃ z, z1 ++ b2 = z := ⟨_, rfl⟩
  rw [hz2] at S2'
  have hl2 : z2.length ≤ z0.length + (wText x.1 + (wText x.2.1)) := by rw [← hz2, List.length_append]; have := hl1; omega
  have S2 := Lib.hid S2'
  have T2 := Lib.hid (T1.out.trans T2')
  have HE2 := Lib.hid hb2
  have HZ2 := Lib.hid hz2
  clear S2' T2' hb2 hz2 hn2 S1 T1 hl1
  have q2 := cell_blk (T2.out.keep HB.out (by decide)) 2 _ rfl
  go_wp2_with fail
  clear q2
  refine (wr_text (x.2.2.1)   S2.out (by have := hl2; omega)).mono ?_
  rintro e w3 (⟨b3, hb3, rfl, v3, S3', T3'⟩ | ⟨c, hc, rfl, hbe, T3'⟩)
  rotate_left
  · exact ⟨rfl, .inr ⟨c, by simp only [eTable, HE1.out, HE2.out, hc, cat_err, cat_ok_err, cat_ok_ok], rfl, hbe, TW.out.trans (T2.out.trans T3')⟩⟩
  have hn3 : b3.length = wText x.2.2.1 := cod_text.len _ _ hb3
  obtain ⟨z3, hz3⟩ : ∃ z, z2 ++ b3 = z := ⟨_, rfl⟩
  rw [hz3] at S3'
  have hl3 : z3.length ≤ z0.length + (wText x.1 + (wText x.2.1 + (wText x.2.2.1))) := by rw [← hz3, List.length_append]; have := hl2; omega
  have S3 := Lib.hid S3'
  have T3 := Lib.hid (T2.out.trans T3')
  have HE3 := Lib.hid hb3
  have HZ3 := Lib.hid hz3
  clear S3' T3' hb3 hz3 hn3 S2 T2 hl2
  have q3 := cell_blk (T3.out.keep HB.out (by decide)) 3 _ rfl
  go_wp2_with fail
  clear q3
  refine (wr_many_Column A3 c3 (l := x.2.2.2.1) h3 S3.out (by have := hl3; omega)).mono ?_
  rintro e w4 (⟨b4, hb4, rfl, v4, S4', T4'⟩ | ⟨c, hc, rfl, hbe, T4'⟩)
  rotate_left
  · exact ⟨rfl, .inr ⟨c, by simp only [eTable, HE1.out, HE2.out, HE3.out, hc, cat_err, cat_ok_err, cat_ok_ok], rfl, hbe, TW.out.trans (T3.out.trans T4')⟩⟩
  have hn4 : b4.length = (wList wColumn) x.2.2.2.1 := (cod_list codColumn).len _ _ hb4
  obtain ⟨z4, hz4⟩ : ∃ z, z3 ++ b4 = z := ⟨_, rfl⟩
  rw [hz4] at S4'
  have hl4 : z4.length ≤ z0.length + (wText x.1 + (wText x.2.1 + (wText x.2.2.1 + ((wList wColumn) x.2.2.2.1)))) := by rw [← hz4, List.length_append]; have := hl3; omega
  have S4 := Lib.hid S4'
  have T4 := Lib.hid (T3.out.trans T4')
  have HE4 := Lib.hid hb4
  have HZ4 := Lib.hid hz4
  clear S4' T4' hb4 hz4 hn4 S3 T3 hl3
  have q4 := cell_blk (T4.out.keep HB.out (by decide)) 4 _ rfl
  go_wp2_with fail
  clear q4
  refine (wr_many_Rule A4 c4 (l := x.2.2.2.2) h4 S4.out (by have := hl4; omega)).mono ?_
  rintro e w5 (⟨b5, hb5, rfl, v5, S5', T5'⟩ | ⟨c, hc, rfl, hbe, T5'⟩)
  rotate_left
  · exact ⟨rfl, .inr ⟨c, by simp only [eTable, HE1.out, HE2.out, HE3.out, HE4.out, hc, cat_err, cat_ok_err, cat_ok_ok], rfl, hbe, TW.out.trans (T4.out.trans T5')⟩⟩
  have hn5 : b5.length = (wList wRule) x.2.2.2.2 := (cod_list codRule).len _ _ hb5
  obtain ⟨z5, hz5⟩ : ∃ z, z4 ++ b5 = z := ⟨_, rfl⟩
  rw [hz5] at S5'
  have hl5 : z5.length ≤ z0.length + (wText x.1 + (wText x.2.1 + (wText x.2.2.1 + ((wList wColumn) x.2.2.2.1 + ((wList wRule) x.2.2.2.2))))) := by rw [← hz5, List.length_append]; have := hl4; omega
  have S5 := Lib.hid S5'
  have T5 := Lib.hid (T4.out.trans T5')
  have HE5 := Lib.hid hb5
  have HZ5 := Lib.hid hz5
  clear S5' T5' hb5 hz5 hn5 S4 T4 hl4
  go_wp2
  go_end0
  have SF := S5.out
  rw [← HZ5.out, ← HZ4.out, ← HZ3.out, ← HZ2.out, ← HZ1.out] at SF
  refine .inl ⟨_, by simp only [eTable, HE1.out, HE2.out, HE3.out, HE4.out, HE5.out, cat_ok_ok]; rfl, rfl, v5, ?_, TW.out.trans T5.out⟩
  simpa only [List.append_assoc] using SF
set_option maxRecDepth 100000 in
set_option maxHeartbeats 16000000 in
theorem wr_many_Table (A : Option Addr) (c : Nat) {l : List TTable} {w0 w : World} {g : Nat} {v : Value} {z0 : Bs} (h0 : kTable.C w0 A l.length l) (hS : WAt w0 w g v z0) (hr : z0.length + wList wTable l < 140737488355328) :
    Calls Try.prog 111 #[.pointer (some ⟨g, 0, none⟩), .slice A l.length c, .func (.func 112) #[] #[]] w (WDone w0 g w (eList eTable l) z0) := by
  have hx1 : l.length ≤ 9223372036854775807 := h0.2.1
  have S0 := Lib.hid hS
  clear hS
  by_cases h4 : 4096 < l.length
  · have HE := Lib.hid (show eList eTable l = .error 2 from if_pos h4)
    have h4' : (4096 : Int) < (l.length : Int) := by omega
    clear h4 hr
    go_enter Try.func111, Try.ntmps111
    go_wp2
    exact ⟨rfl, .inr ⟨2, HE.out, rfl, S0.out.below, Stp.refl _ _⟩⟩
  · have hlen : eList eTable l = cat (eNum l.length) (cats (l.map eTable)) := if_neg h4
    have hnum : eNum (l.length : Int) = .ok (lows (l.length : Int) 4) := if_pos ⟨by omega, by omega⟩
    have hwl : wList wTable l = 4 + wSum wTable l := if_neg h4
    rw [hwl] at hr
    rw [hnum] at hlen
    clear hwl
    have HL := Lib.hid hlen
    have HN := Lib.hid hnum
    clear hlen hnum
    have h4' : (l.length : Int) ≤ 4096 := by omega
    go_enter Try.func111, Try.ntmps111
    go_wp2_with fail
    refine (wr_number (l.length : Int) S0.out (by omega)).mono ?_
    rintro e w1 (⟨b1, hb1, rfl, v1, S1', T1'⟩ | ⟨c1, hc1, _⟩)
    rotate_left
    · exact absurd (HN.out.symm.trans hc1) (by simp)
    rw [HN.out] at hb1
    cases hb1
    have S1 := Lib.hid S1'
    have T1 := Lib.hid T1'
    clear S1' T1' S0
    go_wp2_with fail
    go_loopw [19] (fun i wr => ∃ k : Nat, k ≤ l.length ∧ i = .int .i64 k ∧ ∃ vr b, cats ((l.take k).map eTable) = .ok b ∧ WAt w0 wr g vr (z0 ++ lows (l.length : Int) 4 ++ b) ∧ Stp SW w wr) (fun i _ => l.length - (intOf i).toNat)
    case atStart => exact ⟨0, Nat.zero_le _, rfl, v1, [], rfl, by rw [List.append_nil]; exact S1.out, T1.out⟩
    case round =>
      obtain ⟨k, hk, rfl, vr, b, hb, hS, hT⟩ := hrel
      have SR := Lib.hid hS
      have TR := Lib.hid hT
      have HBK := Lib.hid hb
      clear hS hT hb S1 T1
      by_cases hlt : k < l.length
      · have hroom : (z0 ++ lows (l.length : Int) 4 ++ b).length + wTable l[k] < 140737488355328 := by
          have h1 := cats_len codTable.len _ _ HBK.out
          have h2 := wSum_take wTable l k hlt
          have h3 := wSum_le wTable l (k + 1)
          rw [List.length_append, List.length_append, lows_length]
          omega
        obtain ⟨ad, B3, d3, B4, d4, e0, g0, g1, g2, g3, g4, _, m3, _, m4⟩ := atTable h0 k hlt
        cases e0
        have g0' := pw_cell_below SR.out.below g0
        clear g0
        have g1' := pw_cell_below SR.out.below g1
        clear g1
        have g2' := pw_cell_below SR.out.below g2
        clear g2
        have g3' := pw_cell_below SR.out.below g3
        clear g3
        have g4' := pw_cell_below SR.out.below g4
        clear g4
        obtain ⟨W1, hW1, Z0', TB'⟩ := wr_box SR.out TR.out #[.string l[k].1, .string l[k].2.1, .string l[k].2.2.1, .slice B3 l[k].2.2.2.1.length d3, .slice B4 l[k].2.2.2.2.length d4] 175
        clear SR TR
        have SR := Lib.hid Z0'
        have TR := Lib.hid TB'
        have HW1 := Lib.hid hW1
        clear Z0' TB' hW1
        go_wp2_with fail
        clear g0' g1' g2' g3' g4'
        rw [HW1.out]
        clear HW1
        refine (wr_table l[k] B3 d3 B4 d4 m3 m4 SR.out hroom).mono ?_
        rintro e w2 (⟨b2, hb2, rfl, v2, S2', T2'⟩ | ⟨c2, hc2, rfl, hbe, T2'⟩)
        rotate_left
        · exact ⟨rfl, .inr ⟨c2, by rw [HL.out, cats_fault _ l k hlt HBK.out hc2]; rfl, rfl, hbe, TR.out.trans T2'⟩⟩
        have hb3 : cats ((l.take (k + 1)).map eTable) = .ok (b ++ b2) := by rw [cats_take _ l k hlt, HBK.out, hb2]; rfl
        rw [List.append_assoc] at S2'
        have S2 := Lib.hid S2'
        have T2 := Lib.hid (TR.out.trans T2')
        have HB3 := Lib.hid hb3
        clear S2' T2' hb3 hb2 SR TR HBK hroom
        go_wp2
        go_roundw
        case rel => exact ⟨k + 1, by omega, by simp, _, _, HB3.out, S2.out, T2.out⟩
        case measure => simp [intOf]; omega
      · have hke : k = l.length := by omega
        have HF := Lib.hid hke
        clear hke
        go_wp2
        go_end0
        have hb := HBK.out
        rw [HF.out, List.take_length] at hb
        have hs := SR.out
        rw [List.append_assoc] at hs
        exact .inl ⟨_, by rw [HL.out, hb]; rfl, rfl, _, hs, TR.out⟩
set_option maxRecDepth 100000 in
set_option maxHeartbeats 16000000 in
theorem wr_schema (x : TSchema)  {w0 w : World} {g : Nat} {v : Value} {z0 : Bs}  (hS : WAt w0 w g v z0) (hm : z0.length + wSchema x < 140737488355328) :
    Calls Try.prog 110 #[.pointer (some ⟨g, 0, none⟩), .agg #[.string x.1, .string x.2]] w (WDone w0 g w (eSchema x) z0) := by
  have hm' : z0.length + (wText x.1 + (wText x.2)) < 140737488355328 := hm
  clear hm
  have hb0 : Below w.heap.size w (w.alloc (.cells #[.string x.1, .string x.2] 169)) := (Below.refl _ _).alloc (Nat.le_refl _) _
  have hx0 := blk_new w (.cells #[.string x.1, .string x.2] 169)
  obtain ⟨W0, hW0⟩ : ∃ W0, w.alloc (.cells #[.string x.1, .string x.2] 169) = W0 := ⟨_, rfl⟩
  rw [hW0] at hb0 hx0
  have S0 := Lib.hid (hS.stays hb0)
  have HB := Lib.hid hx0
  have T0 := Lib.hid (Stp.refl SW W0)
  have TW := Lib.hid (Stp.below (S := SW) hb0)
  have HW := Lib.hid hW0
  clear hb0 hx0 hW0 hS
  go_enter Try.func110, Try.ntmps110
  have q0 := cell_blk (T0.out.keep HB.out (by decide)) 0 _ rfl
  go_wp2_with fail
  rw [HW.out]
  clear HW
  clear q0
  refine (wr_text (x.1)   S0.out (by omega)).mono ?_
  rintro e w1 (⟨b1, hb1, rfl, v1, S1', T1'⟩ | ⟨c, hc, rfl, hbe, T1'⟩)
  rotate_left
  · exact ⟨rfl, .inr ⟨c, by simp only [eSchema, hc, cat_err, cat_ok_err, cat_ok_ok], rfl, hbe, TW.out.trans (T0.out.trans T1')⟩⟩
  have hn1 : b1.length = wText x.1 := cod_text.len _ _ hb1
  obtain ⟨z1, hz1⟩ : ∃ z, z0 ++ b1 = z := ⟨_, rfl⟩
  rw [hz1] at S1'
  have hl1 : z1.length ≤ z0.length + (wText x.1) := by rw [← hz1, List.length_append]; omega
  have S1 := Lib.hid S1'
  have T1 := Lib.hid (T0.out.trans T1')
  have HE1 := Lib.hid hb1
  have HZ1 := Lib.hid hz1
  clear S1' T1' hb1 hz1 hn1 S0 T0
  have q1 := cell_blk (T1.out.keep HB.out (by decide)) 1 _ rfl
  go_wp2_with fail
  clear q1
  refine (wr_text (x.2)   S1.out (by have := hl1; omega)).mono ?_
  rintro e w2 (⟨b2, hb2, rfl, v2, S2', T2'⟩ | ⟨c, hc, rfl, hbe, T2'⟩)
  rotate_left
  · exact ⟨rfl, .inr ⟨c, by simp only [eSchema, HE1.out, hc, cat_err, cat_ok_err, cat_ok_ok], rfl, hbe, TW.out.trans (T1.out.trans T2')⟩⟩
  have hn2 : b2.length = wText x.2 := cod_text.len _ _ hb2
  obtain ⟨z2, hz2⟩ : ∃ z, z1 ++ b2 = z := ⟨_, rfl⟩
  rw [hz2] at S2'
  have hl2 : z2.length ≤ z0.length + (wText x.1 + (wText x.2)) := by rw [← hz2, List.length_append]; have := hl1; omega
  have S2 := Lib.hid S2'
  have T2 := Lib.hid (T1.out.trans T2')
  have HE2 := Lib.hid hb2
  have HZ2 := Lib.hid hz2
  clear S2' T2' hb2 hz2 hn2 S1 T1 hl1
  go_wp2
  go_end0
  have SF := S2.out
  rw [← HZ2.out, ← HZ1.out] at SF
  refine .inl ⟨_, by simp only [eSchema, HE1.out, HE2.out, cat_ok_ok]; rfl, rfl, v2, ?_, TW.out.trans T2.out⟩
  simpa only [List.append_assoc] using SF
set_option maxRecDepth 100000 in
set_option maxHeartbeats 16000000 in
theorem wr_many_Schema (A : Option Addr) (c : Nat) {l : List TSchema} {w0 w : World} {g : Nat} {v : Value} {z0 : Bs} (h0 : kSchema.C w0 A l.length l) (hS : WAt w0 w g v z0) (hr : z0.length + wList wSchema l < 140737488355328) :
    Calls Try.prog 109 #[.pointer (some ⟨g, 0, none⟩), .slice A l.length c, .func (.func 110) #[] #[]] w (WDone w0 g w (eList eSchema l) z0) := by
  have hx1 : l.length ≤ 9223372036854775807 := h0.2.1
  have S0 := Lib.hid hS
  clear hS
  by_cases h4 : 4096 < l.length
  · have HE := Lib.hid (show eList eSchema l = .error 2 from if_pos h4)
    have h4' : (4096 : Int) < (l.length : Int) := by omega
    clear h4 hr
    go_enter Try.func109, Try.ntmps109
    go_wp2
    exact ⟨rfl, .inr ⟨2, HE.out, rfl, S0.out.below, Stp.refl _ _⟩⟩
  · have hlen : eList eSchema l = cat (eNum l.length) (cats (l.map eSchema)) := if_neg h4
    have hnum : eNum (l.length : Int) = .ok (lows (l.length : Int) 4) := if_pos ⟨by omega, by omega⟩
    have hwl : wList wSchema l = 4 + wSum wSchema l := if_neg h4
    rw [hwl] at hr
    rw [hnum] at hlen
    clear hwl
    have HL := Lib.hid hlen
    have HN := Lib.hid hnum
    clear hlen hnum
    have h4' : (l.length : Int) ≤ 4096 := by omega
    go_enter Try.func109, Try.ntmps109
    go_wp2_with fail
    refine (wr_number (l.length : Int) S0.out (by omega)).mono ?_
    rintro e w1 (⟨b1, hb1, rfl, v1, S1', T1'⟩ | ⟨c1, hc1, _⟩)
    rotate_left
    · exact absurd (HN.out.symm.trans hc1) (by simp)
    rw [HN.out] at hb1
    cases hb1
    have S1 := Lib.hid S1'
    have T1 := Lib.hid T1'
    clear S1' T1' S0
    go_wp2_with fail
    go_loopw [19] (fun i wr => ∃ k : Nat, k ≤ l.length ∧ i = .int .i64 k ∧ ∃ vr b, cats ((l.take k).map eSchema) = .ok b ∧ WAt w0 wr g vr (z0 ++ lows (l.length : Int) 4 ++ b) ∧ Stp SW w wr) (fun i _ => l.length - (intOf i).toNat)
    case atStart => exact ⟨0, Nat.zero_le _, rfl, v1, [], rfl, by rw [List.append_nil]; exact S1.out, T1.out⟩
    case round =>
      obtain ⟨k, hk, rfl, vr, b, hb, hS, hT⟩ := hrel
      have SR := Lib.hid hS
      have TR := Lib.hid hT
      have HBK := Lib.hid hb
      clear hS hT hb S1 T1
      by_cases hlt : k < l.length
      · have hroom : (z0 ++ lows (l.length : Int) 4 ++ b).length + wSchema l[k] < 140737488355328 := by
          have h1 := cats_len codSchema.len _ _ HBK.out
          have h2 := wSum_take wSchema l k hlt
          have h3 := wSum_le wSchema l (k + 1)
          rw [List.length_append, List.length_append, lows_length]
          omega
        obtain ⟨ad, e0, g0, g1⟩ := atSchema h0 k hlt
        cases e0
        have g0' := pw_cell_below SR.out.below g0
        clear g0
        have g1' := pw_cell_below SR.out.below g1
        clear g1
        obtain ⟨W1, hW1, Z0', TB'⟩ := wr_box SR.out TR.out #[.string l[k].1, .string l[k].2] 169
        clear SR TR
        have SR := Lib.hid Z0'
        have TR := Lib.hid TB'
        have HW1 := Lib.hid hW1
        clear Z0' TB' hW1
        go_wp2_with fail
        clear g0' g1'
        rw [HW1.out]
        clear HW1
        refine (wr_schema l[k]   SR.out hroom).mono ?_
        rintro e w2 (⟨b2, hb2, rfl, v2, S2', T2'⟩ | ⟨c2, hc2, rfl, hbe, T2'⟩)
        rotate_left
        · exact ⟨rfl, .inr ⟨c2, by rw [HL.out, cats_fault _ l k hlt HBK.out hc2]; rfl, rfl, hbe, TR.out.trans T2'⟩⟩
        have hb3 : cats ((l.take (k + 1)).map eSchema) = .ok (b ++ b2) := by rw [cats_take _ l k hlt, HBK.out, hb2]; rfl
        rw [List.append_assoc] at S2'
        have S2 := Lib.hid S2'
        have T2 := Lib.hid (TR.out.trans T2')
        have HB3 := Lib.hid hb3
        clear S2' T2' hb3 hb2 SR TR HBK hroom
        go_wp2
        go_roundw
        case rel => exact ⟨k + 1, by omega, by simp, _, _, HB3.out, S2.out, T2.out⟩
        case measure => simp [intOf]; omega
      · have hke : k = l.length := by omega
        have HF := Lib.hid hke
        clear hke
        go_wp2
        go_end0
        have hb := HBK.out
        rw [HF.out, List.take_length] at hb
        have hs := SR.out
        rw [List.append_assoc] at hs
        exact .inl ⟨_, by rw [HL.out, hb]; rfl, rfl, _, hs, TR.out⟩
set_option maxRecDepth 100000 in
set_option maxHeartbeats 16000000 in
theorem wr_member (x : TMember)  {w0 w : World} {g : Nat} {v : Value} {z0 : Bs}  (hS : WAt w0 w g v z0) (hm : z0.length + wMember x < 140737488355328) :
    Calls Try.prog 115 #[.pointer (some ⟨g, 0, none⟩), .agg #[.string x.1, .string x.2]] w (WDone w0 g w (eMember x) z0) := by
  have hm' : z0.length + (wText x.1 + (wText x.2)) < 140737488355328 := hm
  clear hm
  have hb0 : Below w.heap.size w (w.alloc (.cells #[.string x.1, .string x.2] 164)) := (Below.refl _ _).alloc (Nat.le_refl _) _
  have hx0 := blk_new w (.cells #[.string x.1, .string x.2] 164)
  obtain ⟨W0, hW0⟩ : ∃ W0, w.alloc (.cells #[.string x.1, .string x.2] 164) = W0 := ⟨_, rfl⟩
  rw [hW0] at hb0 hx0
  have S0 := Lib.hid (hS.stays hb0)
  have HB := Lib.hid hx0
  have T0 := Lib.hid (Stp.refl SW W0)
  have TW := Lib.hid (Stp.below (S := SW) hb0)
  have HW := Lib.hid hW0
  clear hb0 hx0 hW0 hS
  go_enter Try.func115, Try.ntmps115
  have q0 := cell_blk (T0.out.keep HB.out (by decide)) 0 _ rfl
  go_wp2_with fail
  rw [HW.out]
  clear HW
  clear q0
  refine (wr_text (x.1)   S0.out (by omega)).mono ?_
  rintro e w1 (⟨b1, hb1, rfl, v1, S1', T1'⟩ | ⟨c, hc, rfl, hbe, T1'⟩)
  rotate_left
  · exact ⟨rfl, .inr ⟨c, by simp only [eMember, hc, cat_err, cat_ok_err, cat_ok_ok], rfl, hbe, TW.out.trans (T0.out.trans T1')⟩⟩
  have hn1 : b1.length = wText x.1 := cod_text.len _ _ hb1
  obtain ⟨z1, hz1⟩ : ∃ z, z0 ++ b1 = z := ⟨_, rfl⟩
  rw [hz1] at S1'
  have hl1 : z1.length ≤ z0.length + (wText x.1) := by rw [← hz1, List.length_append]; omega
  have S1 := Lib.hid S1'
  have T1 := Lib.hid (T0.out.trans T1')
  have HE1 := Lib.hid hb1
  have HZ1 := Lib.hid hz1
  clear S1' T1' hb1 hz1 hn1 S0 T0
  have q1 := cell_blk (T1.out.keep HB.out (by decide)) 1 _ rfl
  go_wp2_with fail
  clear q1
  refine (wr_text (x.2)   S1.out (by have := hl1; omega)).mono ?_
  rintro e w2 (⟨b2, hb2, rfl, v2, S2', T2'⟩ | ⟨c, hc, rfl, hbe, T2'⟩)
  rotate_left
  · exact ⟨rfl, .inr ⟨c, by simp only [eMember, HE1.out, hc, cat_err, cat_ok_err, cat_ok_ok], rfl, hbe, TW.out.trans (T1.out.trans T2')⟩⟩
  have hn2 : b2.length = wText x.2 := cod_text.len _ _ hb2
  obtain ⟨z2, hz2⟩ : ∃ z, z1 ++ b2 = z := ⟨_, rfl⟩
  rw [hz2] at S2'
  have hl2 : z2.length ≤ z0.length + (wText x.1 + (wText x.2)) := by rw [← hz2, List.length_append]; have := hl1; omega
  have S2 := Lib.hid S2'
  have T2 := Lib.hid (T1.out.trans T2')
  have HE2 := Lib.hid hb2
  have HZ2 := Lib.hid hz2
  clear S2' T2' hb2 hz2 hn2 S1 T1 hl1
  go_wp2
  go_end0
  have SF := S2.out
  rw [← HZ2.out, ← HZ1.out] at SF
  refine .inl ⟨_, by simp only [eMember, HE1.out, HE2.out, cat_ok_ok]; rfl, rfl, v2, ?_, TW.out.trans T2.out⟩
  simpa only [List.append_assoc] using SF
set_option maxRecDepth 100000 in
set_option maxHeartbeats 16000000 in
theorem wr_many_Member (A : Option Addr) (c : Nat) {l : List TMember} {w0 w : World} {g : Nat} {v : Value} {z0 : Bs} (h0 : kMember.C w0 A l.length l) (hS : WAt w0 w g v z0) (hr : z0.length + wList wMember l < 140737488355328) :
    Calls Try.prog 114 #[.pointer (some ⟨g, 0, none⟩), .slice A l.length c, .func (.func 115) #[] #[]] w (WDone w0 g w (eList eMember l) z0) := by
  have hx1 : l.length ≤ 9223372036854775807 := h0.2.1
  have S0 := Lib.hid hS
  clear hS
  by_cases h4 : 4096 < l.length
  · have HE := Lib.hid (show eList eMember l = .error 2 from if_pos h4)
    have h4' : (4096 : Int) < (l.length : Int) := by omega
    clear h4 hr
    go_enter Try.func114, Try.ntmps114
    go_wp2
    exact ⟨rfl, .inr ⟨2, HE.out, rfl, S0.out.below, Stp.refl _ _⟩⟩
  · have hlen : eList eMember l = cat (eNum l.length) (cats (l.map eMember)) := if_neg h4
    have hnum : eNum (l.length : Int) = .ok (lows (l.length : Int) 4) := if_pos ⟨by omega, by omega⟩
    have hwl : wList wMember l = 4 + wSum wMember l := if_neg h4
    rw [hwl] at hr
    rw [hnum] at hlen
    clear hwl
    have HL := Lib.hid hlen
    have HN := Lib.hid hnum
    clear hlen hnum
    have h4' : (l.length : Int) ≤ 4096 := by omega
    go_enter Try.func114, Try.ntmps114
    go_wp2_with fail
    refine (wr_number (l.length : Int) S0.out (by omega)).mono ?_
    rintro e w1 (⟨b1, hb1, rfl, v1, S1', T1'⟩ | ⟨c1, hc1, _⟩)
    rotate_left
    · exact absurd (HN.out.symm.trans hc1) (by simp)
    rw [HN.out] at hb1
    cases hb1
    have S1 := Lib.hid S1'
    have T1 := Lib.hid T1'
    clear S1' T1' S0
    go_wp2_with fail
    go_loopw [19] (fun i wr => ∃ k : Nat, k ≤ l.length ∧ i = .int .i64 k ∧ ∃ vr b, cats ((l.take k).map eMember) = .ok b ∧ WAt w0 wr g vr (z0 ++ lows (l.length : Int) 4 ++ b) ∧ Stp SW w wr) (fun i _ => l.length - (intOf i).toNat)
    case atStart => exact ⟨0, Nat.zero_le _, rfl, v1, [], rfl, by rw [List.append_nil]; exact S1.out, T1.out⟩
    case round =>
      obtain ⟨k, hk, rfl, vr, b, hb, hS, hT⟩ := hrel
      have SR := Lib.hid hS
      have TR := Lib.hid hT
      have HBK := Lib.hid hb
      clear hS hT hb S1 T1
      by_cases hlt : k < l.length
      · have hroom : (z0 ++ lows (l.length : Int) 4 ++ b).length + wMember l[k] < 140737488355328 := by
          have h1 := cats_len codMember.len _ _ HBK.out
          have h2 := wSum_take wMember l k hlt
          have h3 := wSum_le wMember l (k + 1)
          rw [List.length_append, List.length_append, lows_length]
          omega
        obtain ⟨ad, e0, g0, g1⟩ := atMember h0 k hlt
        cases e0
        have g0' := pw_cell_below SR.out.below g0
        clear g0
        have g1' := pw_cell_below SR.out.below g1
        clear g1
        obtain ⟨W1, hW1, Z0', TB'⟩ := wr_box SR.out TR.out #[.string l[k].1, .string l[k].2] 164
        clear SR TR
        have SR := Lib.hid Z0'
        have TR := Lib.hid TB'
        have HW1 := Lib.hid hW1
        clear Z0' TB' hW1
        go_wp2_with fail
        clear g0' g1'
        rw [HW1.out]
        clear HW1
        refine (wr_member l[k]   SR.out hroom).mono ?_
        rintro e w2 (⟨b2, hb2, rfl, v2, S2', T2'⟩ | ⟨c2, hc2, rfl, hbe, T2'⟩)
        rotate_left
        · exact ⟨rfl, .inr ⟨c2, by rw [HL.out, cats_fault _ l k hlt HBK.out hc2]; rfl, rfl, hbe, TR.out.trans T2'⟩⟩
        have hb3 : cats ((l.take (k + 1)).map eMember) = .ok (b ++ b2) := by rw [cats_take _ l k hlt, HBK.out, hb2]; rfl
        rw [List.append_assoc] at S2'
        have S2 := Lib.hid S2'
        have T2 := Lib.hid (TR.out.trans T2')
        have HB3 := Lib.hid hb3
        clear S2' T2' hb3 hb2 SR TR HBK hroom
        go_wp2
        go_roundw
        case rel => exact ⟨k + 1, by omega, by simp, _, _, HB3.out, S2.out, T2.out⟩
        case measure => simp [intOf]; omega
      · have hke : k = l.length := by omega
        have HF := Lib.hid hke
        clear hke
        go_wp2
        go_end0
        have hb := HBK.out
        rw [HF.out, List.take_length] at hb
        have hs := SR.out
        rw [List.append_assoc] at hs
        exact .inl ⟨_, by rw [HL.out, hb]; rfl, rfl, _, hs, TR.out⟩
set_option maxRecDepth 100000 in
set_option maxHeartbeats 16000000 in
theorem wr_grant (x : TGrant)  {w0 w : World} {g : Nat} {v : Value} {z0 : Bs}  (hS : WAt w0 w g v z0) (hm : z0.length + wGrant x < 140737488355328) :
    Calls Try.prog 117 #[.pointer (some ⟨g, 0, none⟩), .agg #[.string x.1, .string x.2.1, .int .i64 x.2.2.1, .string x.2.2.2.1, .string x.2.2.2.2.1, .bool x.2.2.2.2.2]] w (WDone w0 g w (eGrant x) z0) := by
  have hm' : z0.length + (wText x.1 + (wText x.2.1 + (4 + (wText x.2.2.2.1 + (wText x.2.2.2.2.1 + (1)))))) < 140737488355328 := hm
  clear hm
  have hb0 : Below w.heap.size w (w.alloc (.cells #[.string x.1, .string x.2.1, .int .i64 x.2.2.1, .string x.2.2.2.1, .string x.2.2.2.2.1, .bool x.2.2.2.2.2] 166)) := (Below.refl _ _).alloc (Nat.le_refl _) _
  have hx0 := blk_new w (.cells #[.string x.1, .string x.2.1, .int .i64 x.2.2.1, .string x.2.2.2.1, .string x.2.2.2.2.1, .bool x.2.2.2.2.2] 166)
  obtain ⟨W0, hW0⟩ : ∃ W0, w.alloc (.cells #[.string x.1, .string x.2.1, .int .i64 x.2.2.1, .string x.2.2.2.1, .string x.2.2.2.2.1, .bool x.2.2.2.2.2] 166) = W0 := ⟨_, rfl⟩
  rw [hW0] at hb0 hx0
  have S0 := Lib.hid (hS.stays hb0)
  have HB := Lib.hid hx0
  have T0 := Lib.hid (Stp.refl SW W0)
  have TW := Lib.hid (Stp.below (S := SW) hb0)
  have HW := Lib.hid hW0
  clear hb0 hx0 hW0 hS
  go_enter Try.func117, Try.ntmps117
  have q0 := cell_blk (T0.out.keep HB.out (by decide)) 0 _ rfl
  go_wp2_with fail
  rw [HW.out]
  clear HW
  clear q0
  refine (wr_text (x.1)   S0.out (by omega)).mono ?_
  rintro e w1 (⟨b1, hb1, rfl, v1, S1', T1'⟩ | ⟨c, hc, rfl, hbe, T1'⟩)
  rotate_left
  · exact ⟨rfl, .inr ⟨c, by simp only [eGrant, hc, cat_err, cat_ok_err, cat_ok_ok], rfl, hbe, TW.out.trans (T0.out.trans T1')⟩⟩
  have hn1 : b1.length = wText x.1 := cod_text.len _ _ hb1
  obtain ⟨z1, hz1⟩ : ∃ z, z0 ++ b1 = z := ⟨_, rfl⟩
  rw [hz1] at S1'
  have hl1 : z1.length ≤ z0.length + (wText x.1) := by rw [← hz1, List.length_append]; omega
  have S1 := Lib.hid S1'
  have T1 := Lib.hid (T0.out.trans T1')
  have HE1 := Lib.hid hb1
  have HZ1 := Lib.hid hz1
  clear S1' T1' hb1 hz1 hn1 S0 T0
  have q1 := cell_blk (T1.out.keep HB.out (by decide)) 1 _ rfl
  go_wp2_with fail
  clear q1
  refine (wr_text (x.2.1)   S1.out (by have := hl1; omega)).mono ?_
  rintro e w2 (⟨b2, hb2, rfl, v2, S2', T2'⟩ | ⟨c, hc, rfl, hbe, T2'⟩)
  rotate_left
  · exact ⟨rfl, .inr ⟨c, by simp only [eGrant, HE1.out, hc, cat_err, cat_ok_err, cat_ok_ok], rfl, hbe, TW.out.trans (T1.out.trans T2')⟩⟩
  have hn2 : b2.length = wText x.2.1 := cod_text.len _ _ hb2
  obtain ⟨z2, hz2⟩ : ∃ z, z1 ++ b2 = z := ⟨_, rfl⟩
  rw [hz2] at S2'
  have hl2 : z2.length ≤ z0.length + (wText x.1 + (wText x.2.1)) := by rw [← hz2, List.length_append]; have := hl1; omega
  have S2 := Lib.hid S2'
  have T2 := Lib.hid (T1.out.trans T2')
  have HE2 := Lib.hid hb2
  have HZ2 := Lib.hid hz2
  clear S2' T2' hb2 hz2 hn2 S1 T1 hl1
  have q2 := cell_blk (T2.out.keep HB.out (by decide)) 2 _ rfl
  go_wp2_with fail
  clear q2
  refine (wr_number (x.2.2.1)   S2.out (by have := hl2; omega)).mono ?_
  rintro e w3 (⟨b3, hb3, rfl, v3, S3', T3'⟩ | ⟨c, hc, rfl, hbe, T3'⟩)
  rotate_left
  · exact ⟨rfl, .inr ⟨c, by simp only [eGrant, HE1.out, HE2.out, hc, cat_err, cat_ok_err, cat_ok_ok], rfl, hbe, TW.out.trans (T2.out.trans T3')⟩⟩
  have hn3 : b3.length = 4 := cod_num.len _ _ hb3
  obtain ⟨z3, hz3⟩ : ∃ z, z2 ++ b3 = z := ⟨_, rfl⟩
  rw [hz3] at S3'
  have hl3 : z3.length ≤ z0.length + (wText x.1 + (wText x.2.1 + (4))) := by rw [← hz3, List.length_append]; have := hl2; omega
  have S3 := Lib.hid S3'
  have T3 := Lib.hid (T2.out.trans T3')
  have HE3 := Lib.hid hb3
  have HZ3 := Lib.hid hz3
  clear S3' T3' hb3 hz3 hn3 S2 T2 hl2
  have q3 := cell_blk (T3.out.keep HB.out (by decide)) 3 _ rfl
  go_wp2_with fail
  clear q3
  refine (wr_text (x.2.2.2.1)   S3.out (by have := hl3; omega)).mono ?_
  rintro e w4 (⟨b4, hb4, rfl, v4, S4', T4'⟩ | ⟨c, hc, rfl, hbe, T4'⟩)
  rotate_left
  · exact ⟨rfl, .inr ⟨c, by simp only [eGrant, HE1.out, HE2.out, HE3.out, hc, cat_err, cat_ok_err, cat_ok_ok], rfl, hbe, TW.out.trans (T3.out.trans T4')⟩⟩
  have hn4 : b4.length = wText x.2.2.2.1 := cod_text.len _ _ hb4
  obtain ⟨z4, hz4⟩ : ∃ z, z3 ++ b4 = z := ⟨_, rfl⟩
  rw [hz4] at S4'
  have hl4 : z4.length ≤ z0.length + (wText x.1 + (wText x.2.1 + (4 + (wText x.2.2.2.1)))) := by rw [← hz4, List.length_append]; have := hl3; omega
  have S4 := Lib.hid S4'
  have T4 := Lib.hid (T3.out.trans T4')
  have HE4 := Lib.hid hb4
  have HZ4 := Lib.hid hz4
  clear S4' T4' hb4 hz4 hn4 S3 T3 hl3
  have q4 := cell_blk (T4.out.keep HB.out (by decide)) 4 _ rfl
  go_wp2_with fail
  clear q4
  refine (wr_text (x.2.2.2.2.1)   S4.out (by have := hl4; omega)).mono ?_
  rintro e w5 (⟨b5, hb5, rfl, v5, S5', T5'⟩ | ⟨c, hc, rfl, hbe, T5'⟩)
  rotate_left
  · exact ⟨rfl, .inr ⟨c, by simp only [eGrant, HE1.out, HE2.out, HE3.out, HE4.out, hc, cat_err, cat_ok_err, cat_ok_ok], rfl, hbe, TW.out.trans (T4.out.trans T5')⟩⟩
  have hn5 : b5.length = wText x.2.2.2.2.1 := cod_text.len _ _ hb5
  obtain ⟨z5, hz5⟩ : ∃ z, z4 ++ b5 = z := ⟨_, rfl⟩
  rw [hz5] at S5'
  have hl5 : z5.length ≤ z0.length + (wText x.1 + (wText x.2.1 + (4 + (wText x.2.2.2.1 + (wText x.2.2.2.2.1))))) := by rw [← hz5, List.length_append]; have := hl4; omega
  have S5 := Lib.hid S5'
  have T5 := Lib.hid (T4.out.trans T5')
  have HE5 := Lib.hid hb5
  have HZ5 := Lib.hid hz5
  clear S5' T5' hb5 hz5 hn5 S4 T4 hl4
  have q5 := cell_blk (T5.out.keep HB.out (by decide)) 5 _ rfl
  go_wp2_with fail
  clear q5
  refine (wr_flag (x.2.2.2.2.2)   S5.out (by have := hl5; omega)).mono ?_
  rintro e w6 (⟨b6, hb6, rfl, v6, S6', T6'⟩ | ⟨c, hc, rfl, hbe, T6'⟩)
  rotate_left
  · exact ⟨rfl, .inr ⟨c, by simp only [eGrant, HE1.out, HE2.out, HE3.out, HE4.out, HE5.out, hc, cat_err, cat_ok_err, cat_ok_ok], rfl, hbe, TW.out.trans (T5.out.trans T6')⟩⟩
  have hn6 : b6.length = 1 := cod_flag.len _ _ hb6
  obtain ⟨z6, hz6⟩ : ∃ z, z5 ++ b6 = z := ⟨_, rfl⟩
  rw [hz6] at S6'
  have hl6 : z6.length ≤ z0.length + (wText x.1 + (wText x.2.1 + (4 + (wText x.2.2.2.1 + (wText x.2.2.2.2.1 + (1)))))) := by rw [← hz6, List.length_append]; have := hl5; omega
  have S6 := Lib.hid S6'
  have T6 := Lib.hid (T5.out.trans T6')
  have HE6 := Lib.hid hb6
  have HZ6 := Lib.hid hz6
  clear S6' T6' hb6 hz6 hn6 S5 T5 hl5
  go_wp2
  go_end0
  have SF := S6.out
  rw [← HZ6.out, ← HZ5.out, ← HZ4.out, ← HZ3.out, ← HZ2.out, ← HZ1.out] at SF
  refine .inl ⟨_, by simp only [eGrant, HE1.out, HE2.out, HE3.out, HE4.out, HE5.out, HE6.out, cat_ok_ok]; rfl, rfl, v6, ?_, TW.out.trans T6.out⟩
  simpa only [List.append_assoc] using SF
set_option maxRecDepth 100000 in
set_option maxHeartbeats 16000000 in
theorem wr_many_Grant (A : Option Addr) (c : Nat) {l : List TGrant} {w0 w : World} {g : Nat} {v : Value} {z0 : Bs} (h0 : kGrant.C w0 A l.length l) (hS : WAt w0 w g v z0) (hr : z0.length + wList wGrant l < 140737488355328) :
    Calls Try.prog 116 #[.pointer (some ⟨g, 0, none⟩), .slice A l.length c, .func (.func 117) #[] #[]] w (WDone w0 g w (eList eGrant l) z0) := by
  have hx1 : l.length ≤ 9223372036854775807 := h0.2.1
  have S0 := Lib.hid hS
  clear hS
  by_cases h4 : 4096 < l.length
  · have HE := Lib.hid (show eList eGrant l = .error 2 from if_pos h4)
    have h4' : (4096 : Int) < (l.length : Int) := by omega
    clear h4 hr
    go_enter Try.func116, Try.ntmps116
    go_wp2
    exact ⟨rfl, .inr ⟨2, HE.out, rfl, S0.out.below, Stp.refl _ _⟩⟩
  · have hlen : eList eGrant l = cat (eNum l.length) (cats (l.map eGrant)) := if_neg h4
    have hnum : eNum (l.length : Int) = .ok (lows (l.length : Int) 4) := if_pos ⟨by omega, by omega⟩
    have hwl : wList wGrant l = 4 + wSum wGrant l := if_neg h4
    rw [hwl] at hr
    rw [hnum] at hlen
    clear hwl
    have HL := Lib.hid hlen
    have HN := Lib.hid hnum
    clear hlen hnum
    have h4' : (l.length : Int) ≤ 4096 := by omega
    go_enter Try.func116, Try.ntmps116
    go_wp2_with fail
    refine (wr_number (l.length : Int) S0.out (by omega)).mono ?_
    rintro e w1 (⟨b1, hb1, rfl, v1, S1', T1'⟩ | ⟨c1, hc1, _⟩)
    rotate_left
    · exact absurd (HN.out.symm.trans hc1) (by simp)
    rw [HN.out] at hb1
    cases hb1
    have S1 := Lib.hid S1'
    have T1 := Lib.hid T1'
    clear S1' T1' S0
    go_wp2_with fail
    go_loopw [19] (fun i wr => ∃ k : Nat, k ≤ l.length ∧ i = .int .i64 k ∧ ∃ vr b, cats ((l.take k).map eGrant) = .ok b ∧ WAt w0 wr g vr (z0 ++ lows (l.length : Int) 4 ++ b) ∧ Stp SW w wr) (fun i _ => l.length - (intOf i).toNat)
    case atStart => exact ⟨0, Nat.zero_le _, rfl, v1, [], rfl, by rw [List.append_nil]; exact S1.out, T1.out⟩
    case round =>
      obtain ⟨k, hk, rfl, vr, b, hb, hS, hT⟩ := hrel
      have SR := Lib.hid hS
      have TR := Lib.hid hT
      have HBK := Lib.hid hb
      clear hS hT hb S1 T1
      by_cases hlt : k < l.length
      · have hroom : (z0 ++ lows (l.length : Int) 4 ++ b).length + wGrant l[k] < 140737488355328 := by
          have h1 := cats_len codGrant.len _ _ HBK.out
          have h2 := wSum_take wGrant l k hlt
          have h3 := wSum_le wGrant l (k + 1)
          rw [List.length_append, List.length_append, lows_length]
          omega
        obtain ⟨ad, e0, g0, g1, g2, g3, g4, g5⟩ := atGrant h0 k hlt
        cases e0
        have g0' := pw_cell_below SR.out.below g0
        clear g0
        have g1' := pw_cell_below SR.out.below g1
        clear g1
        have g2' := pw_cell_below SR.out.below g2
        clear g2
        have g3' := pw_cell_below SR.out.below g3
        clear g3
        have g4' := pw_cell_below SR.out.below g4
        clear g4
        have g5' := pw_cell_below SR.out.below g5
        clear g5
        obtain ⟨W1, hW1, Z0', TB'⟩ := wr_box SR.out TR.out #[.string l[k].1, .string l[k].2.1, .int .i64 l[k].2.2.1, .string l[k].2.2.2.1, .string l[k].2.2.2.2.1, .bool l[k].2.2.2.2.2] 166
        clear SR TR
        have SR := Lib.hid Z0'
        have TR := Lib.hid TB'
        have HW1 := Lib.hid hW1
        clear Z0' TB' hW1
        go_wp2_with fail
        clear g0' g1' g2' g3' g4' g5'
        rw [HW1.out]
        clear HW1
        refine (wr_grant l[k]   SR.out hroom).mono ?_
        rintro e w2 (⟨b2, hb2, rfl, v2, S2', T2'⟩ | ⟨c2, hc2, rfl, hbe, T2'⟩)
        rotate_left
        · exact ⟨rfl, .inr ⟨c2, by rw [HL.out, cats_fault _ l k hlt HBK.out hc2]; rfl, rfl, hbe, TR.out.trans T2'⟩⟩
        have hb3 : cats ((l.take (k + 1)).map eGrant) = .ok (b ++ b2) := by rw [cats_take _ l k hlt, HBK.out, hb2]; rfl
        rw [List.append_assoc] at S2'
        have S2 := Lib.hid S2'
        have T2 := Lib.hid (TR.out.trans T2')
        have HB3 := Lib.hid hb3
        clear S2' T2' hb3 hb2 SR TR HBK hroom
        go_wp2
        go_roundw
        case rel => exact ⟨k + 1, by omega, by simp, _, _, HB3.out, S2.out, T2.out⟩
        case measure => simp [intOf]; omega
      · have hke : k = l.length := by omega
        have HF := Lib.hid hke
        clear hke
        go_wp2
        go_end0
        have hb := HBK.out
        rw [HF.out, List.take_length] at hb
        have hs := SR.out
        rw [List.append_assoc] at hs
        exact .inl ⟨_, by rw [HL.out, hb]; rfl, rfl, _, hs, TR.out⟩
set_option maxRecDepth 100000 in
set_option maxHeartbeats 16000000 in
theorem wr_catalog (x : TCatalog) (A2 : Option Addr) (c2 : Nat) (A3 : Option Addr) (c3 : Nat) (A4 : Option Addr) (c4 : Nat) (A5 : Option Addr) (c5 : Nat) (A6 : Option Addr) (c6 : Nat) {w0 w : World} {g : Nat} {v : Value} {z0 : Bs} (h2 : kSchema.C w0 A2 x.2.2.1.1.length x.2.2.1.1) (h3 : kTable.C w0 A3 x.2.2.1.2.length x.2.2.1.2) (h4 : Kd.string.C w0 A4 x.2.2.2.1.1.length x.2.2.2.1.1) (h5 : kMember.C w0 A5 x.2.2.2.1.2.length x.2.2.2.1.2) (h6 : kGrant.C w0 A6 x.2.2.2.2.length x.2.2.2.2) (hS : WAt w0 w g v z0) (hm : z0.length + wCatalog x < 140737488355328) :
    Calls Try.prog 59 #[.pointer (some ⟨g, 0, none⟩), .agg #[.int .i64 x.1, .int .i64 x.2.1, .slice A2 x.2.2.1.1.length c2, .slice A3 x.2.2.1.2.length c3, .slice A4 x.2.2.2.1.1.length c4, .slice A5 x.2.2.2.1.2.length c5, .slice A6 x.2.2.2.2.length c6]] w (WDone w0 g w (eCatalog x) z0) := by
  have hm' : z0.length + (4 + (4 + (((wList wSchema) x.2.2.1.1 + ((wList wTable) x.2.2.1.2)) + (((wList wText) x.2.2.2.1.1 + ((wList wMember) x.2.2.2.1.2)) + ((wList wGrant) x.2.2.2.2))))) < 140737488355328 := hm
  clear hm
  have hb0 : Below w.heap.size w (w.alloc (.cells #[.int .i64 x.1, .int .i64 x.2.1, .slice A2 x.2.2.1.1.length c2, .slice A3 x.2.2.1.2.length c3, .slice A4 x.2.2.2.1.1.length c4, .slice A5 x.2.2.2.1.2.length c5, .slice A6 x.2.2.2.2.length c6] 74)) := (Below.refl _ _).alloc (Nat.le_refl _) _
  have hx0 := blk_new w (.cells #[.int .i64 x.1, .int .i64 x.2.1, .slice A2 x.2.2.1.1.length c2, .slice A3 x.2.2.1.2.length c3, .slice A4 x.2.2.2.1.1.length c4, .slice A5 x.2.2.2.1.2.length c5, .slice A6 x.2.2.2.2.length c6] 74)
  obtain ⟨W0, hW0⟩ : ∃ W0, w.alloc (.cells #[.int .i64 x.1, .int .i64 x.2.1, .slice A2 x.2.2.1.1.length c2, .slice A3 x.2.2.1.2.length c3, .slice A4 x.2.2.2.1.1.length c4, .slice A5 x.2.2.2.1.2.length c5, .slice A6 x.2.2.2.2.length c6] 74) = W0 := ⟨_, rfl⟩
  rw [hW0] at hb0 hx0
  have S0 := Lib.hid (hS.stays hb0)
  have HB := Lib.hid hx0
  have T0 := Lib.hid (Stp.refl SW W0)
  have TW := Lib.hid (Stp.below (S := SW) hb0)
  have HW := Lib.hid hW0
  clear hb0 hx0 hW0 hS
  go_enter Try.func59, Try.ntmps59
  have q0 := cell_blk (T0.out.keep HB.out (by decide)) 0 _ rfl
  go_wp2_with fail
  rw [HW.out]
  clear HW
  clear q0
  refine (wr_number (x.1)   S0.out (by omega)).mono ?_
  rintro e w1 (⟨b1, hb1, rfl, v1, S1', T1'⟩ | ⟨c, hc, rfl, hbe, T1'⟩)
  rotate_left
  · exact ⟨rfl, .inr ⟨c, by simp only [eCatalog, eObjects, eRoles, hc, cat_err, cat_ok_err, cat_ok_ok], rfl, hbe, TW.out.trans (T0.out.trans T1')⟩⟩
  have hn1 : b1.length = 4 := cod_num.len _ _ hb1
  obtain ⟨z1, hz1⟩ : ∃ z, z0 ++ b1 = z := ⟨_, rfl⟩
  rw [hz1] at S1'
  have hl1 : z1.length ≤ z0.length + (4) := by rw [← hz1, List.length_append]; omega
  have S1 := Lib.hid S1'
  have T1 := Lib.hid (T0.out.trans T1')
  have HE1 := Lib.hid hb1
  have HZ1 := Lib.hid hz1
  clear S1' T1' hb1 hz1 hn1 S0 T0
  have q1 := cell_blk (T1.out.keep HB.out (by decide)) 1 _ rfl
  go_wp2_with fail
  clear q1
  refine (wr_number (x.2.1)   S1.out (by have := hl1; omega)).mono ?_
  rintro e w2 (⟨b2, hb2, rfl, v2, S2', T2'⟩ | ⟨c, hc, rfl, hbe, T2'⟩)
  rotate_left
  · exact ⟨rfl, .inr ⟨c, by simp only [eCatalog, eObjects, eRoles, HE1.out, hc, cat_err, cat_ok_err, cat_ok_ok], rfl, hbe, TW.out.trans (T1.out.trans T2')⟩⟩
  have hn2 : b2.length = 4 := cod_num.len _ _ hb2
  obtain ⟨z2, hz2⟩ : ∃ z, z1 ++ b2 = z := ⟨_, rfl⟩
  rw [hz2] at S2'
  have hl2 : z2.length ≤ z0.length + (4 + (4)) := by rw [← hz2, List.length_append]; have := hl1; omega
  have S2 := Lib.hid S2'
  have T2 := Lib.hid (T1.out.trans T2')
  have HE2 := Lib.hid hb2
  have HZ2 := Lib.hid hz2
  clear S2' T2' hb2 hz2 hn2 S1 T1 hl1
  have q2 := cell_blk (T2.out.keep HB.out (by decide)) 2 _ rfl
  go_wp2_with fail
  clear q2
  refine (wr_many_Schema A2 c2 (l := x.2.2.1.1) h2 S2.out (by have := hl2; omega)).mono ?_
  rintro e w3 (⟨b3, hb3, rfl, v3, S3', T3'⟩ | ⟨c, hc, rfl, hbe, T3'⟩)
  rotate_left
  · exact ⟨rfl, .inr ⟨c, by simp only [eCatalog, eObjects, eRoles, HE1.out, HE2.out, hc, cat_err, cat_ok_err, cat_ok_ok], rfl, hbe, TW.out.trans (T2.out.trans T3')⟩⟩
  have hn3 : b3.length = (wList wSchema) x.2.2.1.1 := (cod_list codSchema).len _ _ hb3
  obtain ⟨z3, hz3⟩ : ∃ z, z2 ++ b3 = z := ⟨_, rfl⟩
  rw [hz3] at S3'
  have hl3 : z3.length ≤ z0.length + (4 + (4 + ((wList wSchema) x.2.2.1.1))) := by rw [← hz3, List.length_append]; have := hl2; omega
  have S3 := Lib.hid S3'
  have T3 := Lib.hid (T2.out.trans T3')
  have HE3 := Lib.hid hb3
  have HZ3 := Lib.hid hz3
  clear S3' T3' hb3 hz3 hn3 S2 T2 hl2
  have q3 := cell_blk (T3.out.keep HB.out (by decide)) 3 _ rfl
  go_wp2_with fail
  clear q3
  refine (wr_many_Table A3 c3 (l := x.2.2.1.2) h3 S3.out (by have := hl3; omega)).mono ?_
  rintro e w4 (⟨b4, hb4, rfl, v4, S4', T4'⟩ | ⟨c, hc, rfl, hbe, T4'⟩)
  rotate_left
  · exact ⟨rfl, .inr ⟨c, by simp only [eCatalog, eObjects, eRoles, HE1.out, HE2.out, HE3.out, hc, cat_err, cat_ok_err, cat_ok_ok], rfl, hbe, TW.out.trans (T3.out.trans T4')⟩⟩
  have hn4 : b4.length = (wList wTable) x.2.2.1.2 := (cod_list codTable).len _ _ hb4
  obtain ⟨z4, hz4⟩ : ∃ z, z3 ++ b4 = z := ⟨_, rfl⟩
  rw [hz4] at S4'
  have hl4 : z4.length ≤ z0.length + (4 + (4 + ((wList wSchema) x.2.2.1.1 + ((wList wTable) x.2.2.1.2)))) := by rw [← hz4, List.length_append]; have := hl3; omega
  have S4 := Lib.hid S4'
  have T4 := Lib.hid (T3.out.trans T4')
  have HE4 := Lib.hid hb4
  have HZ4 := Lib.hid hz4
  clear S4' T4' hb4 hz4 hn4 S3 T3 hl3
  have q4 := cell_blk (T4.out.keep HB.out (by decide)) 4 _ rfl
  go_wp2_with fail
  clear q4
  refine (wr_many_text A4 c4 (l := x.2.2.2.1.1) h4 S4.out (by have := hl4; omega)).mono ?_
  rintro e w5 (⟨b5, hb5, rfl, v5, S5', T5'⟩ | ⟨c, hc, rfl, hbe, T5'⟩)
  rotate_left
  · exact ⟨rfl, .inr ⟨c, by simp only [eCatalog, eObjects, eRoles, HE1.out, HE2.out, HE3.out, HE4.out, hc, cat_err, cat_ok_err, cat_ok_ok], rfl, hbe, TW.out.trans (T4.out.trans T5')⟩⟩
  have hn5 : b5.length = (wList wText) x.2.2.2.1.1 := (cod_list cod_text).len _ _ hb5
  obtain ⟨z5, hz5⟩ : ∃ z, z4 ++ b5 = z := ⟨_, rfl⟩
  rw [hz5] at S5'
  have hl5 : z5.length ≤ z0.length + (4 + (4 + ((wList wSchema) x.2.2.1.1 + ((wList wTable) x.2.2.1.2 + ((wList wText) x.2.2.2.1.1))))) := by rw [← hz5, List.length_append]; have := hl4; omega
  have S5 := Lib.hid S5'
  have T5 := Lib.hid (T4.out.trans T5')
  have HE5 := Lib.hid hb5
  have HZ5 := Lib.hid hz5
  clear S5' T5' hb5 hz5 hn5 S4 T4 hl4
  have q5 := cell_blk (T5.out.keep HB.out (by decide)) 5 _ rfl
  go_wp2_with fail
  clear q5
  refine (wr_many_Member A5 c5 (l := x.2.2.2.1.2) h5 S5.out (by have := hl5; omega)).mono ?_
  rintro e w6 (⟨b6, hb6, rfl, v6, S6', T6'⟩ | ⟨c, hc, rfl, hbe, T6'⟩)
  rotate_left
  · exact ⟨rfl, .inr ⟨c, by simp only [eCatalog, eObjects, eRoles, HE1.out, HE2.out, HE3.out, HE4.out, HE5.out, hc, cat_err, cat_ok_err, cat_ok_ok], rfl, hbe, TW.out.trans (T5.out.trans T6')⟩⟩
  have hn6 : b6.length = (wList wMember) x.2.2.2.1.2 := (cod_list codMember).len _ _ hb6
  obtain ⟨z6, hz6⟩ : ∃ z, z5 ++ b6 = z := ⟨_, rfl⟩
  rw [hz6] at S6'
  have hl6 : z6.length ≤ z0.length + (4 + (4 + ((wList wSchema) x.2.2.1.1 + ((wList wTable) x.2.2.1.2 + ((wList wText) x.2.2.2.1.1 + ((wList wMember) x.2.2.2.1.2)))))) := by rw [← hz6, List.length_append]; have := hl5; omega
  have S6 := Lib.hid S6'
  have T6 := Lib.hid (T5.out.trans T6')
  have HE6 := Lib.hid hb6
  have HZ6 := Lib.hid hz6
  clear S6' T6' hb6 hz6 hn6 S5 T5 hl5
  have q6 := cell_blk (T6.out.keep HB.out (by decide)) 6 _ rfl
  go_wp2_with fail
  clear q6
  refine (wr_many_Grant A6 c6 (l := x.2.2.2.2) h6 S6.out (by have := hl6; omega)).mono ?_
  rintro e w7 (⟨b7, hb7, rfl, v7, S7', T7'⟩ | ⟨c, hc, rfl, hbe, T7'⟩)
  rotate_left
  · exact ⟨rfl, .inr ⟨c, by simp only [eCatalog, eObjects, eRoles, HE1.out, HE2.out, HE3.out, HE4.out, HE5.out, HE6.out, hc, cat_err, cat_ok_err, cat_ok_ok], rfl, hbe, TW.out.trans (T6.out.trans T7')⟩⟩
  have hn7 : b7.length = (wList wGrant) x.2.2.2.2 := (cod_list codGrant).len _ _ hb7
  obtain ⟨z7, hz7⟩ : ∃ z, z6 ++ b7 = z := ⟨_, rfl⟩
  rw [hz7] at S7'
  have hl7 : z7.length ≤ z0.length + (4 + (4 + ((wList wSchema) x.2.2.1.1 + ((wList wTable) x.2.2.1.2 + ((wList wText) x.2.2.2.1.1 + ((wList wMember) x.2.2.2.1.2 + ((wList wGrant) x.2.2.2.2))))))) := by rw [← hz7, List.length_append]; have := hl6; omega
  have S7 := Lib.hid S7'
  have T7 := Lib.hid (T6.out.trans T7')
  have HE7 := Lib.hid hb7
  have HZ7 := Lib.hid hz7
  clear S7' T7' hb7 hz7 hn7 S6 T6 hl6
  go_wp2
  go_end0
  have SF := S7.out
  rw [← HZ7.out, ← HZ6.out, ← HZ5.out, ← HZ4.out, ← HZ3.out, ← HZ2.out, ← HZ1.out] at SF
  refine .inl ⟨_, by simp only [eCatalog, eObjects, eRoles, HE1.out, HE2.out, HE3.out, HE4.out, HE5.out, HE6.out, HE7.out, cat_ok_ok]; rfl, rfl, v7, ?_, TW.out.trans T7.out⟩
  simpa only [List.append_assoc] using SF
end Go.Proofs.Ytoomcdgnnibjlaa.Wr
/- The program's writer. -/
namespace Go.Proofs.Ytoomcdgnnibjlaa.Wr
open Go.RowKit Go.Proofs.YtoomcdgnnibjlaaW.PrintWords Go.Proofs.YtoomcdgnnibjlaaW.PrintLast
set_option linter.unusedVariables false
set_option linter.unusedSimpArgs false

set_option maxRecDepth 100000 in
set_option maxHeartbeats 16000000 in
theorem wr_done (x : TDone)  {w0 w : World} {g : Nat} {v : Value} {z0 : Bs}  (hS : WAt w0 w g v z0) (hm : z0.length + wDone x < 140737488355328) :
    Calls Try.prog 133 #[.pointer (some ⟨g, 0, none⟩), .agg #[.int .i64 x.1, .int .i64 x.2.1, .int .i64 x.2.2.1, .int .i64 x.2.2.2.1, .int .i64 x.2.2.2.2]] w (WDone w0 g w (eDone x) z0) := by
  have hm' : z0.length + (4 + (4 + (4 + (4 + (4))))) < 140737488355328 := hm
  clear hm
  have hb0 : Below w.heap.size w (w.alloc (.cells #[.int .i64 x.1, .int .i64 x.2.1, .int .i64 x.2.2.1, .int .i64 x.2.2.2.1, .int .i64 x.2.2.2.2] 203)) := (Below.refl _ _).alloc (Nat.le_refl _) _
  have hx0 := blk_new w (.cells #[.int .i64 x.1, .int .i64 x.2.1, .int .i64 x.2.2.1, .int .i64 x.2.2.2.1, .int .i64 x.2.2.2.2] 203)
  obtain ⟨W0, hW0⟩ : ∃ W0, w.alloc (.cells #[.int .i64 x.1, .int .i64 x.2.1, .int .i64 x.2.2.1, .int .i64 x.2.2.2.1, .int .i64 x.2.2.2.2] 203) = W0 := ⟨_, rfl⟩
  rw [hW0] at hb0 hx0
  have S0 := Lib.hid (hS.stays hb0)
  have HB := Lib.hid hx0
  have T0 := Lib.hid (Stp.refl SW W0)
  have TW := Lib.hid (Stp.below (S := SW) hb0)
  have HW := Lib.hid hW0
  clear hb0 hx0 hW0 hS
  go_enter Try.func133, Try.ntmps133
  have q0 := cell_blk (T0.out.keep HB.out (by decide)) 0 _ rfl
  go_wp2_with fail
  rw [HW.out]
  clear HW
  clear q0
  refine (wr_number (x.1)   S0.out (by omega)).mono ?_
  rintro e w1 (⟨b1, hb1, rfl, v1, S1', T1'⟩ | ⟨c, hc, rfl, hbe, T1'⟩)
  rotate_left
  · exact ⟨rfl, .inr ⟨c, by simp only [eDone, hc, cat_err, cat_ok_err, cat_ok_ok], rfl, hbe, TW.out.trans (T0.out.trans T1')⟩⟩
  have hn1 : b1.length = 4 := cod_num.len _ _ hb1
  obtain ⟨z1, hz1⟩ : ∃ z, z0 ++ b1 = z := ⟨_, rfl⟩
  rw [hz1] at S1'
  have hl1 : z1.length ≤ z0.length + (4) := by rw [← hz1, List.length_append]; omega
  have S1 := Lib.hid S1'
  have T1 := Lib.hid (T0.out.trans T1')
  have HE1 := Lib.hid hb1
  have HZ1 := Lib.hid hz1
  clear S1' T1' hb1 hz1 hn1 S0 T0
  have q1 := cell_blk (T1.out.keep HB.out (by decide)) 1 _ rfl
  go_wp2_with fail
  clear q1
  refine (wr_number (x.2.1)   S1.out (by have := hl1; omega)).mono ?_
  rintro e w2 (⟨b2, hb2, rfl, v2, S2', T2'⟩ | ⟨c, hc, rfl, hbe, T2'⟩)
  rotate_left
  · exact ⟨rfl, .inr ⟨c, by simp only [eDone, HE1.out, hc, cat_err, cat_ok_err, cat_ok_ok], rfl, hbe, TW.out.trans (T1.out.trans T2')⟩⟩
  have hn2 : b2.length = 4 := cod_num.len _ _ hb2
  obtain ⟨z2, hz2⟩ : ∃ z, z1 ++ b2 = z := ⟨_, rfl⟩
  rw [hz2] at S2'
  have hl2 : z2.length ≤ z0.length + (4 + (4)) := by rw [← hz2, List.length_append]; have := hl1; omega
  have S2 := Lib.hid S2'
  have T2 := Lib.hid (T1.out.trans T2')
  have HE2 := Lib.hid hb2
  have HZ2 := Lib.hid hz2
  clear S2' T2' hb2 hz2 hn2 S1 T1 hl1
  have q2 := cell_blk (T2.out.keep HB.out (by decide)) 2 _ rfl
  go_wp2_with fail
  clear q2
  refine (wr_number (x.2.2.1)   S2.out (by have := hl2; omega)).mono ?_
  rintro e w3 (⟨b3, hb3, rfl, v3, S3', T3'⟩ | ⟨c, hc, rfl, hbe, T3'⟩)
  rotate_left
  · exact ⟨rfl, .inr ⟨c, by simp only [eDone, HE1.out, HE2.out, hc, cat_err, cat_ok_err, cat_ok_ok], rfl, hbe, TW.out.trans (T2.out.trans T3')⟩⟩
  have hn3 : b3.length = 4 := cod_num.len _ _ hb3
  obtain ⟨z3, hz3⟩ : ∃ z, z2 ++ b3 = z := ⟨_, rfl⟩
  rw [hz3] at S3'
  have hl3 : z3.length ≤ z0.length + (4 + (4 + (4))) := by rw [← hz3, List.length_append]; have := hl2; omega
  have S3 := Lib.hid S3'
  have T3 := Lib.hid (T2.out.trans T3')
  have HE3 := Lib.hid hb3
  have HZ3 := Lib.hid hz3
  clear S3' T3' hb3 hz3 hn3 S2 T2 hl2
  have q3 := cell_blk (T3.out.keep HB.out (by decide)) 3 _ rfl
  go_wp2_with fail
  clear q3
  refine (wr_number (x.2.2.2.1)   S3.out (by have := hl3; omega)).mono ?_
  rintro e w4 (⟨b4, hb4, rfl, v4, S4', T4'⟩ | ⟨c, hc, rfl, hbe, T4'⟩)
  rotate_left
  · exact ⟨rfl, .inr ⟨c, by simp only [eDone, HE1.out, HE2.out, HE3.out, hc, cat_err, cat_ok_err, cat_ok_ok], rfl, hbe, TW.out.trans (T3.out.trans T4')⟩⟩
  have hn4 : b4.length = 4 := cod_num.len _ _ hb4
  obtain ⟨z4, hz4⟩ : ∃ z, z3 ++ b4 = z := ⟨_, rfl⟩
  rw [hz4] at S4'
  have hl4 : z4.length ≤ z0.length + (4 + (4 + (4 + (4)))) := by rw [← hz4, List.length_append]; have := hl3; omega
  have S4 := Lib.hid S4'
  have T4 := Lib.hid (T3.out.trans T4')
  have HE4 := Lib.hid hb4
  have HZ4 := Lib.hid hz4
  clear S4' T4' hb4 hz4 hn4 S3 T3 hl3
  have q4 := cell_blk (T4.out.keep HB.out (by decide)) 4 _ rfl
  go_wp2_with fail
  clear q4
  refine (wr_number (x.2.2.2.2)   S4.out (by have := hl4; omega)).mono ?_
  rintro e w5 (⟨b5, hb5, rfl, v5, S5', T5'⟩ | ⟨c, hc, rfl, hbe, T5'⟩)
  rotate_left
  · exact ⟨rfl, .inr ⟨c, by simp only [eDone, HE1.out, HE2.out, HE3.out, HE4.out, hc, cat_err, cat_ok_err, cat_ok_ok], rfl, hbe, TW.out.trans (T4.out.trans T5')⟩⟩
  have hn5 : b5.length = 4 := cod_num.len _ _ hb5
  obtain ⟨z5, hz5⟩ : ∃ z, z4 ++ b5 = z := ⟨_, rfl⟩
  rw [hz5] at S5'
  have hl5 : z5.length ≤ z0.length + (4 + (4 + (4 + (4 + (4))))) := by rw [← hz5, List.length_append]; have := hl4; omega
  have S5 := Lib.hid S5'
  have T5 := Lib.hid (T4.out.trans T5')
  have HE5 := Lib.hid hb5
  have HZ5 := Lib.hid hz5
  clear S5' T5' hb5 hz5 hn5 S4 T4 hl4
  go_wp2
  go_end0
  have SF := S5.out
  rw [← HZ5.out, ← HZ4.out, ← HZ3.out, ← HZ2.out, ← HZ1.out] at SF
  refine .inl ⟨_, by simp only [eDone, HE1.out, HE2.out, HE3.out, HE4.out, HE5.out, cat_ok_ok]; rfl, rfl, v5, ?_, TW.out.trans T5.out⟩
  simpa only [List.append_assoc] using SF
set_option maxRecDepth 100000 in
set_option maxHeartbeats 16000000 in
theorem wr_many_Done (A : Option Addr) (c : Nat) {l : List TDone} {w0 w : World} {g : Nat} {v : Value} {z0 : Bs} (h0 : kDone.C w0 A l.length l) (hS : WAt w0 w g v z0) (hr : z0.length + wList wDone l < 140737488355328) :
    Calls Try.prog 132 #[.pointer (some ⟨g, 0, none⟩), .slice A l.length c, .func (.func 133) #[] #[]] w (WDone w0 g w (eList eDone l) z0) := by
  have hx1 : l.length ≤ 9223372036854775807 := h0.2.1
  have S0 := Lib.hid hS
  clear hS
  by_cases h4 : 4096 < l.length
  · have HE := Lib.hid (show eList eDone l = .error 2 from if_pos h4)
    have h4' : (4096 : Int) < (l.length : Int) := by omega
    clear h4 hr
    go_enter Try.func132, Try.ntmps132
    go_wp2
    exact ⟨rfl, .inr ⟨2, HE.out, rfl, S0.out.below, Stp.refl _ _⟩⟩
  · have hlen : eList eDone l = cat (eNum l.length) (cats (l.map eDone)) := if_neg h4
    have hnum : eNum (l.length : Int) = .ok (lows (l.length : Int) 4) := if_pos ⟨by omega, by omega⟩
    have hwl : wList wDone l = 4 + wSum wDone l := if_neg h4
    rw [hwl] at hr
    rw [hnum] at hlen
    clear hwl
    have HL := Lib.hid hlen
    have HN := Lib.hid hnum
    clear hlen hnum
    have h4' : (l.length : Int) ≤ 4096 := by omega
    go_enter Try.func132, Try.ntmps132
    go_wp2_with fail
    refine (wr_number (l.length : Int) S0.out (by omega)).mono ?_
    rintro e w1 (⟨b1, hb1, rfl, v1, S1', T1'⟩ | ⟨c1, hc1, _⟩)
    rotate_left
    · exact absurd (HN.out.symm.trans hc1) (by simp)
    rw [HN.out] at hb1
    cases hb1
    have S1 := Lib.hid S1'
    have T1 := Lib.hid T1'
    clear S1' T1' S0
    go_wp2_with fail
    go_loopw [19] (fun i wr => ∃ k : Nat, k ≤ l.length ∧ i = .int .i64 k ∧ ∃ vr b, cats ((l.take k).map eDone) = .ok b ∧ WAt w0 wr g vr (z0 ++ lows (l.length : Int) 4 ++ b) ∧ Stp SW w wr) (fun i _ => l.length - (intOf i).toNat)
    case atStart => exact ⟨0, Nat.zero_le _, rfl, v1, [], rfl, by rw [List.append_nil]; exact S1.out, T1.out⟩
    case round =>
      obtain ⟨k, hk, rfl, vr, b, hb, hS, hT⟩ := hrel
      have SR := Lib.hid hS
      have TR := Lib.hid hT
      have HBK := Lib.hid hb
      clear hS hT hb S1 T1
      by_cases hlt : k < l.length
      · have hroom : (z0 ++ lows (l.length : Int) 4 ++ b).length + wDone l[k] < 140737488355328 := by
          have h1 := cats_len codDone.len _ _ HBK.out
          have h2 := wSum_take wDone l k hlt
          have h3 := wSum_le wDone l (k + 1)
          rw [List.length_append, List.length_append, lows_length]
          omega
        obtain ⟨ad, e0, g0, g1, g2, g3, g4⟩ := atDone h0 k hlt
        cases e0
        have g0' := pw_cell_below SR.out.below g0
        clear g0
        have g1' := pw_cell_below SR.out.below g1
        clear g1
        have g2' := pw_cell_below SR.out.below g2
        clear g2
        have g3' := pw_cell_below SR.out.below g3
        clear g3
        have g4' := pw_cell_below SR.out.below g4
        clear g4
        obtain ⟨W1, hW1, Z0', TB'⟩ := wr_box SR.out TR.out #[.int .i64 l[k].1, .int .i64 l[k].2.1, .int .i64 l[k].2.2.1, .int .i64 l[k].2.2.2.1, .int .i64 l[k].2.2.2.2] 203
        clear SR TR
        have SR := Lib.hid Z0'
        have TR := Lib.hid TB'
        have HW1 := Lib.hid hW1
        clear Z0' TB' hW1
        go_wp2_with fail
        clear g0' g1' g2' g3' g4'
        rw [HW1.out]
        clear HW1
        refine (wr_done l[k]   SR.out hroom).mono ?_
        rintro e w2 (⟨b2, hb2, rfl, v2, S2', T2'⟩ | ⟨c2, hc2, rfl, hbe, T2'⟩)
        rotate_left
        · exact ⟨rfl, .inr ⟨c2, by rw [HL.out, cats_fault _ l k hlt HBK.out hc2]; rfl, rfl, hbe, TR.out.trans T2'⟩⟩
        have hb3 : cats ((l.take (k + 1)).map eDone) = .ok (b ++ b2) := by rw [cats_take _ l k hlt, HBK.out, hb2]; rfl
        rw [List.append_assoc] at S2'
        have S2 := Lib.hid S2'
        have T2 := Lib.hid (TR.out.trans T2')
        have HB3 := Lib.hid hb3
        clear S2' T2' hb3 hb2 SR TR HBK hroom
        go_wp2
        go_roundw
        case rel => exact ⟨k + 1, by omega, by simp, _, _, HB3.out, S2.out, T2.out⟩
        case measure => simp [intOf]; omega
      · have hke : k = l.length := by omega
        have HF := Lib.hid hke
        clear hke
        go_wp2
        go_end0
        have hb := HBK.out
        rw [HF.out, List.take_length] at hb
        have hs := SR.out
        rw [List.append_assoc] at hs
        exact .inl ⟨_, by rw [HL.out, hb]; rfl, rfl, _, hs, TR.out⟩
set_option maxRecDepth 100000 in
set_option maxHeartbeats 16000000 in
theorem wr_lease (x : TLease)  {w0 w : World} {g : Nat} {v : Value} {z0 : Bs}  (hS : WAt w0 w g v z0) (hm : z0.length + wLease x < 140737488355328) :
    Calls Try.prog 135 #[.pointer (some ⟨g, 0, none⟩), .agg #[.int .i64 x.1, .int .i64 x.2.1, .int .i64 x.2.2.1, .int .i64 x.2.2.2]] w (WDone w0 g w (eLease x) z0) := by
  have hm' : z0.length + (4 + (4 + (4 + (4)))) < 140737488355328 := hm
  clear hm
  have hb0 : Below w.heap.size w (w.alloc (.cells #[.int .i64 x.1, .int .i64 x.2.1, .int .i64 x.2.2.1, .int .i64 x.2.2.2] 205)) := (Below.refl _ _).alloc (Nat.le_refl _) _
  have hx0 := blk_new w (.cells #[.int .i64 x.1, .int .i64 x.2.1, .int .i64 x.2.2.1, .int .i64 x.2.2.2] 205)
  obtain ⟨W0, hW0⟩ : ∃ W0, w.alloc (.cells #[.int .i64 x.1, .int .i64 x.2.1, .int .i64 x.2.2.1, .int .i64 x.2.2.2] 205) = W0 := ⟨_, rfl⟩
  rw [hW0] at hb0 hx0
  have S0 := Lib.hid (hS.stays hb0)
  have HB := Lib.hid hx0
  have T0 := Lib.hid (Stp.refl SW W0)
  have TW := Lib.hid (Stp.below (S := SW) hb0)
  have HW := Lib.hid hW0
  clear hb0 hx0 hW0 hS
  go_enter Try.func135, Try.ntmps135
  have q0 := cell_blk (T0.out.keep HB.out (by decide)) 0 _ rfl
  go_wp2_with fail
  rw [HW.out]
  clear HW
  clear q0
  refine (wr_number (x.1)   S0.out (by omega)).mono ?_
  rintro e w1 (⟨b1, hb1, rfl, v1, S1', T1'⟩ | ⟨c, hc, rfl, hbe, T1'⟩)
  rotate_left
  · exact ⟨rfl, .inr ⟨c, by simp only [eLease, hc, cat_err, cat_ok_err, cat_ok_ok], rfl, hbe, TW.out.trans (T0.out.trans T1')⟩⟩
  have hn1 : b1.length = 4 := cod_num.len _ _ hb1
  obtain ⟨z1, hz1⟩ : ∃ z, z0 ++ b1 = z := ⟨_, rfl⟩
  rw [hz1] at S1'
  have hl1 : z1.length ≤ z0.length + (4) := by rw [← hz1, List.length_append]; omega
  have S1 := Lib.hid S1'
  have T1 := Lib.hid (T0.out.trans T1')
  have HE1 := Lib.hid hb1
  have HZ1 := Lib.hid hz1
  clear S1' T1' hb1 hz1 hn1 S0 T0
  have q1 := cell_blk (T1.out.keep HB.out (by decide)) 1 _ rfl
  go_wp2_with fail
  clear q1
  refine (wr_number (x.2.1)   S1.out (by have := hl1; omega)).mono ?_
  rintro e w2 (⟨b2, hb2, rfl, v2, S2', T2'⟩ | ⟨c, hc, rfl, hbe, T2'⟩)
  rotate_left
  · exact ⟨rfl, .inr ⟨c, by simp only [eLease, HE1.out, hc, cat_err, cat_ok_err, cat_ok_ok], rfl, hbe, TW.out.trans (T1.out.trans T2')⟩⟩
  have hn2 : b2.length = 4 := cod_num.len _ _ hb2
  obtain ⟨z2, hz2⟩ : ∃ z, z1 ++ b2 = z := ⟨_, rfl⟩
  rw [hz2] at S2'
  have hl2 : z2.length ≤ z0.length + (4 + (4)) := by rw [← hz2, List.length_append]; have := hl1; omega
  have S2 := Lib.hid S2'
  have T2 := Lib.hid (T1.out.trans T2')
  have HE2 := Lib.hid hb2
  have HZ2 := Lib.hid hz2
  clear S2' T2' hb2 hz2 hn2 S1 T1 hl1
  have q2 := cell_blk (T2.out.keep HB.out (by decide)) 2 _ rfl
  go_wp2_with fail
  clear q2
  refine (wr_number (x.2.2.1)   S2.out (by have := hl2; omega)).mono ?_
  rintro e w3 (⟨b3, hb3, rfl, v3, S3', T3'⟩ | ⟨c, hc, rfl, hbe, T3'⟩)
  rotate_left
  · exact ⟨rfl, .inr ⟨c, by simp only [eLease, HE1.out, HE2.out, hc, cat_err, cat_ok_err, cat_ok_ok], rfl, hbe, TW.out.trans (T2.out.trans T3')⟩⟩
  have hn3 : b3.length = 4 := cod_num.len _ _ hb3
  obtain ⟨z3, hz3⟩ : ∃ z, z2 ++ b3 = z := ⟨_, rfl⟩
  rw [hz3] at S3'
  have hl3 : z3.length ≤ z0.length + (4 + (4 + (4))) := by rw [← hz3, List.length_append]; have := hl2; omega
  have S3 := Lib.hid S3'
  have T3 := Lib.hid (T2.out.trans T3')
  have HE3 := Lib.hid hb3
  have HZ3 := Lib.hid hz3
  clear S3' T3' hb3 hz3 hn3 S2 T2 hl2
  have q3 := cell_blk (T3.out.keep HB.out (by decide)) 3 _ rfl
  go_wp2_with fail
  clear q3
  refine (wr_number (x.2.2.2)   S3.out (by have := hl3; omega)).mono ?_
  rintro e w4 (⟨b4, hb4, rfl, v4, S4', T4'⟩ | ⟨c, hc, rfl, hbe, T4'⟩)
  rotate_left
  · exact ⟨rfl, .inr ⟨c, by simp only [eLease, HE1.out, HE2.out, HE3.out, hc, cat_err, cat_ok_err, cat_ok_ok], rfl, hbe, TW.out.trans (T3.out.trans T4')⟩⟩
  have hn4 : b4.length = 4 := cod_num.len _ _ hb4
  obtain ⟨z4, hz4⟩ : ∃ z, z3 ++ b4 = z := ⟨_, rfl⟩
  rw [hz4] at S4'
  have hl4 : z4.length ≤ z0.length + (4 + (4 + (4 + (4)))) := by rw [← hz4, List.length_append]; have := hl3; omega
  have S4 := Lib.hid S4'
  have T4 := Lib.hid (T3.out.trans T4')
  have HE4 := Lib.hid hb4
  have HZ4 := Lib.hid hz4
  clear S4' T4' hb4 hz4 hn4 S3 T3 hl3
  go_wp2
  go_end0
  have SF := S4.out
  rw [← HZ4.out, ← HZ3.out, ← HZ2.out, ← HZ1.out] at SF
  refine .inl ⟨_, by simp only [eLease, HE1.out, HE2.out, HE3.out, HE4.out, cat_ok_ok]; rfl, rfl, v4, ?_, TW.out.trans T4.out⟩
  simpa only [List.append_assoc] using SF
set_option maxRecDepth 100000 in
set_option maxHeartbeats 16000000 in
theorem wr_many_Lease (A : Option Addr) (c : Nat) {l : List TLease} {w0 w : World} {g : Nat} {v : Value} {z0 : Bs} (h0 : kLease.C w0 A l.length l) (hS : WAt w0 w g v z0) (hr : z0.length + wList wLease l < 140737488355328) :
    Calls Try.prog 134 #[.pointer (some ⟨g, 0, none⟩), .slice A l.length c, .func (.func 135) #[] #[]] w (WDone w0 g w (eList eLease l) z0) := by
  have hx1 : l.length ≤ 9223372036854775807 := h0.2.1
  have S0 := Lib.hid hS
  clear hS
  by_cases h4 : 4096 < l.length
  · have HE := Lib.hid (show eList eLease l = .error 2 from if_pos h4)
    have h4' : (4096 : Int) < (l.length : Int) := by omega
    clear h4 hr
    go_enter Try.func134, Try.ntmps134
    go_wp2
    exact ⟨rfl, .inr ⟨2, HE.out, rfl, S0.out.below, Stp.refl _ _⟩⟩
  · have hlen : eList eLease l = cat (eNum l.length) (cats (l.map eLease)) := if_neg h4
    have hnum : eNum (l.length : Int) = .ok (lows (l.length : Int) 4) := if_pos ⟨by omega, by omega⟩
    have hwl : wList wLease l = 4 + wSum wLease l := if_neg h4
    rw [hwl] at hr
    rw [hnum] at hlen
    clear hwl
    have HL := Lib.hid hlen
    have HN := Lib.hid hnum
    clear hlen hnum
    have h4' : (l.length : Int) ≤ 4096 := by omega
    go_enter Try.func134, Try.ntmps134
    go_wp2_with fail
    refine (wr_number (l.length : Int) S0.out (by omega)).mono ?_
    rintro e w1 (⟨b1, hb1, rfl, v1, S1', T1'⟩ | ⟨c1, hc1, _⟩)
    rotate_left
    · exact absurd (HN.out.symm.trans hc1) (by simp)
    rw [HN.out] at hb1
    cases hb1
    have S1 := Lib.hid S1'
    have T1 := Lib.hid T1'
    clear S1' T1' S0
    go_wp2_with fail
    go_loopw [19] (fun i wr => ∃ k : Nat, k ≤ l.length ∧ i = .int .i64 k ∧ ∃ vr b, cats ((l.take k).map eLease) = .ok b ∧ WAt w0 wr g vr (z0 ++ lows (l.length : Int) 4 ++ b) ∧ Stp SW w wr) (fun i _ => l.length - (intOf i).toNat)
    case atStart => exact ⟨0, Nat.zero_le _, rfl, v1, [], rfl, by rw [List.append_nil]; exact S1.out, T1.out⟩
    case round =>
      obtain ⟨k, hk, rfl, vr, b, hb, hS, hT⟩ := hrel
      have SR := Lib.hid hS
      have TR := Lib.hid hT
      have HBK := Lib.hid hb
      clear hS hT hb S1 T1
      by_cases hlt : k < l.length
      · have hroom : (z0 ++ lows (l.length : Int) 4 ++ b).length + wLease l[k] < 140737488355328 := by
          have h1 := cats_len codLease.len _ _ HBK.out
          have h2 := wSum_take wLease l k hlt
          have h3 := wSum_le wLease l (k + 1)
          rw [List.length_append, List.length_append, lows_length]
          omega
        obtain ⟨ad, e0, g0, g1, g2, g3⟩ := atLease h0 k hlt
        cases e0
        have g0' := pw_cell_below SR.out.below g0
        clear g0
        have g1' := pw_cell_below SR.out.below g1
        clear g1
        have g2' := pw_cell_below SR.out.below g2
        clear g2
        have g3' := pw_cell_below SR.out.below g3
        clear g3
        obtain ⟨W1, hW1, Z0', TB'⟩ := wr_box SR.out TR.out #[.int .i64 l[k].1, .int .i64 l[k].2.1, .int .i64 l[k].2.2.1, .int .i64 l[k].2.2.2] 205
        clear SR TR
        have SR := Lib.hid Z0'
        have TR := Lib.hid TB'
        have HW1 := Lib.hid hW1
        clear Z0' TB' hW1
        go_wp2_with fail
        clear g0' g1' g2' g3'
        rw [HW1.out]
        clear HW1
        refine (wr_lease l[k]   SR.out hroom).mono ?_
        rintro e w2 (⟨b2, hb2, rfl, v2, S2', T2'⟩ | ⟨c2, hc2, rfl, hbe, T2'⟩)
        rotate_left
        · exact ⟨rfl, .inr ⟨c2, by rw [HL.out, cats_fault _ l k hlt HBK.out hc2]; rfl, rfl, hbe, TR.out.trans T2'⟩⟩
        have hb3 : cats ((l.take (k + 1)).map eLease) = .ok (b ++ b2) := by rw [cats_take _ l k hlt, HBK.out, hb2]; rfl
        rw [List.append_assoc] at S2'
        have S2 := Lib.hid S2'
        have T2 := Lib.hid (TR.out.trans T2')
        have HB3 := Lib.hid hb3
        clear S2' T2' hb3 hb2 SR TR HBK hroom
        go_wp2
        go_roundw
        case rel => exact ⟨k + 1, by omega, by simp, _, _, HB3.out, S2.out, T2.out⟩
        case measure => simp [intOf]; omega
      · have hke : k = l.length := by omega
        have HF := Lib.hid hke
        clear hke
        go_wp2
        go_end0
        have hb := HBK.out
        rw [HF.out, List.take_length] at hb
        have hs := SR.out
        rw [List.append_assoc] at hs
        exact .inl ⟨_, by rw [HL.out, hb]; rfl, rfl, _, hs, TR.out⟩
set_option maxRecDepth 100000 in
set_option maxHeartbeats 16000000 in
theorem wr_machine (x : TMachine) (A2 : Option Addr) (c2 : Nat) (A3 : Option Addr) (c3 : Nat) (A4 : Option Addr) (c4 : Nat) (A5 : Option Addr) (c5 : Nat) (A6 : Option Addr) (c6 : Nat) (A7 : Option Addr) (c7 : Nat) (A8 : Option Addr) (c8 : Nat) {w0 w : World} {g : Nat} {v : Value} {z0 : Bs} (h2 : kSchema.C w0 A2 x.1.2.2.1.1.length x.1.2.2.1.1) (h3 : kTable.C w0 A3 x.1.2.2.1.2.length x.1.2.2.1.2) (h4 : Kd.string.C w0 A4 x.1.2.2.2.1.1.length x.1.2.2.2.1.1) (h5 : kMember.C w0 A5 x.1.2.2.2.1.2.length x.1.2.2.2.1.2) (h6 : kGrant.C w0 A6 x.1.2.2.2.2.length x.1.2.2.2.2) (h7 : kDone.C w0 A7 x.2.1.length x.2.1) (h8 : kLease.C w0 A8 x.2.2.1.length x.2.2.1) (hS : WAt w0 w g v z0) (hm : z0.length + wMachine x < 140737488355328) :
    Calls Try.prog 65 #[.pointer (some ⟨g, 0, none⟩), .agg #[.int .i64 x.1.1, .int .i64 x.1.2.1, .slice A2 x.1.2.2.1.1.length c2, .slice A3 x.1.2.2.1.2.length c3, .slice A4 x.1.2.2.2.1.1.length c4, .slice A5 x.1.2.2.2.1.2.length c5, .slice A6 x.1.2.2.2.2.length c6, .slice A7 x.2.1.length c7, .slice A8 x.2.2.1.length c8, .int .i64 x.2.2.2]] w (WDone w0 g w (eMachine x) z0) := by
  have hm' : z0.length + (wCatalog x.1 + ((wList wDone) x.2.1 + ((wList wLease) x.2.2.1 + (4)))) < 140737488355328 := hm
  clear hm
  have hb0 : Below w.heap.size w (w.alloc (.cells #[.int .i64 x.1.1, .int .i64 x.1.2.1, .slice A2 x.1.2.2.1.1.length c2, .slice A3 x.1.2.2.1.2.length c3, .slice A4 x.1.2.2.2.1.1.length c4, .slice A5 x.1.2.2.2.1.2.length c5, .slice A6 x.1.2.2.2.2.length c6, .slice A7 x.2.1.length c7, .slice A8 x.2.2.1.length c8, .int .i64 x.2.2.2] 82)) := (Below.refl _ _).alloc (Nat.le_refl _) _
  have hx0 := blk_new w (.cells #[.int .i64 x.1.1, .int .i64 x.1.2.1, .slice A2 x.1.2.2.1.1.length c2, .slice A3 x.1.2.2.1.2.length c3, .slice A4 x.1.2.2.2.1.1.length c4, .slice A5 x.1.2.2.2.1.2.length c5, .slice A6 x.1.2.2.2.2.length c6, .slice A7 x.2.1.length c7, .slice A8 x.2.2.1.length c8, .int .i64 x.2.2.2] 82)
  obtain ⟨W0, hW0⟩ : ∃ W0, w.alloc (.cells #[.int .i64 x.1.1, .int .i64 x.1.2.1, .slice A2 x.1.2.2.1.1.length c2, .slice A3 x.1.2.2.1.2.length c3, .slice A4 x.1.2.2.2.1.1.length c4, .slice A5 x.1.2.2.2.1.2.length c5, .slice A6 x.1.2.2.2.2.length c6, .slice A7 x.2.1.length c7, .slice A8 x.2.2.1.length c8, .int .i64 x.2.2.2] 82) = W0 := ⟨_, rfl⟩
  rw [hW0] at hb0 hx0
  have S0 := Lib.hid (hS.stays hb0)
  have HB := Lib.hid hx0
  have T0 := Lib.hid (Stp.refl SW W0)
  have TW := Lib.hid (Stp.below (S := SW) hb0)
  have HW := Lib.hid hW0
  clear hb0 hx0 hW0 hS
  go_enter Try.func65, Try.ntmps65
  have HR := Lib.hid (range_blk [] [.int .i64 x.1.1, .int .i64 x.1.2.1, .slice A2 x.1.2.2.1.1.length c2, .slice A3 x.1.2.2.1.2.length c3, .slice A4 x.1.2.2.2.1.1.length c4, .slice A5 x.1.2.2.2.1.2.length c5, .slice A6 x.1.2.2.2.2.length c6] [.slice A7 x.2.1.length c7, .slice A8 x.2.2.1.length c8, .int .i64 x.2.2.2] (T0.out.keep HB.out (by decide)))
  go_wp2_with (((with_reducible refine gate_load (t := 74) rfl ?_); refine wpList_load_mid rfl 74 _ rfl w.heap.size 0 rfl [.int .i64 x.1.1, .int .i64 x.1.2.1, .slice A2 x.1.2.2.1.1.length c2, .slice A3 x.1.2.2.1.2.length c3, .slice A4 x.1.2.2.2.1.1.length c4, .slice A5 x.1.2.2.2.1.2.length c5, .slice A6 x.1.2.2.2.2.length c6] _ HR.out Try.underlying74 rfl (by kernel_rfl) ?_))
  rw [HW.out]
  clear HW
  clear HR
  refine (wr_catalog (x.1) A2 c2 A3 c3 A4 c4 A5 c5 A6 c6 h2 h3 h4 h5 h6 S0.out (by omega)).mono ?_
  rintro e w1 (⟨b1, hb1, rfl, v1, S1', T1'⟩ | ⟨c, hc, rfl, hbe, T1'⟩)
  rotate_left
  · exact ⟨rfl, .inr ⟨c, by simp only [eMachine, hc, cat_err, cat_ok_err, cat_ok_ok], rfl, hbe, TW.out.trans (T0.out.trans T1')⟩⟩
  have hn1 : b1.length = wCatalog x.1 := codCatalog.len _ _ hb1
  obtain ⟨z1, hz1⟩ : ∃ z, z0 ++ b1 = z := ⟨_, rfl⟩
  rw [hz1] at S1'
  have hl1 : z1.length ≤ z0.length + (wCatalog x.1) := by rw [← hz1, List.length_append]; omega
  have S1 := Lib.hid S1'
  have T1 := Lib.hid (T0.out.trans T1')
  have HE1 := Lib.hid hb1
  have HZ1 := Lib.hid hz1
  clear S1' T1' hb1 hz1 hn1 S0 T0
  have q7 := cell_blk (T1.out.keep HB.out (by decide)) 7 _ rfl
  go_wp2_with fail
  clear q7
  refine (wr_many_Done A7 c7 (l := x.2.1) h7 S1.out (by have := hl1; omega)).mono ?_
  rintro e w2 (⟨b2, hb2, rfl, v2, S2', T2'⟩ | ⟨c, hc, rfl, hbe, T2'⟩)
  rotate_left
  · exact ⟨rfl, .inr ⟨c, by simp only [eMachine, HE1.out, hc, cat_err, cat_ok_err, cat_ok_ok], rfl, hbe, TW.out.trans (T1.out.trans T2')⟩⟩
  have hn2 : b2.length = (wList wDone) x.2.1 := (cod_list codDone).len _ _ hb2
  obtain ⟨z2, hz2⟩ : ∃ z, z1 ++ b2 = z := ⟨_, rfl⟩
  rw [hz2] at S2'
  have hl2 : z2.length ≤ z0.length + (wCatalog x.1 + ((wList wDone) x.2.1)) := by rw [← hz2, List.length_append]; have := hl1; omega
  have S2 := Lib.hid S2'
  have T2 := Lib.hid (T1.out.trans T2')
  have HE2 := Lib.hid hb2
  have HZ2 := Lib.hid hz2
  clear S2' T2' hb2 hz2 hn2 S1 T1 hl1
  have q8 := cell_blk (T2.out.keep HB.out (by decide)) 8 _ rfl
  go_wp2_with fail
  clear q8
  refine (wr_many_Lease A8 c8 (l := x.2.2.1) h8 S2.out (by have := hl2; omega)).mono ?_
  rintro e w3 (⟨b3, hb3, rfl, v3, S3', T3'⟩ | ⟨c, hc, rfl, hbe, T3'⟩)
  rotate_left
  · exact ⟨rfl, .inr ⟨c, by simp only [eMachine, HE1.out, HE2.out, hc, cat_err, cat_ok_err, cat_ok_ok], rfl, hbe, TW.out.trans (T2.out.trans T3')⟩⟩
  have hn3 : b3.length = (wList wLease) x.2.2.1 := (cod_list codLease).len _ _ hb3
  obtain ⟨z3, hz3⟩ : ∃ z, z2 ++ b3 = z := ⟨_, rfl⟩
  rw [hz3] at S3'
  have hl3 : z3.length ≤ z0.length + (wCatalog x.1 + ((wList wDone) x.2.1 + ((wList wLease) x.2.2.1))) := by rw [← hz3, List.length_append]; have := hl2; omega
  have S3 := Lib.hid S3'
  have T3 := Lib.hid (T2.out.trans T3')
  have HE3 := Lib.hid hb3
  have HZ3 := Lib.hid hz3
  clear S3' T3' hb3 hz3 hn3 S2 T2 hl2
  have q9 := cell_blk (T3.out.keep HB.out (by decide)) 9 _ rfl
  go_wp2_with fail
  clear q9
  refine (wr_number (x.2.2.2)   S3.out (by have := hl3; omega)).mono ?_
  rintro e w4 (⟨b4, hb4, rfl, v4, S4', T4'⟩ | ⟨c, hc, rfl, hbe, T4'⟩)
  rotate_left
  · exact ⟨rfl, .inr ⟨c, by simp only [eMachine, HE1.out, HE2.out, HE3.out, hc, cat_err, cat_ok_err, cat_ok_ok], rfl, hbe, TW.out.trans (T3.out.trans T4')⟩⟩
  have hn4 : b4.length = 4 := cod_num.len _ _ hb4
  obtain ⟨z4, hz4⟩ : ∃ z, z3 ++ b4 = z := ⟨_, rfl⟩
  rw [hz4] at S4'
  have hl4 : z4.length ≤ z0.length + (wCatalog x.1 + ((wList wDone) x.2.1 + ((wList wLease) x.2.2.1 + (4)))) := by rw [← hz4, List.length_append]; have := hl3; omega
  have S4 := Lib.hid S4'
  have T4 := Lib.hid (T3.out.trans T4')
  have HE4 := Lib.hid hb4
  have HZ4 := Lib.hid hz4
  clear S4' T4' hb4 hz4 hn4 S3 T3 hl3
  go_wp2
  go_end0
  have SF := S4.out
  rw [← HZ4.out, ← HZ3.out, ← HZ2.out, ← HZ1.out] at SF
  refine .inl ⟨_, by simp only [eMachine, HE1.out, HE2.out, HE3.out, HE4.out, cat_ok_ok]; rfl, rfl, v4, ?_, TW.out.trans T4.out⟩
  simpa only [List.append_assoc] using SF
end Go.Proofs.Ytoomcdgnnibjlaa.Wr
/- The program's bytes of a machine, or the first fault. -/
namespace Go.Proofs.Ytoomcdgnnibjlaa.Wr
open Go.RowKit Go.Proofs.YtoomcdgnnibjlaaW.PrintWords Go.Proofs.YtoomcdgnnibjlaaW.PrintLast
set_option linter.unusedVariables false
set_option linter.unusedSimpArgs false


set_option maxRecDepth 100000 in
set_option maxHeartbeats 4000000 in
theorem putMachine_close (pe pb : Addr) (u : FrameMode) (w : World) (hc : w.cell? pe = some (.int .i64 0)) :
    CallsD Try.prog 131 #[.pointer (some pe), .pointer (some pb)] u w fun e u' w' => u' = u ∧ e = .returned (.tuple #[]) ∧ w = w' := by
  go_enter_d Try.func131, Try.ntmps131
  go_wp2
  go_end0
  exact ⟨rfl, rfl⟩
set_option maxRecDepth 100000 in
set_option maxHeartbeats 4000000 in
theorem putMachine_drop (pe pb : Addr) (c : Int) (vb : Value) (u : FrameMode) (w : World) (h0 : c ≠ 0) (hc : w.cell? pe = some (.int .i64 c)) (hb : w.cell? pb = some vb) (hz : w.frozen? pb = false) :
    CallsD Try.prog 131 #[.pointer (some pe), .pointer (some pb)] u w fun e u' w' => u' = u ∧ e = .returned (.tuple #[]) ∧ w' = w.setCell pb (.slice none 0 0) := by
  have h1 : (c == 0) = false := by simpa using h0
  have h2 : (c != 0) = true := by simpa using h0
  go_enter_d Try.func131, Try.ntmps131
  go_wp2
  go_end0
  exact ⟨rfl, rfl⟩
set_option maxRecDepth 100000 in
set_option maxHeartbeats 16000000 in
theorem putMachine (x : TMachine) (A2 : Option Addr) (c2 : Nat) (A3 : Option Addr) (c3 : Nat) (A4 : Option Addr) (c4 : Nat) (A5 : Option Addr) (c5 : Nat) (A6 : Option Addr) (c6 : Nat) (A7 : Option Addr) (c7 : Nat) (A8 : Option Addr) (c8 : Nat) (w : World) (h2 : kSchema.C w A2 x.1.2.2.1.1.length x.1.2.2.1.1) (h3 : kTable.C w A3 x.1.2.2.1.2.length x.1.2.2.1.2) (h4 : Kd.string.C w A4 x.1.2.2.2.1.1.length x.1.2.2.2.1.1) (h5 : kMember.C w A5 x.1.2.2.2.1.2.length x.1.2.2.2.1.2) (h6 : kGrant.C w A6 x.1.2.2.2.2.length x.1.2.2.2.2) (h7 : kDone.C w A7 x.2.1.length x.2.1) (h8 : kLease.C w A8 x.2.2.1.length x.2.2.1) (hm : wMachine x < 140737488355328) : Calls Try.prog 64 #[.agg #[.int .i64 x.1.1, .int .i64 x.1.2.1, .slice A2 x.1.2.2.1.1.length c2, .slice A3 x.1.2.2.1.2.length c3, .slice A4 x.1.2.2.2.1.1.length c4, .slice A5 x.1.2.2.2.1.2.length c5, .slice A6 x.1.2.2.2.2.length c6, .slice A7 x.2.1.length c7, .slice A8 x.2.2.1.length c8, .int .i64 x.2.2.2], .func (.func 65) #[] #[]] w (PutTold w (eMachine x)) := by
  have hmf : ∀ (fn : Fn) (first cap : Array Value) (w : World), (Instr.makeFunc fn first cap).run Try.prog w = .ok (.func fn first cap) w := fun _ _ _ _ => rfl
  obtain ⟨W, hW, hb, hx, hy1, hy2, hy3⟩ := put_world w #[.int .i64 x.1.1, .int .i64 x.1.2.1, .slice A2 x.1.2.2.1.1.length c2, .slice A3 x.1.2.2.1.2.length c3, .slice A4 x.1.2.2.2.1.1.length c4, .slice A5 x.1.2.2.2.1.2.length c5, .slice A6 x.1.2.2.2.2.length c6, .slice A7 x.2.1.length c7, .slice A8 x.2.2.1.length c8, .int .i64 x.2.2.2] 82
  have hL : WAt w W (w.heap.size + 3) (.slice none 0 0) [] := ⟨by omega, hb, hy3, Kd.R_nil _ _ _ _ _⟩
  have C1 := Lib.hid (wr_machine x A2 c2 A3 c3 A4 c4 A5 c5 A6 c6 A7 c7 A8 c8 h2 h3 h4 h5 h6 h7 h8 hL (by simpa using hm))
  have HR := Lib.hid (range_blk [] [.int .i64 x.1.1, .int .i64 x.1.2.1, .slice A2 x.1.2.2.1.1.length c2, .slice A3 x.1.2.2.1.2.length c3, .slice A4 x.1.2.2.2.1.1.length c4, .slice A5 x.1.2.2.2.1.2.length c5, .slice A6 x.1.2.2.2.2.length c6, .slice A7 x.2.1.length c7, .slice A8 x.2.2.1.length c8, .int .i64 x.2.2.2] [] hx)
  have HW := Lib.hid hW
  have H1 := Lib.hid hy1
  have H2 := Lib.hid hy2
  have EZ := Lib.hid (fun c hc => codMachine.err x c hc)
  clear hb hL hW hy1 hy2 hy3 hx hm h2 h3 h4 h5 h6 h7 h8
  go_enter_defers Try.func64, Try.ntmps64
  go_wp2_with (((with_reducible refine gate_load (t := 82) rfl ?_); refine wpList_load_mid rfl 82 _ rfl w.heap.size 0 rfl [.int .i64 x.1.1, .int .i64 x.1.2.1, .slice A2 x.1.2.2.1.1.length c2, .slice A3 x.1.2.2.1.2.length c3, .slice A4 x.1.2.2.2.1.1.length c4, .slice A5 x.1.2.2.2.1.2.length c5, .slice A6 x.1.2.2.2.2.length c6, .slice A7 x.2.1.length c7, .slice A8 x.2.2.1.length c8, .int .i64 x.2.2.2] _ (by rw [HW.out]; exact HR.out) Try.underlying82 rfl (by kernel_rfl) ?_))
  rw [HW.out]
  refine C1.out.mono ?_
  rintro e w1 (⟨b, hb, rfl, v1, S1, T1⟩ | ⟨c, hc, rfl, B1, T1⟩)
  · have S1' := S1
    rw [List.nil_append] at S1'
    obtain ⟨A1, d1, rfl, _, _⟩ := Kd.R_reads S1'.row
    have q3 := cell_blk S1'.cell 0 _ rfl
    have e1 := T1.keep H1.out (by decide)
    have e2 := T1.keep H2.out (by decide)
    have q1 := cell_blk e1 0 _ rfl
    have f1 := frozen_blk e1 0
    have q2 := cell_blk e2 0 _ rfl
    have f2 := frozen_blk e2 0
    obtain ⟨W2, hW2, k1, k2, B2, K2⟩ := two_stores e1 e2 (by omega) (.slice A1 b.length d1) (.int .i64 0)
    have SF := Lib.hid S1'
    have HE := Lib.hid hb
    have HW2 := Lib.hid hW2
    have K1' := Lib.hid k1
    have K2' := Lib.hid k2
    have B2' := Lib.hid (B2 w.heap.size (by omega) (by omega))
    have HK := Lib.hid K2
    clear S1 S1' T1 e1 e2 hW2 k1 k2 B2 K2 hb C1 HR HW H1 H2 EZ
    go_wp2
    rw [HW2.out]
    refine leaves_cons (f := 72) (args := #[.pointer (some ⟨w.heap.size + 1 + 1, 0, none⟩)]) (by simp) (by simp [go_sem]) ?_
    refine (caught_idle ⟨w.heap.size + 1 + 1, 0, none⟩ _).mono ?_
    rintro e u' w'' ⟨rfl, rfl, rfl⟩
    refine leaves_cons (f := 131) (args := #[.pointer (some ⟨w.heap.size + 1 + 1, 0, none⟩), .pointer (some ⟨w.heap.size + 1, 0, none⟩)]) (by simp [settle]) (by simp [go_sem]) ?_
    refine (putMachine_close ⟨w.heap.size + 1 + 1, 0, none⟩ ⟨w.heap.size + 1, 0, none⟩ _ _ (cell_blk K2'.out 0 _ rfl)).mono ?_
    rintro e u' w'' ⟨rfl, rfl, rfl⟩
    have r1 := cell_blk K1'.out 0 _ rfl
    have r2 := cell_blk K2'.out 0 _ rfl
    simp [Leaves, settle, results, Try.results64, go_sem, r1, r2]
    rw [HE.out]
    exact ⟨_, rfl, HK.out.R SF.out.row (by decide), SF.out.below.trans B2'.out⟩
  · have c0 : c ≠ 0 := by
      rcases EZ.out c hc with rfl | rfl <;> decide
    have e1 := T1.keep H1.out (by decide)
    have e2 := T1.keep H2.out (by decide)
    have q2 := cell_blk e2 0 _ rfl
    have f2 := frozen_blk e2 0
    obtain ⟨W2, hW2, k2, k1, B2, K2⟩ := two_stores e2 e1 (by omega) (.int .i64 c) (.slice none 0 0)
    obtain ⟨W3, hW3⟩ : ∃ W3, w1.setCell ⟨w.heap.size + 2, 0, none⟩ (.int .i64 c) = W3 := ⟨_, rfl⟩
    have m2 : W3.heap[w.heap.size + 2]? = some (.cells #[.int .i64 c] 35 (0, 0)) := by rw [← hW3, blk_set e2]; rfl
    have m1 : W3.heap[w.heap.size + 1]? = some (.cells #[.slice none 0 0] 34 (0, 0)) := by rw [← hW3]; exact (Below.heap_setCell w1 ⟨w.heap.size + 2, 0, none⟩ _ _ (by simp)).trans e1
    have HE := Lib.hid hc
    have HC0 := Lib.hid c0
    have HW2 := Lib.hid hW2
    have HW3 := Lib.hid hW3
    have M1 := Lib.hid m1
    have M2 := Lib.hid m2
    have K1' := Lib.hid k1
    have K2' := Lib.hid k2
    have BF := Lib.hid (B1.trans (B2 w.heap.size (by omega) (by omega)))
    have Q2 := Lib.hid q2
    have F2 := Lib.hid f2
    clear T1 e1 e2 hW2 hW3 m1 m2 k1 k2 B2 B1 K2 hc c0 q2 f2 C1 HR HW H1 H2 EZ
    simp only [thrown]
    refine leaves_cons (f := 72) (args := #[.pointer (some ⟨w.heap.size + 1 + 1, 0, none⟩)]) (by simp) (by simp [go_sem]) ?_
    refine (caught_thrown ⟨w.heap.size + 1 + 1, 0, none⟩ 0 c _ Q2.out F2.out).mono ?_
    rintro e u' w'' ⟨rfl, rfl, rfl⟩
    refine leaves_cons (f := 131) (args := #[.pointer (some ⟨w.heap.size + 1 + 1, 0, none⟩), .pointer (some ⟨w.heap.size + 1, 0, none⟩)]) (by simp [settle]) (by simp [go_sem]) ?_
    refine (putMachine_drop ⟨w.heap.size + 1 + 1, 0, none⟩ ⟨w.heap.size + 1, 0, none⟩ c (.slice none 0 0) _ _ HC0.out (by have := cell_blk M2.out 0 _ rfl; rw [← HW3.out] at this; exact this) (by have := cell_blk M1.out 0 _ rfl; rw [← HW3.out] at this; exact this) (by have := frozen_blk M1.out 0; rw [← HW3.out] at this; exact this)).mono ?_
    rintro e u' w'' ⟨rfl, rfl, rfl⟩
    have HW2b : (w1.setCell ⟨w.heap.size + 1 + 1, 0, none⟩ (.int .i64 c)).setCell ⟨w.heap.size + 1, 0, none⟩ (.slice none 0 0) = W2 := HW2.out
    rw [HW2b]
    have r1 := cell_blk K1'.out 0 _ rfl
    have r2 := cell_blk K2'.out 0 _ rfl
    simp [Leaves, settle, results, Try.results64, go_sem, r1, r2]
    rw [HE.out]
    exact ⟨_, rfl, Kd.R_nil _ _ _ _ _, BF.out⟩
set_option maxRecDepth 100000 in
set_option maxHeartbeats 16000000 in
theorem wire_PutMachine (x : TMachine) (A2 : Option Addr) (c2 : Nat) (A3 : Option Addr) (c3 : Nat) (A4 : Option Addr) (c4 : Nat) (A5 : Option Addr) (c5 : Nat) (A6 : Option Addr) (c6 : Nat) (A7 : Option Addr) (c7 : Nat) (A8 : Option Addr) (c8 : Nat) (w : World) (h2 : kSchema.C w A2 x.1.2.2.1.1.length x.1.2.2.1.1) (h3 : kTable.C w A3 x.1.2.2.1.2.length x.1.2.2.1.2) (h4 : Kd.string.C w A4 x.1.2.2.2.1.1.length x.1.2.2.2.1.1) (h5 : kMember.C w A5 x.1.2.2.2.1.2.length x.1.2.2.2.1.2) (h6 : kGrant.C w A6 x.1.2.2.2.2.length x.1.2.2.2.2) (h7 : kDone.C w A7 x.2.1.length x.2.1) (h8 : kLease.C w A8 x.2.2.1.length x.2.2.1) (hm : wMachine x < 140737488355328) : Calls Try.prog 34 #[.agg #[.int .i64 x.1.1, .int .i64 x.1.2.1, .slice A2 x.1.2.2.1.1.length c2, .slice A3 x.1.2.2.1.2.length c3, .slice A4 x.1.2.2.2.1.1.length c4, .slice A5 x.1.2.2.2.1.2.length c5, .slice A6 x.1.2.2.2.2.length c6, .slice A7 x.2.1.length c7, .slice A8 x.2.2.1.length c8, .int .i64 x.2.2.2]] w (PutTold w (eMachine x)) := by
  have C1 := Lib.hid (PutTold.of_alloc (putMachine x A2 c2 A3 c3 A4 c4 A5 c5 A6 c6 A7 c7 A8 c8 (w.alloc (.cells #[.int .i64 x.1.1, .int .i64 x.1.2.1, .slice A2 x.1.2.2.1.1.length c2, .slice A3 x.1.2.2.1.2.length c3, .slice A4 x.1.2.2.2.1.1.length c4, .slice A5 x.1.2.2.2.1.2.length c5, .slice A6 x.1.2.2.2.2.length c6, .slice A7 x.2.1.length c7, .slice A8 x.2.2.1.length c8, .int .i64 x.2.2.2] 82)) (Kd.C_alloc h2 _) (Kd.C_alloc h3 _) (Kd.C_alloc h4 _) (Kd.C_alloc h5 _) (Kd.C_alloc h6 _) (Kd.C_alloc h7 _) (Kd.C_alloc h8 _) hm))
  have HR := Lib.hid (range_blk [] [.int .i64 x.1.1, .int .i64 x.1.2.1, .slice A2 x.1.2.2.1.1.length c2, .slice A3 x.1.2.2.1.2.length c3, .slice A4 x.1.2.2.2.1.1.length c4, .slice A5 x.1.2.2.2.1.2.length c5, .slice A6 x.1.2.2.2.2.length c6, .slice A7 x.2.1.length c7, .slice A8 x.2.2.1.length c8, .int .i64 x.2.2.2] [] (blk_new w (.cells #[.int .i64 x.1.1, .int .i64 x.1.2.1, .slice A2 x.1.2.2.1.1.length c2, .slice A3 x.1.2.2.1.2.length c3, .slice A4 x.1.2.2.2.1.1.length c4, .slice A5 x.1.2.2.2.1.2.length c5, .slice A6 x.1.2.2.2.2.length c6, .slice A7 x.2.1.length c7, .slice A8 x.2.2.1.length c8, .int .i64 x.2.2.2] 82)))
  clear h2 h3 h4 h5 h6 h7 h8 hm
  go_enter Try.func34, Try.ntmps34
  go_wp2_with (((with_reducible refine gate_load (t := 82) rfl ?_); refine wpList_load_mid rfl 82 _ rfl w.heap.size 0 rfl [.int .i64 x.1.1, .int .i64 x.1.2.1, .slice A2 x.1.2.2.1.1.length c2, .slice A3 x.1.2.2.1.2.length c3, .slice A4 x.1.2.2.2.1.1.length c4, .slice A5 x.1.2.2.2.1.2.length c5, .slice A6 x.1.2.2.2.2.length c6, .slice A7 x.2.1.length c7, .slice A8 x.2.2.1.length c8, .int .i64 x.2.2.2] _ HR.out Try.underlying82 rfl (by kernel_rfl) ?_))
  refine C1.out.mono ?_
  rintro e w1 ⟨v, rfl, HR', HB⟩
  have HR'' := Lib.hid HR'
  have HB' := Lib.hid HB
  clear HR HR' HB C1
  go_wp2
  go_ret2
  exact ⟨_, rfl, HR''.out, HB'.out⟩
end Go.Proofs.Ytoomcdgnnibjlaa.Wr
/- The law WireMachines, walked. -/
namespace Go.Proofs.Ytoomcdgnnibjlaa.Wr
open Go.RowKit Go.Proofs.YtoomcdgnnibjlaaW.PrintWords Go.Proofs.YtoomcdgnnibjlaaW.PrintLast
set_option linter.unusedVariables false
set_option linter.unusedSimpArgs false


set_option maxRecDepth 100000 in
set_option maxHeartbeats 16000000 in
theorem law_WireMachines (x : TMachine) (A2 : Option Addr) (c2 : Nat) (A3 : Option Addr) (c3 : Nat) (A4 : Option Addr) (c4 : Nat) (A5 : Option Addr) (c5 : Nat) (A6 : Option Addr) (c6 : Nat) (A7 : Option Addr) (c7 : Nat) (A8 : Option Addr) (c8 : Nat) (w : World) (h2 : kSchema.C w A2 x.1.2.2.1.1.length x.1.2.2.1.1) (h3 : kTable.C w A3 x.1.2.2.1.2.length x.1.2.2.1.2) (h4 : Kd.string.C w A4 x.1.2.2.2.1.1.length x.1.2.2.2.1.1) (h5 : kMember.C w A5 x.1.2.2.2.1.2.length x.1.2.2.2.1.2) (h6 : kGrant.C w A6 x.1.2.2.2.2.length x.1.2.2.2.2) (h7 : kDone.C w A7 x.2.1.length x.2.1) (h8 : kLease.C w A8 x.2.2.1.length x.2.2.1) (hm : wMachine x < 140737488355328) : Calls Try.prog 11 #[.agg #[.int .i64 x.1.1, .int .i64 x.1.2.1, .slice A2 x.1.2.2.1.1.length c2, .slice A3 x.1.2.2.1.2.length c3, .slice A4 x.1.2.2.2.1.1.length c4, .slice A5 x.1.2.2.2.1.2.length c5, .slice A6 x.1.2.2.2.2.length c6, .slice A7 x.2.1.length c7, .slice A8 x.2.2.1.length c8, .int .i64 x.2.2.2]] w fun e w' => e = .returned (.bool true) ∧ Below w.heap.size w w' := by
  obtain ⟨W, hW⟩ : ∃ W, w.alloc (.cells #[.int .i64 x.1.1, .int .i64 x.1.2.1, .slice A2 x.1.2.2.1.1.length c2, .slice A3 x.1.2.2.1.2.length c3, .slice A4 x.1.2.2.2.1.1.length c4, .slice A5 x.1.2.2.2.1.2.length c5, .slice A6 x.1.2.2.2.2.length c6, .slice A7 x.2.1.length c7, .slice A8 x.2.2.1.length c8, .int .i64 x.2.2.2] 82) = W := ⟨_, rfl⟩
  have hb0 : Below w.heap.size w W := by rw [← hW]; exact (Below.refl _ _).alloc (Nat.le_refl _) _
  have hx0 : W.heap[w.heap.size]? = some (.cells #[.int .i64 x.1.1, .int .i64 x.1.2.1, .slice A2 x.1.2.2.1.1.length c2, .slice A3 x.1.2.2.1.2.length c3, .slice A4 x.1.2.2.2.1.1.length c4, .slice A5 x.1.2.2.2.1.2.length c5, .slice A6 x.1.2.2.2.2.length c6, .slice A7 x.2.1.length c7, .slice A8 x.2.2.1.length c8, .int .i64 x.2.2.2] 82 (0, 0)) := by rw [← hW]; exact blk_new w _
  have C1 := Lib.hid (ref_PutMachine x A2 c2 A3 c3 A4 c4 A5 c5 A6 c6 A7 c7 A8 c8 W (Kd.C_below h2 hb0) (Kd.C_below h3 hb0) (Kd.C_below h4 hb0) (Kd.C_below h5 hb0) (Kd.C_below h6 hb0) (Kd.C_below h7 hb0) (Kd.C_below h8 hb0) hm)
  have HR := Lib.hid (range_blk [] [.int .i64 x.1.1, .int .i64 x.1.2.1, .slice A2 x.1.2.2.1.1.length c2, .slice A3 x.1.2.2.1.2.length c3, .slice A4 x.1.2.2.2.1.1.length c4, .slice A5 x.1.2.2.2.1.2.length c5, .slice A6 x.1.2.2.2.2.length c6, .slice A7 x.2.1.length c7, .slice A8 x.2.2.1.length c8, .int .i64 x.2.2.2] [] hx0)
  have HX := Lib.hid hx0
  have HB0 := Lib.hid hb0
  have HW := Lib.hid hW
  clear hb0 hx0 hW
  go_enter Try.func11, Try.ntmps11
  go_wp2_with (((with_reducible refine gate_load (t := 82) rfl ?_); refine wpList_load_mid rfl 82 _ rfl w.heap.size 0 rfl [.int .i64 x.1.1, .int .i64 x.1.2.1, .slice A2 x.1.2.2.1.1.length c2, .slice A3 x.1.2.2.1.2.length c3, .slice A4 x.1.2.2.2.1.1.length c4, .slice A5 x.1.2.2.2.1.2.length c5, .slice A6 x.1.2.2.2.2.length c6, .slice A7 x.2.1.length c7, .slice A8 x.2.2.1.length c8, .int .i64 x.2.2.2] _ (by rw [HW.out]; exact HR.out) Try.underlying82 rfl (by kernel_rfl) ?_))
  rw [HW.out]
  refine C1.out.mono ?_
  rintro e w1 ⟨v1, rfl, R1', hb1⟩
  obtain ⟨B1, d1, rfl, _, hC1⟩ := Kd.R_reads R1'
  have hx1 := (hb1.block _ (blk_lt HX.out)).trans HX.out
  have hb1' := HB0.out.trans (hb1.mono HB0.out.size)
  clear HR HW C1
  have HR := Lib.hid (range_blk [] [.int .i64 x.1.1, .int .i64 x.1.2.1, .slice A2 x.1.2.2.1.1.length c2, .slice A3 x.1.2.2.1.2.length c3, .slice A4 x.1.2.2.2.1.1.length c4, .slice A5 x.1.2.2.2.1.2.length c5, .slice A6 x.1.2.2.2.2.length c6, .slice A7 x.2.1.length c7, .slice A8 x.2.2.1.length c8, .int .i64 x.2.2.2] [] hx1)
  by_cases hbig : 262144 < (resB (eMachine x)).length
  · have hbig' : (262144 : Int) < ((resB (eMachine x)).length : Int) := by omega
    have HB := Lib.hid hb1'
    clear hC1 R1' hb1 hb1' hx1 hbig h2 h3 h4 h5 h6 h7 h8
    go_wp2
    refine bodyPost_ret (v := .bool true) (by rw [results_tmp Try.results11]; rfl) rfl ⟨rfl, HB.out⟩
  · have hdec : decide ((262144 : Int) < ((resB (eMachine x)).length : Int)) = false := decide_eq_false (by omega)
    have C2 := Lib.hid (wire_PutMachine x A2 c2 A3 c3 A4 c4 A5 c5 A6 c6 A7 c7 A8 c8 w1 (Kd.C_below h2 hb1') (Kd.C_below h3 hb1') (Kd.C_below h4 hb1') (Kd.C_below h5 hb1') (Kd.C_below h6 hb1') (Kd.C_below h7 hb1') (Kd.C_below h8 hb1') hm)
    have HC1 := Lib.hid hC1
    have HB1 := Lib.hid hb1'
    have HX1 := Lib.hid hx1
    clear hC1 R1' hb1 hb1' hx1 hbig HB0 HX
    go_upto_region 4 with (fail)
    clear hdec
    go_wp2_with (((with_reducible refine gate_load (t := 82) rfl ?_); refine wpList_load_mid rfl 82 _ rfl w.heap.size 0 rfl [.int .i64 x.1.1, .int .i64 x.1.2.1, .slice A2 x.1.2.2.1.1.length c2, .slice A3 x.1.2.2.1.2.length c3, .slice A4 x.1.2.2.2.1.1.length c4, .slice A5 x.1.2.2.2.1.2.length c5, .slice A6 x.1.2.2.2.2.length c6, .slice A7 x.2.1.length c7, .slice A8 x.2.2.1.length c8, .int .i64 x.2.2.2] _ HR.out Try.underlying82 rfl (by kernel_rfl) ?_))
    refine C2.out.mono ?_
    rintro e w2 ⟨v2, rfl, R2', hb2⟩
    obtain ⟨B2, d2, rfl, _, hC2⟩ := Kd.R_reads R2'
    have hx2 := (hb2.block _ (blk_lt HX1.out)).trans HX1.out
    have hb2' := HB1.out.trans (hb2.mono HB1.out.size)
    have hC1 := Kd.C_below HC1.out hb2
    have C3 := Lib.hid (ref_PutMachine x A2 c2 A3 c3 A4 c4 A5 c5 A6 c6 A7 c7 A8 c8 w2 (Kd.C_below h2 hb2') (Kd.C_below h3 hb2') (Kd.C_below h4 hb2') (Kd.C_below h5 hb2') (Kd.C_below h6 hb2') (Kd.C_below h7 hb2') (Kd.C_below h8 hb2') hm)
    clear HR C2 HC1 HX1
    have HR := Lib.hid (range_blk [] [.int .i64 x.1.1, .int .i64 x.1.2.1, .slice A2 x.1.2.2.1.1.length c2, .slice A3 x.1.2.2.1.2.length c3, .slice A4 x.1.2.2.2.1.1.length c4, .slice A5 x.1.2.2.2.1.2.length c5, .slice A6 x.1.2.2.2.2.length c6, .slice A7 x.2.1.length c7, .slice A8 x.2.2.1.length c8, .int .i64 x.2.2.2] [] hx2)
    have HC1 := Lib.hid hC1
    have HC2 := Lib.hid hC2
    have HB2 := Lib.hid hb2'
    clear hC1 hC2 R2' hb2 hb2' hx2 HB1
    go_wp2_with (((with_reducible refine gate_load (t := 82) rfl ?_); refine wpList_load_mid rfl 82 _ rfl w.heap.size 0 rfl [.int .i64 x.1.1, .int .i64 x.1.2.1, .slice A2 x.1.2.2.1.1.length c2, .slice A3 x.1.2.2.1.2.length c3, .slice A4 x.1.2.2.2.1.1.length c4, .slice A5 x.1.2.2.2.1.2.length c5, .slice A6 x.1.2.2.2.2.length c6, .slice A7 x.2.1.length c7, .slice A8 x.2.2.1.length c8, .int .i64 x.2.2.2] _ HR.out Try.underlying82 rfl (by kernel_rfl) ?_))
    refine C3.out.mono ?_
    rintro e w3 ⟨v3, rfl, R3', hb3⟩
    obtain ⟨B3, d3, rfl, _, hC3⟩ := Kd.R_reads R3'
    have hb3' := HB2.out.trans (hb3.mono HB2.out.size)
    have hC1 := Kd.C_below HC1.out hb3
    have hC2 := Kd.C_below HC2.out hb3
    have C4 := Lib.hid (awake_true w3)
    clear HR C3 HC1 HC2
    have HC1 := Lib.hid hC1
    have HC2 := Lib.hid hC2
    have HC3 := Lib.hid hC3
    have HB3 := Lib.hid hb3'
    clear hC1 hC2 hC3 R3' hb3 hb3' HB2
    go_wp2_with fail
    refine C4.out.mono ?_
    rintro e w4 ⟨rfl, hb4⟩
    have s1 := Kd.C_string (c := d1) Try.underlying34 Try.underlying5 Try.underlying9 (Kd.C_below HC1.out hb4)
    have s2 := Kd.C_string (c := d2) Try.underlying34 Try.underlying5 Try.underlying9 (Kd.C_below HC2.out hb4)
    have s3 := Kd.C_string (c := d3) Try.underlying34 Try.underlying5 Try.underlying9 (Kd.C_below HC3.out hb4)
    have HB4 := Lib.hid (HB3.out.trans (hb4.mono HB3.out.size))
    clear HC1 HC2 HC3 HB3 hb4 C4 h2 h3 h4 h5 h6 h7 h8 hm
    go_wp2
    refine bodyPost_ret (v := .bool true) (by rw [results_tmp Try.results11]; simp) rfl ⟨rfl, HB4.out⟩
end Go.Proofs.Ytoomcdgnnibjlaa.Wr
