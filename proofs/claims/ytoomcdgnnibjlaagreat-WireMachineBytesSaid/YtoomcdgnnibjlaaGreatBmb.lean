/- Texts put together: PutOp, WrC, PutRecord, RdFirst, RdPrim, RdWire, RdFlag, RrA, RrB, RrD, GetBase, GetOp, Awake, LayA, LayD, LayE, LayF, LayG, RefPutMachine. -/
import Derived.Test.YtoomcdgnnibjlaaGreatBma
import Derived.Laws.Bits64b
import Derived.Laws.BitsLemmas
import Derived.Laws.CopyOwn
import Derived.Deep.QuietTactic
import Derived.BigQuiet
import Derived.IntWalk
import Derived.Deep.Cut
/- The program's bytes of a op, or the first fault. -/
namespace Go.Proofs.YtoomcdgnnibjlaaGreat.Wr
open Go.RowKit Go.Proofs.YtoomcdgnnibjlaaGreatW.PrintWords Go.Proofs.YtoomcdgnnibjlaaGreatW.PrintLast
set_option linter.unusedVariables false
set_option linter.unusedSimpArgs false


set_option maxRecDepth 100000 in
set_option maxHeartbeats 4000000 in
theorem putOp_close (pe pb : Addr) (u : FrameMode) (w : World) (hc : w.cell? pe = some (.int .i64 0)) :
    CallsD Tryz.prog 65 #[.pointer (some pe), .pointer (some pb)] u w fun e u' w' => u' = u ∧ e = .returned (.tuple #[]) ∧ w = w' := by
  go_enter_d Tryz.func65, Tryz.ntmps65
  go_wp2
  go_end0
  exact ⟨rfl, rfl⟩
set_option maxRecDepth 100000 in
set_option maxHeartbeats 4000000 in
theorem putOp_drop (pe pb : Addr) (c : Int) (vb : Value) (u : FrameMode) (w : World) (h0 : c ≠ 0) (hc : w.cell? pe = some (.int .i64 c)) (hb : w.cell? pb = some vb) (hz : w.frozen? pb = false) :
    CallsD Tryz.prog 65 #[.pointer (some pe), .pointer (some pb)] u w fun e u' w' => u' = u ∧ e = .returned (.tuple #[]) ∧ w' = w.setCell pb (.slice none 0 0) := by
  have h1 : (c == 0) = false := by simpa using h0
  have h2 : (c != 0) = true := by simpa using h0
  go_enter_d Tryz.func65, Tryz.ntmps65
  go_wp2
  go_end0
  exact ⟨rfl, rfl⟩
set_option maxRecDepth 100000 in
set_option maxHeartbeats 16000000 in
theorem putOp (x : TOp) (A9 : Option Addr) (c9 : Nat) (A12 : Option Addr) (c12 : Nat) (w : World) (h9 : kColumn.C w A9 x.2.2.2.1.2.2.2.2.2.2.1.length x.2.2.2.1.2.2.2.2.2.2.1) (h12 : Kd.string.C w A12 x.2.2.2.1.2.2.2.2.2.2.2.1.2.2.1.length x.2.2.2.1.2.2.2.2.2.2.2.1.2.2.1) (hm : wOp x < 140737488355328) : Calls Tryz.prog 38 #[.agg #[.int .i64 x.1, .int .i64 x.2.1, .int .i64 x.2.2.1, .int .i64 x.2.2.2.1.1, .string x.2.2.2.1.2.1, .string x.2.2.2.1.2.2.1, .string x.2.2.2.1.2.2.2.1, .string x.2.2.2.1.2.2.2.2.1, .string x.2.2.2.1.2.2.2.2.2.1, .slice A9 x.2.2.2.1.2.2.2.2.2.2.1.length c9, .string x.2.2.2.1.2.2.2.2.2.2.2.1.1, .int .i64 x.2.2.2.1.2.2.2.2.2.2.2.1.2.1, .slice A12 x.2.2.2.1.2.2.2.2.2.2.2.1.2.2.1.length c12, .int .i64 x.2.2.2.1.2.2.2.2.2.2.2.1.2.2.2.1, .int .i64 x.2.2.2.1.2.2.2.2.2.2.2.1.2.2.2.2.1, .string x.2.2.2.1.2.2.2.2.2.2.2.1.2.2.2.2.2.1, .string x.2.2.2.1.2.2.2.2.2.2.2.1.2.2.2.2.2.2.1, .string x.2.2.2.1.2.2.2.2.2.2.2.1.2.2.2.2.2.2.2, .int .i64 x.2.2.2.1.2.2.2.2.2.2.2.2.1, .bool x.2.2.2.1.2.2.2.2.2.2.2.2.2, .int .i64 x.2.2.2.2.1, .int .i64 x.2.2.2.2.2.1, .int .i64 x.2.2.2.2.2.2], .func (.func 39) #[] #[]] w (PutTold w (eOp x)) := by
  have hmf : ∀ (fn : Fn) (first cap : Array Value) (w : World), (Instr.makeFunc fn first cap).run Tryz.prog w = .ok (.func fn first cap) w := fun _ _ _ _ => rfl
  obtain ⟨W, hW, hb, hx, hy1, hy2, hy3⟩ := put_world w #[.int .i64 x.1, .int .i64 x.2.1, .int .i64 x.2.2.1, .int .i64 x.2.2.2.1.1, .string x.2.2.2.1.2.1, .string x.2.2.2.1.2.2.1, .string x.2.2.2.1.2.2.2.1, .string x.2.2.2.1.2.2.2.2.1, .string x.2.2.2.1.2.2.2.2.2.1, .slice A9 x.2.2.2.1.2.2.2.2.2.2.1.length c9, .string x.2.2.2.1.2.2.2.2.2.2.2.1.1, .int .i64 x.2.2.2.1.2.2.2.2.2.2.2.1.2.1, .slice A12 x.2.2.2.1.2.2.2.2.2.2.2.1.2.2.1.length c12, .int .i64 x.2.2.2.1.2.2.2.2.2.2.2.1.2.2.2.1, .int .i64 x.2.2.2.1.2.2.2.2.2.2.2.1.2.2.2.2.1, .string x.2.2.2.1.2.2.2.2.2.2.2.1.2.2.2.2.2.1, .string x.2.2.2.1.2.2.2.2.2.2.2.1.2.2.2.2.2.2.1, .string x.2.2.2.1.2.2.2.2.2.2.2.1.2.2.2.2.2.2.2, .int .i64 x.2.2.2.1.2.2.2.2.2.2.2.2.1, .bool x.2.2.2.1.2.2.2.2.2.2.2.2.2, .int .i64 x.2.2.2.2.1, .int .i64 x.2.2.2.2.2.1, .int .i64 x.2.2.2.2.2.2] 69
  have hL : WAt w W (w.heap.size + 3) (.slice none 0 0) [] := ⟨by omega, hb, hy3, Kd.R_nil _ _ _ _ _⟩
  have C1 := Lib.hid (wr_op x A9 c9 A12 c12 h9 h12 hL (by simpa using hm))
  have HR := Lib.hid (range_blk [] [.int .i64 x.1, .int .i64 x.2.1, .int .i64 x.2.2.1, .int .i64 x.2.2.2.1.1, .string x.2.2.2.1.2.1, .string x.2.2.2.1.2.2.1, .string x.2.2.2.1.2.2.2.1, .string x.2.2.2.1.2.2.2.2.1, .string x.2.2.2.1.2.2.2.2.2.1, .slice A9 x.2.2.2.1.2.2.2.2.2.2.1.length c9, .string x.2.2.2.1.2.2.2.2.2.2.2.1.1, .int .i64 x.2.2.2.1.2.2.2.2.2.2.2.1.2.1, .slice A12 x.2.2.2.1.2.2.2.2.2.2.2.1.2.2.1.length c12, .int .i64 x.2.2.2.1.2.2.2.2.2.2.2.1.2.2.2.1, .int .i64 x.2.2.2.1.2.2.2.2.2.2.2.1.2.2.2.2.1, .string x.2.2.2.1.2.2.2.2.2.2.2.1.2.2.2.2.2.1, .string x.2.2.2.1.2.2.2.2.2.2.2.1.2.2.2.2.2.2.1, .string x.2.2.2.1.2.2.2.2.2.2.2.1.2.2.2.2.2.2.2, .int .i64 x.2.2.2.1.2.2.2.2.2.2.2.2.1, .bool x.2.2.2.1.2.2.2.2.2.2.2.2.2, .int .i64 x.2.2.2.2.1, .int .i64 x.2.2.2.2.2.1, .int .i64 x.2.2.2.2.2.2] [] hx)
  have HW := Lib.hid hW
  have H1 := Lib.hid hy1
  have H2 := Lib.hid hy2
  have EZ := Lib.hid (fun c hc => codOp.err x c hc)
  clear hb hL hW hy1 hy2 hy3 hx hm h9 h12
  go_enter_defers Tryz.func38, Tryz.ntmps38
  go_wp2_with (((with_reducible refine gate_load (t := 69) rfl ?_); refine wpList_load_mid rfl 69 _ rfl w.heap.size 0 rfl [.int .i64 x.1, .int .i64 x.2.1, .int .i64 x.2.2.1, .int .i64 x.2.2.2.1.1, .string x.2.2.2.1.2.1, .string x.2.2.2.1.2.2.1, .string x.2.2.2.1.2.2.2.1, .string x.2.2.2.1.2.2.2.2.1, .string x.2.2.2.1.2.2.2.2.2.1, .slice A9 x.2.2.2.1.2.2.2.2.2.2.1.length c9, .string x.2.2.2.1.2.2.2.2.2.2.2.1.1, .int .i64 x.2.2.2.1.2.2.2.2.2.2.2.1.2.1, .slice A12 x.2.2.2.1.2.2.2.2.2.2.2.1.2.2.1.length c12, .int .i64 x.2.2.2.1.2.2.2.2.2.2.2.1.2.2.2.1, .int .i64 x.2.2.2.1.2.2.2.2.2.2.2.1.2.2.2.2.1, .string x.2.2.2.1.2.2.2.2.2.2.2.1.2.2.2.2.2.1, .string x.2.2.2.1.2.2.2.2.2.2.2.1.2.2.2.2.2.2.1, .string x.2.2.2.1.2.2.2.2.2.2.2.1.2.2.2.2.2.2.2, .int .i64 x.2.2.2.1.2.2.2.2.2.2.2.2.1, .bool x.2.2.2.1.2.2.2.2.2.2.2.2.2, .int .i64 x.2.2.2.2.1, .int .i64 x.2.2.2.2.2.1, .int .i64 x.2.2.2.2.2.2] _ (by rw [HW.out]; exact HR.out) Tryz.underlying69 rfl (by kernel_rfl) ?_))
  rw [HW.out]
  refine C1.out.mono ?_
  rintro e w1 (⟨b, hb, rfl, v1, S1, T1⟩ | ⟨c, hc, rfl, B1, T1⟩)
  · have S1' := S1
    rw [List.nil_append] at S1'
    obtain ⟨A1, d1, rfl, _, _⟩ := Kd.R_reads S1'.row
    have q3 := cell_blk S1'.cell 0 _ rfl
    have e1 := T1.keep H1.out (by decide)
    have e2 := T1.keep H2.out (by decide)
    have q1 := cell_blk e1 0 _ rfl
    have f1 := frozen_blk e1 0
    have q2 := cell_blk e2 0 _ rfl
    have f2 := frozen_blk e2 0
    obtain ⟨W2, hW2, k1, k2, B2, K2⟩ := two_stores e1 e2 (by omega) (.slice A1 b.length d1) (.int .i64 0)
    have SF := Lib.hid S1'
    have HE := Lib.hid hb
    have HW2 := Lib.hid hW2
    have K1' := Lib.hid k1
    have K2' := Lib.hid k2
    have B2' := Lib.hid (B2 w.heap.size (by omega) (by omega))
    have HK := Lib.hid K2
    clear S1 S1' T1 e1 e2 hW2 k1 k2 B2 K2 hb C1 HR HW H1 H2 EZ
    go_wp2
    rw [HW2.out]
    refine leaves_cons (f := 21) (args := #[.pointer (some ⟨w.heap.size + 1 + 1, 0, none⟩)]) (by simp) (by simp [go_sem]) ?_
    refine (caught_idle ⟨w.heap.size + 1 + 1, 0, none⟩ _).mono ?_
    rintro e u' w'' ⟨rfl, rfl, rfl⟩
    refine leaves_cons (f := 65) (args := #[.pointer (some ⟨w.heap.size + 1 + 1, 0, none⟩), .pointer (some ⟨w.heap.size + 1, 0, none⟩)]) (by simp [settle]) (by simp [go_sem]) ?_
    refine (putOp_close ⟨w.heap.size + 1 + 1, 0, none⟩ ⟨w.heap.size + 1, 0, none⟩ _ _ (cell_blk K2'.out 0 _ rfl)).mono ?_
    rintro e u' w'' ⟨rfl, rfl, rfl⟩
    have r1 := cell_blk K1'.out 0 _ rfl
    have r2 := cell_blk K2'.out 0 _ rfl
    simp [Leaves, settle, results, Tryz.results38, go_sem, r1, r2]
    rw [HE.out]
    exact ⟨_, rfl, HK.out.R SF.out.row (by decide), SF.out.below.trans B2'.out⟩
  · have c0 : c ≠ 0 := by
      rcases EZ.out c hc with rfl | rfl <;> decide
    have e1 := T1.keep H1.out (by decide)
    have e2 := T1.keep H2.out (by decide)
    have q2 := cell_blk e2 0 _ rfl
    have f2 := frozen_blk e2 0
    obtain ⟨W2, hW2, k2, k1, B2, K2⟩ := two_stores e2 e1 (by omega) (.int .i64 c) (.slice none 0 0)
    obtain ⟨W3, hW3⟩ : ∃ W3, w1.setCell ⟨w.heap.size + 2, 0, none⟩ (.int .i64 c) = W3 := ⟨_, rfl⟩
    have m2 : W3.heap[w.heap.size + 2]? = some (.cells #[.int .i64 c] 39 (0, 0)) := by rw [← hW3, blk_set e2]; rfl
    have m1 : W3.heap[w.heap.size + 1]? = some (.cells #[.slice none 0 0] 22 (0, 0)) := by rw [← hW3]; exact (Below.heap_setCell w1 ⟨w.heap.size + 2, 0, none⟩ _ _ (by simp)).trans e1
    have HE := Lib.hid hc
    have HC0 := Lib.hid c0
    have HW2 := Lib.hid hW2
    have HW3 := Lib.hid hW3
    have M1 := Lib.hid m1
    have M2 := Lib.hid m2
    have K1' := Lib.hid k1
    have K2' := Lib.hid k2
    have BF := Lib.hid (B1.trans (B2 w.heap.size (by omega) (by omega)))
    have Q2 := Lib.hid q2
    have F2 := Lib.hid f2
    clear T1 e1 e2 hW2 hW3 m1 m2 k1 k2 B2 B1 K2 hc c0 q2 f2 C1 HR HW H1 H2 EZ
    simp only [thrown]
    refine leaves_cons (f := 21) (args := #[.pointer (some ⟨w.heap.size + 1 + 1, 0, none⟩)]) (by simp) (by simp [go_sem]) ?_
    refine (caught_thrown ⟨w.heap.size + 1 + 1, 0, none⟩ 0 c _ Q2.out F2.out).mono ?_
    rintro e u' w'' ⟨rfl, rfl, rfl⟩
    refine leaves_cons (f := 65) (args := #[.pointer (some ⟨w.heap.size + 1 + 1, 0, none⟩), .pointer (some ⟨w.heap.size + 1, 0, none⟩)]) (by simp [settle]) (by simp [go_sem]) ?_
    refine (putOp_drop ⟨w.heap.size + 1 + 1, 0, none⟩ ⟨w.heap.size + 1, 0, none⟩ c (.slice none 0 0) _ _ HC0.out (by have := cell_blk M2.out 0 _ rfl; rw [← HW3.out] at this; exact this) (by have := cell_blk M1.out 0 _ rfl; rw [← HW3.out] at this; exact this) (by have := frozen_blk M1.out 0; rw [← HW3.out] at this; exact this)).mono ?_
    rintro e u' w'' ⟨rfl, rfl, rfl⟩
    have HW2b : (w1.setCell ⟨w.heap.size + 1 + 1, 0, none⟩ (.int .i64 c)).setCell ⟨w.heap.size + 1, 0, none⟩ (.slice none 0 0) = W2 := HW2.out
    rw [HW2b]
    have r1 := cell_blk K1'.out 0 _ rfl
    have r2 := cell_blk K2'.out 0 _ rfl
    simp [Leaves, settle, results, Tryz.results38, go_sem, r1, r2]
    rw [HE.out]
    exact ⟨_, rfl, Kd.R_nil _ _ _ _ _, BF.out⟩
set_option maxRecDepth 100000 in
set_option maxHeartbeats 16000000 in
theorem wire_PutOp (x : TOp) (A9 : Option Addr) (c9 : Nat) (A12 : Option Addr) (c12 : Nat) (w : World) (h9 : kColumn.C w A9 x.2.2.2.1.2.2.2.2.2.2.1.length x.2.2.2.1.2.2.2.2.2.2.1) (h12 : Kd.string.C w A12 x.2.2.2.1.2.2.2.2.2.2.2.1.2.2.1.length x.2.2.2.1.2.2.2.2.2.2.2.1.2.2.1) (hm : wOp x < 140737488355328) : Calls Tryz.prog 17 #[.agg #[.int .i64 x.1, .int .i64 x.2.1, .int .i64 x.2.2.1, .int .i64 x.2.2.2.1.1, .string x.2.2.2.1.2.1, .string x.2.2.2.1.2.2.1, .string x.2.2.2.1.2.2.2.1, .string x.2.2.2.1.2.2.2.2.1, .string x.2.2.2.1.2.2.2.2.2.1, .slice A9 x.2.2.2.1.2.2.2.2.2.2.1.length c9, .string x.2.2.2.1.2.2.2.2.2.2.2.1.1, .int .i64 x.2.2.2.1.2.2.2.2.2.2.2.1.2.1, .slice A12 x.2.2.2.1.2.2.2.2.2.2.2.1.2.2.1.length c12, .int .i64 x.2.2.2.1.2.2.2.2.2.2.2.1.2.2.2.1, .int .i64 x.2.2.2.1.2.2.2.2.2.2.2.1.2.2.2.2.1, .string x.2.2.2.1.2.2.2.2.2.2.2.1.2.2.2.2.2.1, .string x.2.2.2.1.2.2.2.2.2.2.2.1.2.2.2.2.2.2.1, .string x.2.2.2.1.2.2.2.2.2.2.2.1.2.2.2.2.2.2.2, .int .i64 x.2.2.2.1.2.2.2.2.2.2.2.2.1, .bool x.2.2.2.1.2.2.2.2.2.2.2.2.2, .int .i64 x.2.2.2.2.1, .int .i64 x.2.2.2.2.2.1, .int .i64 x.2.2.2.2.2.2]] w (PutTold w (eOp x)) := by
  have C1 := Lib.hid (PutTold.of_alloc (putOp x A9 c9 A12 c12 (w.alloc (.cells #[.int .i64 x.1, .int .i64 x.2.1, .int .i64 x.2.2.1, .int .i64 x.2.2.2.1.1, .string x.2.2.2.1.2.1, .string x.2.2.2.1.2.2.1, .string x.2.2.2.1.2.2.2.1, .string x.2.2.2.1.2.2.2.2.1, .string x.2.2.2.1.2.2.2.2.2.1, .slice A9 x.2.2.2.1.2.2.2.2.2.2.1.length c9, .string x.2.2.2.1.2.2.2.2.2.2.2.1.1, .int .i64 x.2.2.2.1.2.2.2.2.2.2.2.1.2.1, .slice A12 x.2.2.2.1.2.2.2.2.2.2.2.1.2.2.1.length c12, .int .i64 x.2.2.2.1.2.2.2.2.2.2.2.1.2.2.2.1, .int .i64 x.2.2.2.1.2.2.2.2.2.2.2.1.2.2.2.2.1, .string x.2.2.2.1.2.2.2.2.2.2.2.1.2.2.2.2.2.1, .string x.2.2.2.1.2.2.2.2.2.2.2.1.2.2.2.2.2.2.1, .string x.2.2.2.1.2.2.2.2.2.2.2.1.2.2.2.2.2.2.2, .int .i64 x.2.2.2.1.2.2.2.2.2.2.2.2.1, .bool x.2.2.2.1.2.2.2.2.2.2.2.2.2, .int .i64 x.2.2.2.2.1, .int .i64 x.2.2.2.2.2.1, .int .i64 x.2.2.2.2.2.2] 69)) (Kd.C_alloc h9 _) (Kd.C_alloc h12 _) hm))
  have HR := Lib.hid (range_blk [] [.int .i64 x.1, .int .i64 x.2.1, .int .i64 x.2.2.1, .int .i64 x.2.2.2.1.1, .string x.2.2.2.1.2.1, .string x.2.2.2.1.2.2.1, .string x.2.2.2.1.2.2.2.1, .string x.2.2.2.1.2.2.2.2.1, .string x.2.2.2.1.2.2.2.2.2.1, .slice A9 x.2.2.2.1.2.2.2.2.2.2.1.length c9, .string x.2.2.2.1.2.2.2.2.2.2.2.1.1, .int .i64 x.2.2.2.1.2.2.2.2.2.2.2.1.2.1, .slice A12 x.2.2.2.1.2.2.2.2.2.2.2.1.2.2.1.length c12, .int .i64 x.2.2.2.1.2.2.2.2.2.2.2.1.2.2.2.1, .int .i64 x.2.2.2.1.2.2.2.2.2.2.2.1.2.2.2.2.1, .string x.2.2.2.1.2.2.2.2.2.2.2.1.2.2.2.2.2.1, .string x.2.2.2.1.2.2.2.2.2.2.2.1.2.2.2.2.2.2.1, .string x.2.2.2.1.2.2.2.2.2.2.2.1.2.2.2.2.2.2.2, .int .i64 x.2.2.2.1.2.2.2.2.2.2.2.2.1, .bool x.2.2.2.1.2.2.2.2.2.2.2.2.2, .int .i64 x.2.2.2.2.1, .int .i64 x.2.2.2.2.2.1, .int .i64 x.2.2.2.2.2.2] [] (blk_new w (.cells #[.int .i64 x.1, .int .i64 x.2.1, .int .i64 x.2.2.1, .int .i64 x.2.2.2.1.1, .string x.2.2.2.1.2.1, .string x.2.2.2.1.2.2.1, .string x.2.2.2.1.2.2.2.1, .string x.2.2.2.1.2.2.2.2.1, .string x.2.2.2.1.2.2.2.2.2.1, .slice A9 x.2.2.2.1.2.2.2.2.2.2.1.length c9, .string x.2.2.2.1.2.2.2.2.2.2.2.1.1, .int .i64 x.2.2.2.1.2.2.2.2.2.2.2.1.2.1, .slice A12 x.2.2.2.1.2.2.2.2.2.2.2.1.2.2.1.length c12, .int .i64 x.2.2.2.1.2.2.2.2.2.2.2.1.2.2.2.1, .int .i64 x.2.2.2.1.2.2.2.2.2.2.2.1.2.2.2.2.1, .string x.2.2.2.1.2.2.2.2.2.2.2.1.2.2.2.2.2.1, .string x.2.2.2.1.2.2.2.2.2.2.2.1.2.2.2.2.2.2.1, .string x.2.2.2.1.2.2.2.2.2.2.2.1.2.2.2.2.2.2.2, .int .i64 x.2.2.2.1.2.2.2.2.2.2.2.2.1, .bool x.2.2.2.1.2.2.2.2.2.2.2.2.2, .int .i64 x.2.2.2.2.1, .int .i64 x.2.2.2.2.2.1, .int .i64 x.2.2.2.2.2.2] 69)))
  clear h9 h12 hm
  go_enter Tryz.func17, Tryz.ntmps17
  go_wp2_with (((with_reducible refine gate_load (t := 69) rfl ?_); refine wpList_load_mid rfl 69 _ rfl w.heap.size 0 rfl [.int .i64 x.1, .int .i64 x.2.1, .int .i64 x.2.2.1, .int .i64 x.2.2.2.1.1, .string x.2.2.2.1.2.1, .string x.2.2.2.1.2.2.1, .string x.2.2.2.1.2.2.2.1, .string x.2.2.2.1.2.2.2.2.1, .string x.2.2.2.1.2.2.2.2.2.1, .slice A9 x.2.2.2.1.2.2.2.2.2.2.1.length c9, .string x.2.2.2.1.2.2.2.2.2.2.2.1.1, .int .i64 x.2.2.2.1.2.2.2.2.2.2.2.1.2.1, .slice A12 x.2.2.2.1.2.2.2.2.2.2.2.1.2.2.1.length c12, .int .i64 x.2.2.2.1.2.2.2.2.2.2.2.1.2.2.2.1, .int .i64 x.2.2.2.1.2.2.2.2.2.2.2.1.2.2.2.2.1, .string x.2.2.2.1.2.2.2.2.2.2.2.1.2.2.2.2.2.1, .string x.2.2.2.1.2.2.2.2.2.2.2.1.2.2.2.2.2.2.1, .string x.2.2.2.1.2.2.2.2.2.2.2.1.2.2.2.2.2.2.2, .int .i64 x.2.2.2.1.2.2.2.2.2.2.2.2.1, .bool x.2.2.2.1.2.2.2.2.2.2.2.2.2, .int .i64 x.2.2.2.2.1, .int .i64 x.2.2.2.2.2.1, .int .i64 x.2.2.2.2.2.2] _ HR.out Tryz.underlying69 rfl (by kernel_rfl) ?_))
  refine C1.out.mono ?_
  rintro e w1 ⟨v, rfl, HR', HB⟩
  have HR'' := Lib.hid HR'
  have HB' := Lib.hid HB
  clear HR HR' HB C1
  go_wp2
  go_ret2
  exact ⟨_, rfl, HR''.out, HB'.out⟩
end Go.Proofs.YtoomcdgnnibjlaaGreat.Wr
/- The program's writer. -/
namespace Go.Proofs.YtoomcdgnnibjlaaGreat.Wr
open Go.RowKit Go.Proofs.YtoomcdgnnibjlaaGreatW.PrintWords Go.Proofs.YtoomcdgnnibjlaaGreatW.PrintLast
set_option linter.unusedVariables false
set_option linter.unusedSimpArgs false

set_option maxRecDepth 100000 in
set_option maxHeartbeats 16000000 in
theorem wr_record (x : TRecord) (A6 : Option Addr) (c6 : Nat) (A7 : Option Addr) (c7 : Nat) (A12 : Option Addr) (c12 : Nat) (A13 : Option Addr) (c13 : Nat) {w0 w : World} {g : Nat} {v : Value} {z0 : Bs} (h6 : (Kd.int .i64).C w0 A6 x.2.2.2.1.2.2.2.1.1.length x.2.2.2.1.2.2.2.1.1) (h7 : (Kd.int .i64).C w0 A7 x.2.2.2.1.2.2.2.1.2.length x.2.2.2.1.2.2.2.1.2) (h12 : (Kd.int .i64).C w0 A12 x.2.2.2.2.2.2.2.1.1.length x.2.2.2.2.2.2.2.1.1) (h13 : (Kd.int .i64).C w0 A13 x.2.2.2.2.2.2.2.1.2.length x.2.2.2.2.2.2.2.1.2) (hS : WAt w0 w g v z0) (hm : z0.length + wRecord x < 140737488355328) :
    Calls Tryz.prog 43 #[.pointer (some ⟨g, 0, none⟩), .agg #[.int .i64 x.1, .int .i64 x.2.1, .int .i64 x.2.2.1, .int .i64 x.2.2.2.1.1, .int .i64 x.2.2.2.1.2.1, .int .i64 x.2.2.2.1.2.2.1, .slice A6 x.2.2.2.1.2.2.2.1.1.length c6, .slice A7 x.2.2.2.1.2.2.2.1.2.length c7, .string x.2.2.2.1.2.2.2.2, .int .i64 x.2.2.2.2.1, .int .i64 x.2.2.2.2.2.1, .int .i64 x.2.2.2.2.2.2.1, .slice A12 x.2.2.2.2.2.2.2.1.1.length c12, .slice A13 x.2.2.2.2.2.2.2.1.2.length c13, .string x.2.2.2.2.2.2.2.2]] w (WDone w0 g w (eRecord x) z0) := by
  have hm' : z0.length + (4 + (4 + (4 + ((4 + (4 + (4 + (wConfig x.2.2.2.1.2.2.2.1 + (wText x.2.2.2.1.2.2.2.2))))) + (4 + ((4 + (4 + (wConfig x.2.2.2.2.2.2.2.1 + (wText x.2.2.2.2.2.2.2.2)))))))))) < 140737488355328 := hm
  clear hm
  have hb0 : Below w.heap.size w (w.alloc (.cells #[.int .i64 x.1, .int .i64 x.2.1, .int .i64 x.2.2.1, .int .i64 x.2.2.2.1.1, .int .i64 x.2.2.2.1.2.1, .int .i64 x.2.2.2.1.2.2.1, .slice A6 x.2.2.2.1.2.2.2.1.1.length c6, .slice A7 x.2.2.2.1.2.2.2.1.2.length c7, .string x.2.2.2.1.2.2.2.2, .int .i64 x.2.2.2.2.1, .int .i64 x.2.2.2.2.2.1, .int .i64 x.2.2.2.2.2.2.1, .slice A12 x.2.2.2.2.2.2.2.1.1.length c12, .slice A13 x.2.2.2.2.2.2.2.1.2.length c13, .string x.2.2.2.2.2.2.2.2] 84)) := (Below.refl _ _).alloc (Nat.le_refl _) _
  have hx0 := blk_new w (.cells #[.int .i64 x.1, .int .i64 x.2.1, .int .i64 x.2.2.1, .int .i64 x.2.2.2.1.1, .int .i64 x.2.2.2.1.2.1, .int .i64 x.2.2.2.1.2.2.1, .slice A6 x.2.2.2.1.2.2.2.1.1.length c6, .slice A7 x.2.2.2.1.2.2.2.1.2.length c7, .string x.2.2.2.1.2.2.2.2, .int .i64 x.2.2.2.2.1, .int .i64 x.2.2.2.2.2.1, .int .i64 x.2.2.2.2.2.2.1, .slice A12 x.2.2.2.2.2.2.2.1.1.length c12, .slice A13 x.2.2.2.2.2.2.2.1.2.length c13, .string x.2.2.2.2.2.2.2.2] 84)
  obtain ⟨W0, hW0⟩ : ∃ W0, w.alloc (.cells #[.int .i64 x.1, .int .i64 x.2.1, .int .i64 x.2.2.1, .int .i64 x.2.2.2.1.1, .int .i64 x.2.2.2.1.2.1, .int .i64 x.2.2.2.1.2.2.1, .slice A6 x.2.2.2.1.2.2.2.1.1.length c6, .slice A7 x.2.2.2.1.2.2.2.1.2.length c7, .string x.2.2.2.1.2.2.2.2, .int .i64 x.2.2.2.2.1, .int .i64 x.2.2.2.2.2.1, .int .i64 x.2.2.2.2.2.2.1, .slice A12 x.2.2.2.2.2.2.2.1.1.length c12, .slice A13 x.2.2.2.2.2.2.2.1.2.length c13, .string x.2.2.2.2.2.2.2.2] 84) = W0 := ⟨_, rfl⟩
  rw [hW0] at hb0 hx0
  have S0 := Lib.hid (hS.stays hb0)
  have HB := Lib.hid hx0
  have T0 := Lib.hid (Stp.refl SW W0)
  have TW := Lib.hid (Stp.below (S := SW) hb0)
  have HW := Lib.hid hW0
  clear hb0 hx0 hW0 hS
  go_enter Tryz.func43, Tryz.ntmps43
  have q0 := cell_blk (T0.out.keep HB.out (by decide)) 0 _ rfl
  go_wp2_with fail
  rw [HW.out]
  clear HW
  clear q0
  refine (wr_number (x.1)   S0.out (by omega)).mono ?_
  rintro e w1 (⟨b1, hb1, rfl, v1, S1', T1'⟩ | ⟨c, hc, rfl, hbe, T1'⟩)
  rotate_left
  · exact ⟨rfl, .inr ⟨c, by simp only [eRecord, eEntry, eSnapshot, hc, cat_err, cat_ok_err, cat_ok_ok], rfl, hbe, TW.out.trans (T0.out.trans T1')⟩⟩
  have hn1 : b1.length = 4 := cod_num.len _ _ hb1
  obtain ⟨z1, hz1⟩ : ∃ z, z0 ++ b1 = z := ⟨_, rfl⟩
  rw [hz1] at S1'
  have hl1 : z1.length ≤ z0.length + (4) := by rw [← hz1, List.length_append]; omega
  have S1 := Lib.hid S1'
  have T1 := Lib.hid (T0.out.trans T1')
  have HE1 := Lib.hid hb1
  have HZ1 := Lib.hid hz1
  clear S1' T1' hb1 hz1 hn1 S0 T0
  have q1 := cell_blk (T1.out.keep HB.out (by decide)) 1 _ rfl
  go_wp2_with fail
  clear q1
  refine (wr_number (x.2.1)   S1.out (by have := hl1; omega)).mono ?_
  rintro e w2 (⟨b2, hb2, rfl, v2, S2', T2'⟩ | ⟨c, hc, rfl, hbe, T2'⟩)
  rotate_left
  · exact ⟨rfl, .inr ⟨c, by simp only [eRecord, eEntry, eSnapshot, HE1.out, hc, cat_err, cat_ok_err, cat_ok_ok], rfl, hbe, TW.out.trans (T1.out.trans T2')⟩⟩
  have hn2 : b2.length = 4 := cod_num.len _ _ hb2
  obtain ⟨z2, hz2⟩ : ∃ z, z1 ++ b2 = z := ⟨_, rfl⟩
  rw [hz2] at S2'
  have hl2 : z2.length ≤ z0.length + (4 + (4)) := by rw [← hz2, List.length_append]; have := hl1; omega
  have S2 := Lib.hid S2'
  have T2 := Lib.hid (T1.out.trans T2')
  have HE2 := Lib.hid hb2
  have HZ2 := Lib.hid hz2
  clear S2' T2' hb2 hz2 hn2 S1 T1 hl1
  have q2 := cell_blk (T2.out.keep HB.out (by decide)) 2 _ rfl
  go_wp2_with fail
  clear q2
  refine (wr_number (x.2.2.1)   S2.out (by have := hl2; omega)).mono ?_
  rintro e w3 (⟨b3, hb3, rfl, v3, S3', T3'⟩ | ⟨c, hc, rfl, hbe, T3'⟩)
  rotate_left
  · exact ⟨rfl, .inr ⟨c, by simp only [eRecord, eEntry, eSnapshot, HE1.out, HE2.out, hc, cat_err, cat_ok_err, cat_ok_ok], rfl, hbe, TW.out.trans (T2.out.trans T3')⟩⟩
  have hn3 : b3.length = 4 := cod_num.len _ _ hb3
  obtain ⟨z3, hz3⟩ : ∃ z, z2 ++ b3 = z := ⟨_, rfl⟩
  rw [hz3] at S3'
  have hl3 : z3.length ≤ z0.length + (4 + (4 + (4))) := by rw [← hz3, List.length_append]; have := hl2; omega
  have S3 := Lib.hid S3'
  have T3 := Lib.hid (T2.out.trans T3')
  have HE3 := Lib.hid hb3
  have HZ3 := Lib.hid hz3
  clear S3' T3' hb3 hz3 hn3 S2 T2 hl2
  have q3 := cell_blk (T3.out.keep HB.out (by decide)) 3 _ rfl
  go_wp2_with fail
  clear q3
  refine (wr_number (x.2.2.2.1.1)   S3.out (by have := hl3; omega)).mono ?_
  rintro e w4 (⟨b4, hb4, rfl, v4, S4', T4'⟩ | ⟨c, hc, rfl, hbe, T4'⟩)
  rotate_left
  · exact ⟨rfl, .inr ⟨c, by simp only [eRecord, eEntry, eSnapshot, HE1.out, HE2.out, HE3.out, hc, cat_err, cat_ok_err, cat_ok_ok], rfl, hbe, TW.out.trans (T3.out.trans T4')⟩⟩
  have hn4 : b4.length = 4 := cod_num.len _ _ hb4
  obtain ⟨z4, hz4⟩ : ∃ z, z3 ++ b4 = z := ⟨_, rfl⟩
  rw [hz4] at S4'
  have hl4 : z4.length ≤ z0.length + (4 + (4 + (4 + (4)))) := by rw [← hz4, List.length_append]; have := hl3; omega
  have S4 := Lib.hid S4'
  have T4 := Lib.hid (T3.out.trans T4')
  have HE4 := Lib.hid hb4
  have HZ4 := Lib.hid hz4
  clear S4' T4' hb4 hz4 hn4 S3 T3 hl3
  have q4 := cell_blk (T4.out.keep HB.out (by decide)) 4 _ rfl
  go_wp2_with fail
  clear q4
  refine (wr_number (x.2.2.2.1.2.1)   S4.out (by have := hl4; omega)).mono ?_
  rintro e w5 (⟨b5, hb5, rfl, v5, S5', T5'⟩ | ⟨c, hc, rfl, hbe, T5'⟩)
  rotate_left
  · exact ⟨rfl, .inr ⟨c, by simp only [eRecord, eEntry, eSnapshot, HE1.out, HE2.out, HE3.out, HE4.out, hc, cat_err, cat_ok_err, cat_ok_ok], rfl, hbe, TW.out.trans (T4.out.trans T5')⟩⟩
  have hn5 : b5.length = 4 := cod_num.len _ _ hb5
  obtain ⟨z5, hz5⟩ : ∃ z, z4 ++ b5 = z := ⟨_, rfl⟩
  rw [hz5] at S5'
  have hl5 : z5.length ≤ z0.length + (4 + (4 + (4 + (4 + (4))))) := by rw [← hz5, List.length_append]; have := hl4; omega
  have S5 := Lib.hid S5'
  have T5 := Lib.hid (T4.out.trans T5')
  have HE5 := Lib.hid hb5
  have HZ5 := Lib.hid hz5
  clear S5' T5' hb5 hz5 hn5 S4 T4 hl4
  have q5 := cell_blk (T5.out.keep HB.out (by decide)) 5 _ rfl
  go_wp2_with fail
  clear q5
  refine (wr_number (x.2.2.2.1.2.2.1)   S5.out (by have := hl5; omega)).mono ?_
  rintro e w6 (⟨b6, hb6, rfl, v6, S6', T6'⟩ | ⟨c, hc, rfl, hbe, T6'⟩)
  rotate_left
  · exact ⟨rfl, .inr ⟨c, by simp only [eRecord, eEntry, eSnapshot, HE1.out, HE2.out, HE3.out, HE4.out, HE5.out, hc, cat_err, cat_ok_err, cat_ok_ok], rfl, hbe, TW.out.trans (T5.out.trans T6')⟩⟩
  have hn6 : b6.length = 4 := cod_num.len _ _ hb6
  obtain ⟨z6, hz6⟩ : ∃ z, z5 ++ b6 = z := ⟨_, rfl⟩
  rw [hz6] at S6'
  have hl6 : z6.length ≤ z0.length + (4 + (4 + (4 + (4 + (4 + (4)))))) := by rw [← hz6, List.length_append]; have := hl5; omega
  have S6 := Lib.hid S6'
  have T6 := Lib.hid (T5.out.trans T6')
  have HE6 := Lib.hid hb6
  have HZ6 := Lib.hid hz6
  clear S6' T6' hb6 hz6 hn6 S5 T5 hl5
  have q6 := cell_blk (T6.out.keep HB.out (by decide)) 6 _ rfl
  have q7 := cell_blk (T6.out.keep HB.out (by decide)) 7 _ rfl
  go_wp2_with fail
  clear q6 q7
  refine (wr_config (x.2.2.2.1.2.2.2.1) A6 c6 A7 c7 h6 h7 S6.out (by have := hl6; omega)).mono ?_
  rintro e w7 (⟨b7, hb7, rfl, v7, S7', T7'⟩ | ⟨c, hc, rfl, hbe, T7'⟩)
  rotate_left
  · exact ⟨rfl, .inr ⟨c, by simp only [eRecord, eEntry, eSnapshot, HE1.out, HE2.out, HE3.out, HE4.out, HE5.out, HE6.out, hc, cat_err, cat_ok_err, cat_ok_ok], rfl, hbe, TW.out.trans (T6.out.trans T7')⟩⟩
  have hn7 : b7.length = wConfig x.2.2.2.1.2.2.2.1 := codConfig.len _ _ hb7
  obtain ⟨z7, hz7⟩ : ∃ z, z6 ++ b7 = z := ⟨_, rfl⟩
  rw [hz7] at S7'
  have hl7 : z7.length ≤ z0.length + (4 + (4 + (4 + (4 + (4 + (4 + (wConfig x.2.2.2.1.2.2.2.1))))))) := by rw [← hz7, List.length_append]; have := hl6; omega
  have S7 := Lib.hid S7'
  have T7 := Lib.hid (T6.out.trans T7')
  have HE7 := Lib.hid hb7
  have HZ7 := Lib.hid hz7
  clear S7' T7' hb7 hz7 hn7 S6 T6 hl6
  have q8 := cell_blk (T7.out.keep HB.out (by decide)) 8 _ rfl
  go_wp2_with fail
  clear q8
  refine (wr_text (x.2.2.2.1.2.2.2.2)   S7.out (by have := hl7; omega)).mono ?_
  rintro e w8 (⟨b8, hb8, rfl, v8, S8', T8'⟩ | ⟨c, hc, rfl, hbe, T8'⟩)
  rotate_left
  · exact ⟨rfl, .inr ⟨c, by simp only [eRecord, eEntry, eSnapshot, HE1.out, HE2.out, HE3.out, HE4.out, HE5.out, HE6.out, HE7.out, hc, cat_err, cat_ok_err, cat_ok_ok], rfl, hbe, TW.out.trans (T7.out.trans T8')⟩⟩
  have hn8 : b8.length = wText x.2.2.2.1.2.2.2.2 := cod_text.len _ _ hb8
  obtain ⟨z8, hz8⟩ : ∃ z, z7 ++ b8 = z := ⟨_, rfl⟩
  rw [hz8] at S8'
  have hl8 : z8.length ≤ z0.length + (4 + (4 + (4 + (4 + (4 + (4 + (wConfig x.2.2.2.1.2.2.2.1 + (wText x.2.2.2.1.2.2.2.2)))))))) := by rw [← hz8, List.length_append]; have := hl7; omega
  have S8 := Lib.hid S8'
  have T8 := Lib.hid (T7.out.trans T8')
  have HE8 := Lib.hid hb8
  have HZ8 := Lib.hid hz8
  clear S8' T8' hb8 hz8 hn8 S7 T7 hl7
  have q9 := cell_blk (T8.out.keep HB.out (by decide)) 9 _ rfl
  go_wp2_with fail
  clear q9
  refine (wr_number (x.2.2.2.2.1)   S8.out (by have := hl8; omega)).mono ?_
  rintro e w9 (⟨b9, hb9, rfl, v9, S9', T9'⟩ | ⟨c, hc, rfl, hbe, T9'⟩)
  rotate_left
  · exact ⟨rfl, .inr ⟨c, by simp only [eRecord, eEntry, eSnapshot, HE1.out, HE2.out, HE3.out, HE4.out, HE5.out, HE6.out, HE7.out, HE8.out, hc, cat_err, cat_ok_err, cat_ok_ok], rfl, hbe, TW.out.trans (T8.out.trans T9')⟩⟩
  have hn9 : b9.length = 4 := cod_num.len _ _ hb9
  obtain ⟨z9, hz9⟩ : ∃ z, z8 ++ b9 = z := ⟨_, rfl⟩
  rw [hz9] at S9'
  have hl9 : z9.length ≤ z0.length + (4 + (4 + (4 + (4 + (4 + (4 + (wConfig x.2.2.2.1.2.2.2.1 + (wText x.2.2.2.1.2.2.2.2 + (4))))))))) := by rw [← hz9, List.length_append]; have := hl8; omega
  have S9 := Lib.hid S9'
  have T9 := Lib.hid (T8.out.trans T9')
  have HE9 := Lib.hid hb9
  have HZ9 := Lib.hid hz9
  clear S9' T9' hb9 hz9 hn9 S8 T8 hl8
  have q10 := cell_blk (T9.out.keep HB.out (by decide)) 10 _ rfl
  go_wp2_with fail
  clear q10
  refine (wr_number (x.2.2.2.2.2.1)   S9.out (by have := hl9; omega)).mono ?_
  rintro e w10 (⟨b10, hb10, rfl, v10, S10', T10'⟩ | ⟨c, hc, rfl, hbe, T10'⟩)
  rotate_left
  · exact ⟨rfl, .inr ⟨c, by simp only [eRecord, eEntry, eSnapshot, HE1.out, HE2.out, HE3.out, HE4.out, HE5.out, HE6.out, HE7.out, HE8.out, HE9.out, hc, cat_err, cat_ok_err, cat_ok_ok], rfl, hbe, TW.out.trans (T9.out.trans T10')⟩⟩
  have hn10 : b10.length = 4 := cod_num.len _ _ hb10
  obtain ⟨z10, hz10⟩ : ∃ z, z9 ++ b10 = z := ⟨_, rfl⟩
  rw [hz10] at S10'
  have hl10 : z10.length ≤ z0.length + (4 + (4 + (4 + (4 + (4 + (4 + (wConfig x.2.2.2.1.2.2.2.1 + (wText x.2.2.2.1.2.2.2.2 + (4 + (4)))))))))) := by rw [← hz10, List.length_append]; have := hl9; omega
  have S10 := Lib.hid S10'
  have T10 := Lib.hid (T9.out.trans T10')
  have HE10 := Lib.hid hb10
  have HZ10 := Lib.hid hz10
  clear S10' T10' hb10 hz10 hn10 S9 T9 hl9
  have q11 := cell_blk (T10.out.keep HB.out (by decide)) 11 _ rfl
  go_wp2_with fail
  clear q11
  refine (wr_number (x.2.2.2.2.2.2.1)   S10.out (by have := hl10; omega)).mono ?_
  rintro e w11 (⟨b11, hb11, rfl, v11, S11', T11'⟩ | ⟨c, hc, rfl, hbe, T11'⟩)
  rotate_left
  · exact ⟨rfl, .inr ⟨c, by simp only [eRecord, eEntry, eSnapshot, HE1.out, HE2.out, HE3.out, HE4.out, HE5.out, HE6.out, HE7.out, HE8.out, HE9.out, HE10.out, hc, cat_err, cat_ok_err, cat_ok_ok], rfl, hbe, TW.out.trans (T10.out.trans T11')⟩⟩
  have hn11 : b11.length = 4 := cod_num.len _ _ hb11
  obtain ⟨z11, hz11⟩ : ∃ z, z10 ++ b11 = z := ⟨_, rfl⟩
  rw [hz11] at S11'
  have hl11 : z11.length ≤ z0.length + (4 + (4 + (4 + (4 + (4 + (4 + (wConfig x.2.2.2.1.2.2.2.1 + (wText x.2.2.2.1.2.2.2.2 + (4 + (4 + (4))))))))))) := by rw [← hz11, List.length_append]; have := hl10; omega
  have S11 := Lib.hid S11'
  have T11 := Lib.hid (T10.out.trans T11')
  have HE11 := Lib.hid hb11
  have HZ11 := Lib.hid hz11
  clear S11' T11' hb11 hz11 hn11 S10 T10 hl10
  have q12 := cell_blk (T11.out.keep HB.out (by decide)) 12 _ rfl
  have q13 := cell_blk (T11.out.keep HB.out (by decide)) 13 _ rfl
  go_wp2_with fail
  clear q12 q13
  refine (wr_config (x.2.2.2.2.2.2.2.1) A12 c12 A13 c13 h12 h13 S11.out (by have := hl11; omega)).mono ?_
  rintro e w12 (⟨b12, hb12, rfl, v12, S12', T12'⟩ | ⟨c, hc, rfl, hbe, T12'⟩)
  rotate_left
  · exact ⟨rfl, .inr ⟨c, by simp only [eRecord, eEntry, eSnapshot, HE1.out, HE2.out, HE3.out, HE4.out, HE5.out, HE6.out, HE7.out, HE8.out, HE9.out, HE10.out, HE11.out, hc, cat_err, cat_ok_err, cat_ok_ok], rfl, hbe, TW.out.trans (T11.out.trans T12')⟩⟩
  have hn12 : b12.length = wConfig x.2.2.2.2.2.2.2.1 := codConfig.len _ _ hb12
  obtain ⟨z12, hz12⟩ : ∃ z, z11 ++ b12 = z := ⟨_, rfl⟩
  rw [hz12] at S12'
  have hl12 : z12.length ≤ z0.length + (4 + (4 + (4 + (4 + (4 + (4 + (wConfig x.2.2.2.1.2.2.2.1 + (wText x.2.2.2.1.2.2.2.2 + (4 + (4 + (4 + (wConfig x.2.2.2.2.2.2.2.1)))))))))))) := by rw [← hz12, List.length_append]; have := hl11; omega
  have S12 := Lib.hid S12'
  have T12 := Lib.hid (T11.out.trans T12')
  have HE12 := Lib.hid hb12
  have HZ12 := Lib.hid hz12
  clear S12' T12' hb12 hz12 hn12 S11 T11 hl11
  have q14 := cell_blk (T12.out.keep HB.out (by decide)) 14 _ rfl
  go_wp2_with fail
  clear q14
  refine (wr_text (x.2.2.2.2.2.2.2.2)   S12.out (by have := hl12; omega)).mono ?_
  rintro e w13 (⟨b13, hb13, rfl, v13, S13', T13'⟩ | ⟨c, hc, rfl, hbe, T13'⟩)
  rotate_left
  · exact ⟨rfl, .inr ⟨c, by simp only [eRecord, eEntry, eSnapshot, HE1.out, HE2.out, HE3.out, HE4.out, HE5.out, HE6.out, HE7.out, HE8.out, HE9.out, HE10.out, HE11.out, HE12.out, hc, cat_err, cat_ok_err, cat_ok_ok], rfl, hbe, TW.out.trans (T12.out.trans T13')⟩⟩
  have hn13 : b13.length = wText x.2.2.2.2.2.2.2.2 := cod_text.len _ _ hb13
  obtain ⟨z13, hz13⟩ : ∃ z, z12 ++ b13 = z := ⟨_, rfl⟩
  rw [hz13] at S13'
  have hl13 : z13.length ≤ z0.length + (4 + (4 + (4 + (4 + (4 + (4 + (wConfig x.2.2.2.1.2.2.2.1 + (wText x.2.2.2.1.2.2.2.2 + (4 + (4 + (4 + (wConfig x.2.2.2.2.2.2.2.1 + (wText x.2.2.2.2.2.2.2.2))))))))))))) := by rw [← hz13, List.length_append]; have := hl12; omega
  have S13 := Lib.hid S13'
  have T13 := Lib.hid (T12.out.trans T13')
  have HE13 := Lib.hid hb13
  have HZ13 := Lib.hid hz13
  clear S13' T13' hb13 hz13 hn13 S12 T12 hl12
  go_wp2
  go_end0
  have SF := S13.out
  rw [← HZ13.out, ← HZ12.out, ← HZ11.out, ← HZ10.out, ← HZ9.out, ← HZ8.out, ← HZ7.out, ← HZ6.out, ← HZ5.out, ← HZ4.out, ← HZ3.out, ← HZ2.out, ← HZ1.out] at SF
  refine .inl ⟨_, by simp only [eRecord, eEntry, eSnapshot, HE1.out, HE2.out, HE3.out, HE4.out, HE5.out, HE6.out, HE7.out, HE8.out, HE9.out, HE10.out, HE11.out, HE12.out, HE13.out, cat_ok_ok]; rfl, rfl, v13, ?_, TW.out.trans T13.out⟩
  simpa only [List.append_assoc] using SF
end Go.Proofs.YtoomcdgnnibjlaaGreat.Wr
/- The program's bytes of a record, or the first fault. -/
namespace Go.Proofs.YtoomcdgnnibjlaaGreat.Wr
open Go.RowKit Go.Proofs.YtoomcdgnnibjlaaGreatW.PrintWords Go.Proofs.YtoomcdgnnibjlaaGreatW.PrintLast
set_option linter.unusedVariables false
set_option linter.unusedSimpArgs false


set_option maxRecDepth 100000 in
set_option maxHeartbeats 4000000 in
theorem putRecord_close (pe pb : Addr) (u : FrameMode) (w : World) (hc : w.cell? pe = some (.int .i64 0)) :
    CallsD Tryz.prog 70 #[.pointer (some pe), .pointer (some pb)] u w fun e u' w' => u' = u ∧ e = .returned (.tuple #[]) ∧ w = w' := by
  go_enter_d Tryz.func70, Tryz.ntmps70
  go_wp2
  go_end0
  exact ⟨rfl, rfl⟩
set_option maxRecDepth 100000 in
set_option maxHeartbeats 4000000 in
theorem putRecord_drop (pe pb : Addr) (c : Int) (vb : Value) (u : FrameMode) (w : World) (h0 : c ≠ 0) (hc : w.cell? pe = some (.int .i64 c)) (hb : w.cell? pb = some vb) (hz : w.frozen? pb = false) :
    CallsD Tryz.prog 70 #[.pointer (some pe), .pointer (some pb)] u w fun e u' w' => u' = u ∧ e = .returned (.tuple #[]) ∧ w' = w.setCell pb (.slice none 0 0) := by
  have h1 : (c == 0) = false := by simpa using h0
  have h2 : (c != 0) = true := by simpa using h0
  go_enter_d Tryz.func70, Tryz.ntmps70
  go_wp2
  go_end0
  exact ⟨rfl, rfl⟩
set_option maxRecDepth 100000 in
set_option maxHeartbeats 16000000 in
theorem putRecord (x : TRecord) (A6 : Option Addr) (c6 : Nat) (A7 : Option Addr) (c7 : Nat) (A12 : Option Addr) (c12 : Nat) (A13 : Option Addr) (c13 : Nat) (w : World) (h6 : (Kd.int .i64).C w A6 x.2.2.2.1.2.2.2.1.1.length x.2.2.2.1.2.2.2.1.1) (h7 : (Kd.int .i64).C w A7 x.2.2.2.1.2.2.2.1.2.length x.2.2.2.1.2.2.2.1.2) (h12 : (Kd.int .i64).C w A12 x.2.2.2.2.2.2.2.1.1.length x.2.2.2.2.2.2.2.1.1) (h13 : (Kd.int .i64).C w A13 x.2.2.2.2.2.2.2.1.2.length x.2.2.2.2.2.2.2.1.2) (hm : wRecord x < 140737488355328) : Calls Tryz.prog 42 #[.agg #[.int .i64 x.1, .int .i64 x.2.1, .int .i64 x.2.2.1, .int .i64 x.2.2.2.1.1, .int .i64 x.2.2.2.1.2.1, .int .i64 x.2.2.2.1.2.2.1, .slice A6 x.2.2.2.1.2.2.2.1.1.length c6, .slice A7 x.2.2.2.1.2.2.2.1.2.length c7, .string x.2.2.2.1.2.2.2.2, .int .i64 x.2.2.2.2.1, .int .i64 x.2.2.2.2.2.1, .int .i64 x.2.2.2.2.2.2.1, .slice A12 x.2.2.2.2.2.2.2.1.1.length c12, .slice A13 x.2.2.2.2.2.2.2.1.2.length c13, .string x.2.2.2.2.2.2.2.2], .func (.func 43) #[] #[]] w (PutTold w (eRecord x)) := by
  have hmf : ∀ (fn : Fn) (first cap : Array Value) (w : World), (Instr.makeFunc fn first cap).run Tryz.prog w = .ok (.func fn first cap) w := fun _ _ _ _ => rfl
  obtain ⟨W, hW, hb, hx, hy1, hy2, hy3⟩ := put_world w #[.int .i64 x.1, .int .i64 x.2.1, .int .i64 x.2.2.1, .int .i64 x.2.2.2.1.1, .int .i64 x.2.2.2.1.2.1, .int .i64 x.2.2.2.1.2.2.1, .slice A6 x.2.2.2.1.2.2.2.1.1.length c6, .slice A7 x.2.2.2.1.2.2.2.1.2.length c7, .string x.2.2.2.1.2.2.2.2, .int .i64 x.2.2.2.2.1, .int .i64 x.2.2.2.2.2.1, .int .i64 x.2.2.2.2.2.2.1, .slice A12 x.2.2.2.2.2.2.2.1.1.length c12, .slice A13 x.2.2.2.2.2.2.2.1.2.length c13, .string x.2.2.2.2.2.2.2.2] 84
  have hL : WAt w W (w.heap.size + 3) (.slice none 0 0) [] := ⟨by omega, hb, hy3, Kd.R_nil _ _ _ _ _⟩
  have C1 := Lib.hid (wr_record x A6 c6 A7 c7 A12 c12 A13 c13 h6 h7 h12 h13 hL (by simpa using hm))
  have HR := Lib.hid (range_blk [] [.int .i64 x.1, .int .i64 x.2.1, .int .i64 x.2.2.1, .int .i64 x.2.2.2.1.1, .int .i64 x.2.2.2.1.2.1, .int .i64 x.2.2.2.1.2.2.1, .slice A6 x.2.2.2.1.2.2.2.1.1.length c6, .slice A7 x.2.2.2.1.2.2.2.1.2.length c7, .string x.2.2.2.1.2.2.2.2, .int .i64 x.2.2.2.2.1, .int .i64 x.2.2.2.2.2.1, .int .i64 x.2.2.2.2.2.2.1, .slice A12 x.2.2.2.2.2.2.2.1.1.length c12, .slice A13 x.2.2.2.2.2.2.2.1.2.length c13, .string x.2.2.2.2.2.2.2.2] [] hx)
  have HW := Lib.hid hW
  have H1 := Lib.hid hy1
  have H2 := Lib.hid hy2
  have EZ := Lib.hid (fun c hc => codRecord.err x c hc)
  clear hb hL hW hy1 hy2 hy3 hx hm h6 h7 h12 h13
  go_enter_defers Tryz.func42, Tryz.ntmps42
  go_wp2_with (((with_reducible refine gate_load (t := 84) rfl ?_); refine wpList_load_mid rfl 84 _ rfl w.heap.size 0 rfl [.int .i64 x.1, .int .i64 x.2.1, .int .i64 x.2.2.1, .int .i64 x.2.2.2.1.1, .int .i64 x.2.2.2.1.2.1, .int .i64 x.2.2.2.1.2.2.1, .slice A6 x.2.2.2.1.2.2.2.1.1.length c6, .slice A7 x.2.2.2.1.2.2.2.1.2.length c7, .string x.2.2.2.1.2.2.2.2, .int .i64 x.2.2.2.2.1, .int .i64 x.2.2.2.2.2.1, .int .i64 x.2.2.2.2.2.2.1, .slice A12 x.2.2.2.2.2.2.2.1.1.length c12, .slice A13 x.2.2.2.2.2.2.2.1.2.length c13, .string x.2.2.2.2.2.2.2.2] _ (by rw [HW.out]; exact HR.out) Tryz.underlying84 rfl (by kernel_rfl) ?_))
  rw [HW.out]
  refine C1.out.mono ?_
  rintro e w1 (⟨b, hb, rfl, v1, S1, T1⟩ | ⟨c, hc, rfl, B1, T1⟩)
  · have S1' := S1
    rw [List.nil_append] at S1'
    obtain ⟨A1, d1, rfl, _, _⟩ := Kd.R_reads S1'.row
    have q3 := cell_blk S1'.cell 0 _ rfl
    have e1 := T1.keep H1.out (by decide)
    have e2 := T1.keep H2.out (by decide)
    have q1 := cell_blk e1 0 _ rfl
    have f1 := frozen_blk e1 0
    have q2 := cell_blk e2 0 _ rfl
    have f2 := frozen_blk e2 0
    obtain ⟨W2, hW2, k1, k2, B2, K2⟩ := two_stores e1 e2 (by omega) (.slice A1 b.length d1) (.int .i64 0)
    have SF := Lib.hid S1'
    have HE := Lib.hid hb
    have HW2 := Lib.hid hW2
    have K1' := Lib.hid k1
    have K2' := Lib.hid k2
    have B2' := Lib.hid (B2 w.heap.size (by omega) (by omega))
    have HK := Lib.hid K2
    clear S1 S1' T1 e1 e2 hW2 k1 k2 B2 K2 hb C1 HR HW H1 H2 EZ
    go_wp2
    rw [HW2.out]
    refine leaves_cons (f := 21) (args := #[.pointer (some ⟨w.heap.size + 1 + 1, 0, none⟩)]) (by simp) (by simp [go_sem]) ?_
    refine (caught_idle ⟨w.heap.size + 1 + 1, 0, none⟩ _).mono ?_
    rintro e u' w'' ⟨rfl, rfl, rfl⟩
    refine leaves_cons (f := 70) (args := #[.pointer (some ⟨w.heap.size + 1 + 1, 0, none⟩), .pointer (some ⟨w.heap.size + 1, 0, none⟩)]) (by simp [settle]) (by simp [go_sem]) ?_
    refine (putRecord_close ⟨w.heap.size + 1 + 1, 0, none⟩ ⟨w.heap.size + 1, 0, none⟩ _ _ (cell_blk K2'.out 0 _ rfl)).mono ?_
    rintro e u' w'' ⟨rfl, rfl, rfl⟩
    have r1 := cell_blk K1'.out 0 _ rfl
    have r2 := cell_blk K2'.out 0 _ rfl
    simp [Leaves, settle, results, Tryz.results42, go_sem, r1, r2]
    rw [HE.out]
    exact ⟨_, rfl, HK.out.R SF.out.row (by decide), SF.out.below.trans B2'.out⟩
  · have c0 : c ≠ 0 := by
      rcases EZ.out c hc with rfl | rfl <;> decide
    have e1 := T1.keep H1.out (by decide)
    have e2 := T1.keep H2.out (by decide)
    have q2 := cell_blk e2 0 _ rfl
    have f2 := frozen_blk e2 0
    obtain ⟨W2, hW2, k2, k1, B2, K2⟩ := two_stores e2 e1 (by omega) (.int .i64 c) (.slice none 0 0)
    obtain ⟨W3, hW3⟩ : ∃ W3, w1.setCell ⟨w.heap.size + 2, 0, none⟩ (.int .i64 c) = W3 := ⟨_, rfl⟩
    have m2 : W3.heap[w.heap.size + 2]? = some (.cells #[.int .i64 c] 39 (0, 0)) := by rw [← hW3, blk_set e2]; rfl
    have m1 : W3.heap[w.heap.size + 1]? = some (.cells #[.slice none 0 0] 22 (0, 0)) := by rw [← hW3]; exact (Below.heap_setCell w1 ⟨w.heap.size + 2, 0, none⟩ _ _ (by simp)).trans e1
    have HE := Lib.hid hc
    have HC0 := Lib.hid c0
    have HW2 := Lib.hid hW2
    have HW3 := Lib.hid hW3
    have M1 := Lib.hid m1
    have M2 := Lib.hid m2
    have K1' := Lib.hid k1
    have K2' := Lib.hid k2
    have BF := Lib.hid (B1.trans (B2 w.heap.size (by omega) (by omega)))
    have Q2 := Lib.hid q2
    have F2 := Lib.hid f2
    clear T1 e1 e2 hW2 hW3 m1 m2 k1 k2 B2 B1 K2 hc c0 q2 f2 C1 HR HW H1 H2 EZ
    simp only [thrown]
    refine leaves_cons (f := 21) (args := #[.pointer (some ⟨w.heap.size + 1 + 1, 0, none⟩)]) (by simp) (by simp [go_sem]) ?_
    refine (caught_thrown ⟨w.heap.size + 1 + 1, 0, none⟩ 0 c _ Q2.out F2.out).mono ?_
    rintro e u' w'' ⟨rfl, rfl, rfl⟩
    refine leaves_cons (f := 70) (args := #[.pointer (some ⟨w.heap.size + 1 + 1, 0, none⟩), .pointer (some ⟨w.heap.size + 1, 0, none⟩)]) (by simp [settle]) (by simp [go_sem]) ?_
    refine (putRecord_drop ⟨w.heap.size + 1 + 1, 0, none⟩ ⟨w.heap.size + 1, 0, none⟩ c (.slice none 0 0) _ _ HC0.out (by have := cell_blk M2.out 0 _ rfl; rw [← HW3.out] at this; exact this) (by have := cell_blk M1.out 0 _ rfl; rw [← HW3.out] at this; exact this) (by have := frozen_blk M1.out 0; rw [← HW3.out] at this; exact this)).mono ?_
    rintro e u' w'' ⟨rfl, rfl, rfl⟩
    have HW2b : (w1.setCell ⟨w.heap.size + 1 + 1, 0, none⟩ (.int .i64 c)).setCell ⟨w.heap.size + 1, 0, none⟩ (.slice none 0 0) = W2 := HW2.out
    rw [HW2b]
    have r1 := cell_blk K1'.out 0 _ rfl
    have r2 := cell_blk K2'.out 0 _ rfl
    simp [Leaves, settle, results, Tryz.results42, go_sem, r1, r2]
    rw [HE.out]
    exact ⟨_, rfl, Kd.R_nil _ _ _ _ _, BF.out⟩
set_option maxRecDepth 100000 in
set_option maxHeartbeats 16000000 in
theorem wire_PutRecord (x : TRecord) (A6 : Option Addr) (c6 : Nat) (A7 : Option Addr) (c7 : Nat) (A12 : Option Addr) (c12 : Nat) (A13 : Option Addr) (c13 : Nat) (w : World) (h6 : (Kd.int .i64).C w A6 x.2.2.2.1.2.2.2.1.1.length x.2.2.2.1.2.2.2.1.1) (h7 : (Kd.int .i64).C w A7 x.2.2.2.1.2.2.2.1.2.length x.2.2.2.1.2.2.2.1.2) (h12 : (Kd.int .i64).C w A12 x.2.2.2.2.2.2.2.1.1.length x.2.2.2.2.2.2.2.1.1) (h13 : (Kd.int .i64).C w A13 x.2.2.2.2.2.2.2.1.2.length x.2.2.2.2.2.2.2.1.2) (hm : wRecord x < 140737488355328) : Calls Tryz.prog 19 #[.agg #[.int .i64 x.1, .int .i64 x.2.1, .int .i64 x.2.2.1, .int .i64 x.2.2.2.1.1, .int .i64 x.2.2.2.1.2.1, .int .i64 x.2.2.2.1.2.2.1, .slice A6 x.2.2.2.1.2.2.2.1.1.length c6, .slice A7 x.2.2.2.1.2.2.2.1.2.length c7, .string x.2.2.2.1.2.2.2.2, .int .i64 x.2.2.2.2.1, .int .i64 x.2.2.2.2.2.1, .int .i64 x.2.2.2.2.2.2.1, .slice A12 x.2.2.2.2.2.2.2.1.1.length c12, .slice A13 x.2.2.2.2.2.2.2.1.2.length c13, .string x.2.2.2.2.2.2.2.2]] w (PutTold w (eRecord x)) := by
  have C1 := Lib.hid (PutTold.of_alloc (putRecord x A6 c6 A7 c7 A12 c12 A13 c13 (w.alloc (.cells #[.int .i64 x.1, .int .i64 x.2.1, .int .i64 x.2.2.1, .int .i64 x.2.2.2.1.1, .int .i64 x.2.2.2.1.2.1, .int .i64 x.2.2.2.1.2.2.1, .slice A6 x.2.2.2.1.2.2.2.1.1.length c6, .slice A7 x.2.2.2.1.2.2.2.1.2.length c7, .string x.2.2.2.1.2.2.2.2, .int .i64 x.2.2.2.2.1, .int .i64 x.2.2.2.2.2.1, .int .i64 x.2.2.2.2.2.2.1, .slice A12 x.2.2.2.2.2.2.2.1.1.length c12, .slice A13 x.2.2.2.2.2.2.2.1.2.length c13, .string x.2.2.2.2.2.2.2.2] 84)) (Kd.C_alloc h6 _) (Kd.C_alloc h7 _) (Kd.C_alloc h12 _) (Kd.C_alloc h13 _) hm))
  have HR := Lib.hid (range_blk [] [.int .i64 x.1, .int .i64 x.2.1, .int .i64 x.2.2.1, .int .i64 x.2.2.2.1.1, .int .i64 x.2.2.2.1.2.1, .int .i64 x.2.2.2.1.2.2.1, .slice A6 x.2.2.2.1.2.2.2.1.1.length c6, .slice A7 x.2.2.2.1.2.2.2.1.2.length c7, .string x.2.2.2.1.2.2.2.2, .int .i64 x.2.2.2.2.1, .int .i64 x.2.2.2.2.2.1, .int .i64 x.2.2.2.2.2.2.1, .slice A12 x.2.2.2.2.2.2.2.1.1.length c12, .slice A13 x.2.2.2.2.2.2.2.1.2.length c13, .string x.2.2.2.2.2.2.2.2] [] (blk_new w (.cells #[.int .i64 x.1, .int .i64 x.2.1, .int .i64 x.2.2.1, .int .i64 x.2.2.2.1.1, .int .i64 x.2.2.2.1.2.1, .int .i64 x.2.2.2.1.2.2.1, .slice A6 x.2.2.2.1.2.2.2.1.1.length c6, .slice A7 x.2.2.2.1.2.2.2.1.2.length c7, .string x.2.2.2.1.2.2.2.2, .int .i64 x.2.2.2.2.1, .int .i64 x.2.2.2.2.2.1, .int .i64 x.2.2.2.2.2.2.1, .slice A12 x.2.2.2.2.2.2.2.1.1.length c12, .slice A13 x.2.2.2.2.2.2.2.1.2.length c13, .string x.2.2.2.2.2.2.2.2] 84)))
  clear h6 h7 h12 h13 hm
  go_enter Tryz.func19, Tryz.ntmps19
  go_wp2_with (((with_reducible refine gate_load (t := 84) rfl ?_); refine wpList_load_mid rfl 84 _ rfl w.heap.size 0 rfl [.int .i64 x.1, .int .i64 x.2.1, .int .i64 x.2.2.1, .int .i64 x.2.2.2.1.1, .int .i64 x.2.2.2.1.2.1, .int .i64 x.2.2.2.1.2.2.1, .slice A6 x.2.2.2.1.2.2.2.1.1.length c6, .slice A7 x.2.2.2.1.2.2.2.1.2.length c7, .string x.2.2.2.1.2.2.2.2, .int .i64 x.2.2.2.2.1, .int .i64 x.2.2.2.2.2.1, .int .i64 x.2.2.2.2.2.2.1, .slice A12 x.2.2.2.2.2.2.2.1.1.length c12, .slice A13 x.2.2.2.2.2.2.2.1.2.length c13, .string x.2.2.2.2.2.2.2.2] _ HR.out Tryz.underlying84 rfl (by kernel_rfl) ?_))
  refine C1.out.mono ?_
  rintro e w1 ⟨v, rfl, HR', HB⟩
  have HR'' := Lib.hid HR'
  have HB' := Lib.hid HB
  clear HR HR' HB C1
  go_wp2
  go_ret2
  exact ⟨_, rfl, HR''.out, HB'.out⟩
end Go.Proofs.YtoomcdgnnibjlaaGreat.Wr
/- The program's reader of bytes: the next numbers. -/
namespace Go.Proofs.YtoomcdgnnibjlaaGreat.Wr
open Go.RowKit Go.Proofs.YtoomcdgnnibjlaaGreatW.PrintWords Go.Proofs.YtoomcdgnnibjlaaGreatW.PrintLast
set_option linter.unusedVariables false
set_option linter.unusedSimpArgs false

theorem at_byte {w : World} {A : Option Addr} {n : Nat} {xs : Bs} (h : (Kd.int .u8).C w A n xs) (i : Nat) (hi : i < xs.length) : ∃ ad, A = some ad ∧ w.cell? (ad.add i) = some (.int .u8 xs[i]) := by
  obtain ⟨ad, e, hc1⟩ := h.2.2 (by have := h.1; omega)
  obtain ⟨c, _, hK, hc0⟩ := hc1 i _ (List.getElem?_eq_getElem hi)
  have hK' : c = [.int .u8 xs[i]] := hK
  subst hK'
  exact ⟨ad, e, by have := hc0 0 _ rfl; simpa [show (Kd.int .u8).sz = 1 from rfl] using this⟩
theorem of_take_succ (l : Bs) (k : Nat) (h : k < l.length) : of (l.take (k + 1)) = of (l.take k) + 256 ^ k * l[k] := by
  rw [List.take_succ_eq_append_getElem h, of_append, List.length_take, Nat.min_eq_left (by omega)]
  simp [of]

theorem or_small (i : Nat) (x y : Int) (hi : i ≤ 64) (h0 : 0 ≤ x) (h1 : x < 2 ^ i) (hy : y % 2 ^ i = 0) (h2 : 0 ≤ y) (h3 : y < 18446744073709551616) : bits .or .u64 x y = x + y := by
  have hp : (2 : Int) ^ i ≤ 18446744073709551616 := by
    have : (2 : Nat) ^ i ≤ 2 ^ 64 := Nat.pow_le_pow_right (by decide) hi
    have h4 : ((2 ^ i : Nat) : Int) ≤ ((2 ^ 64 : Nat) : Int) := by exact_mod_cast this
    simpa using h4
  have hc : bits .or .u64 x y = bits .or .u64 y x := by
    obtain ⟨a, rfl⟩ := Int.eq_ofNat_of_zero_le h0
    obtain ⟨b, rfl⟩ := Int.eq_ofNat_of_zero_le h2
    rw [bits_or_u64_nat a b (by omega) (by omega), bits_or_u64_nat b a (by omega) (by omega), Nat.or_comm]
  rw [hc, bits_join .u64 64 (by decide) (fun n _ _ => by rw [IntKind.wrap_u64]; omega) i y x h2 hy (by omega) h0 h1 (by omega), Int.add_comm]

set_option maxRecDepth 100000 in
set_option maxHeartbeats 4000000 in
theorem first_short (N : Int) {gc : Nat} {A : Option Addr} {c : Nat} {l : Bs} {w : World} (hg : w.heap[gc]? = some (.cells #[.slice A l.length c] 125 (0, 0))) (h : (l.length : Int) < N) :
    Calls Tryz.prog 79 #[.pointer (some ⟨gc, 0, none⟩), .int .i64 N] w fun e w' => w = w' ∧ e = .returned (.tuple #[.int .u64 0, .bool false]) := by
  have q0 := cell_blk hg 0 _ rfl
  clear hg
  go_enter Tryz.func79, Tryz.ntmps79
  go_wp2
  go_ret2
  exact ⟨rfl, rfl⟩
set_option maxRecDepth 100000 in
set_option maxHeartbeats 8000000 in
theorem first_4 {gc : Nat} {A : Option Addr} {c : Nat} {l : Bs} {w : World} (hg : w.heap[gc]? = some (.cells #[.slice A l.length c] 125 (0, 0))) (hC : (Kd.int .u8).C w A l.length l) (hB : IsB l) (h : 4 ≤ l.length) :
    Calls Tryz.prog 79 #[.pointer (some ⟨gc, 0, none⟩), .int .i64 4] w fun e w' => w = w' ∧ e = .returned (.tuple #[.int .u64 (of (l.take 4)), .bool true]) := by
  have q0 := cell_blk hg 0 _ rfl
  have hx : l.length ≤ 9223372036854775807 := hC.2.1
  have h4 : (4 : Int) ≤ (l.length : Int) := by omega
  have HB := Lib.hid hB
  clear hg hB
  go_enter Tryz.func79, Tryz.ntmps79
  go_wp2
  go_loop [6, 16] (fun v i => ∃ k : Nat, k ≤ 4 ∧ i = .int .i64 k ∧ v = .int .u64 (of (l.take k))) (fun _ i => 4 - (intOf i).toNat)
  case atStart => exact ⟨0, by omega, rfl, rfl⟩
  case round =>
    obtain ⟨k, hk, rfl, rfl⟩ := hrel
    by_cases hlt : k < 4
    · obtain ⟨ad, e0, g0⟩ := at_byte hC k (by omega)
      cases e0
      have r1 := of_range (l.take k) (HB.out.take k)
      have r2 := HB.out l[k] (List.getElem_mem (by omega))
      have hs := Lib.hid (of_take_succ l k (by omega))
      rw [List.length_take, Nat.min_eq_left (by omega)] at r1
      obtain ⟨b, hb⟩ : ∃ b, l[k] = b := ⟨_, rfl⟩
      rw [hb] at g0 r2 hs
      obtain ⟨x, hx0⟩ : ∃ x, of (l.take k) = x := ⟨_, rfl⟩
      rw [hx0] at r1 hs ⊢
      clear hb hx0
      rcases (show k = 0 ∨ k = 1 ∨ k = 2 ∨ k = 3 by omega) with rfl | rfl | rfl | rfl
      all_goals (simp [Go.Addr.add] at g0)
      all_goals go_wp2
      all_goals
        go_round
        case rel =>
          first
          | refine ⟨1, by omega, rfl, ?_⟩
          | refine ⟨2, by omega, rfl, ?_⟩
          | refine ⟨3, by omega, rfl, ?_⟩
          | refine ⟨4, by omega, rfl, ?_⟩
          rw [hs.out]
          refine congrArg (Value.int .u64) ?_
          first
          | (rw [or_small 0 _ _ (by decide) r1.1 (by simpa using r1.2) (by omega) (by omega) (by omega)]; omega)
          | (rw [or_small 8 _ _ (by decide) r1.1 (by simpa using r1.2) (by omega) (by omega) (by omega)]; omega)
          | (rw [or_small 16 _ _ (by decide) r1.1 (by simpa using r1.2) (by omega) (by omega) (by omega)]; omega)
          | (rw [or_small 24 _ _ (by decide) r1.1 (by simpa using r1.2) (by omega) (by omega) (by omega)]; omega)
        case measure => simp [intOf]
    · have hke : k = 4 := by omega
      subst hke
      go_wp2
      go_ret2
      exact ⟨rfl, rfl⟩
set_option maxRecDepth 100000 in
set_option maxHeartbeats 8000000 in
theorem first_8 {gc : Nat} {A : Option Addr} {c : Nat} {l : Bs} {w : World} (hg : w.heap[gc]? = some (.cells #[.slice A l.length c] 125 (0, 0))) (hC : (Kd.int .u8).C w A l.length l) (hB : IsB l) (h : 8 ≤ l.length) :
    Calls Tryz.prog 79 #[.pointer (some ⟨gc, 0, none⟩), .int .i64 8] w fun e w' => w = w' ∧ e = .returned (.tuple #[.int .u64 (of (l.take 8)), .bool true]) := by
  have q0 := cell_blk hg 0 _ rfl
  have hx : l.length ≤ 9223372036854775807 := hC.2.1
  have h4 : (8 : Int) ≤ (l.length : Int) := by omega
  have HB := Lib.hid hB
  clear hg hB
  go_enter Tryz.func79, Tryz.ntmps79
  go_wp2
  go_loop [6, 16] (fun v i => ∃ k : Nat, k ≤ 8 ∧ i = .int .i64 k ∧ v = .int .u64 (of (l.take k))) (fun _ i => 8 - (intOf i).toNat)
  case atStart => exact ⟨0, by omega, rfl, rfl⟩
  case round =>
    obtain ⟨k, hk, rfl, rfl⟩ := hrel
    by_cases hlt : k < 8
    · obtain ⟨ad, e0, g0⟩ := at_byte hC k (by omega)
      cases e0
      have r1 := of_range (l.take k) (HB.out.take k)
      have r2 := HB.out l[k] (List.getElem_mem (by omega))
      have hs := Lib.hid (of_take_succ l k (by omega))
      rw [List.length_take, Nat.min_eq_left (by omega)] at r1
      obtain ⟨b, hb⟩ : ∃ b, l[k] = b := ⟨_, rfl⟩
      rw [hb] at g0 r2 hs
      obtain ⟨x, hx0⟩ : ∃ x, of (l.take k) = x := ⟨_, rfl⟩
      rw [hx0] at r1 hs ⊢
      clear hb hx0
      rcases (show k = 0 ∨ k = 1 ∨ k = 2 ∨ k = 3 ∨ k = 4 ∨ k = 5 ∨ k = 6 ∨ k = 7 by omega) with rfl | rfl | rfl | rfl | rfl | rfl | rfl | rfl
      all_goals (simp [Go.Addr.add] at g0)
      all_goals go_wp2
      all_goals
        go_round
        case rel =>
          first
          | refine ⟨1, by omega, rfl, ?_⟩
          | refine ⟨2, by omega, rfl, ?_⟩
          | refine ⟨3, by omega, rfl, ?_⟩
          | refine ⟨4, by omega, rfl, ?_⟩
          | refine ⟨5, by omega, rfl, ?_⟩
          | refine ⟨6, by omega, rfl, ?_⟩
          | refine ⟨7, by omega, rfl, ?_⟩
          | refine ⟨8, by omega, rfl, ?_⟩
          rw [hs.out]
          refine congrArg (Value.int .u64) ?_
          first
          | (rw [or_small 0 _ _ (by decide) r1.1 (by simpa using r1.2) (by omega) (by omega) (by omega)]; omega)
          | (rw [or_small 8 _ _ (by decide) r1.1 (by simpa using r1.2) (by omega) (by omega) (by omega)]; omega)
          | (rw [or_small 16 _ _ (by decide) r1.1 (by simpa using r1.2) (by omega) (by omega) (by omega)]; omega)
          | (rw [or_small 24 _ _ (by decide) r1.1 (by simpa using r1.2) (by omega) (by omega) (by omega)]; omega)
          | (rw [or_small 32 _ _ (by decide) r1.1 (by simpa using r1.2) (by omega) (by omega) (by omega)]; omega)
          | (rw [or_small 40 _ _ (by decide) r1.1 (by simpa using r1.2) (by omega) (by omega) (by omega)]; omega)
          | (rw [or_small 48 _ _ (by decide) r1.1 (by simpa using r1.2) (by omega) (by omega) (by omega)]; omega)
          | (rw [or_small 56 _ _ (by decide) r1.1 (by simpa using r1.2) (by omega) (by omega) (by omega)]; omega)
        case measure => simp [intOf]
    · have hke : k = 8 := by omega
      subst hke
      go_wp2
      go_ret2
      exact ⟨rfl, rfl⟩
end Go.Proofs.YtoomcdgnnibjlaaGreat.Wr
/- The program's reader of bytes: numbers, whole numbers, texts. -/
namespace Go.Proofs.YtoomcdgnnibjlaaGreat.Wr
open Go.RowKit Go.Proofs.YtoomcdgnnibjlaaGreatW.PrintWords Go.Proofs.YtoomcdgnnibjlaaGreatW.PrintLast
set_option linter.unusedVariables false
set_option linter.unusedSimpArgs false

/-- Bytes that are read: at gc, all that are left. -/
structure BAt (w : World) (gc : Nat) (A : Option Addr) (c : Nat) (l : Bs) : Prop where
  cell : w.heap[gc]? = some (.cells #[.slice A l.length c] 125 (0, 0))
  row : (Kd.int .u8).C w A l.length l
  cap : l.length ≤ c
  isB : IsB l
  ty : ∀ ad, A = some ad → ∃ cs fr, w.heap[ad.block]? = some (.cells cs 5 fr)
theorem BAt.ne {w : World} {gc : Nat} {A : Option Addr} {c : Nat} {l : Bs} (h : BAt w gc A c l) : ∀ ad, A = some ad → ad.block ≠ gc := fun ad e he => by
  obtain ⟨cs, fr, hc⟩ := h.ty ad e
  rw [he, h.cell] at hc
  cases hc
theorem infoBs : ∃ i, Tryz.prog.info? 5 = some i ∧ i.size = 1 := by
  obtain ⟨i, hi, h⟩ := Option.map_eq_some_iff.1 infoB
  simp only [Prod.mk.injEq] at h
  exact ⟨i, hi, h.2.1⟩
/-- What is left behind the first m bytes. -/
theorem tail_cut (k : IntKind) (j : Int) (m : Nat) {w : World} {A : Option Addr} {c : Nat} {l : Bs} (hj : j = (m : Int)) (h : (Kd.int .u8).C w A l.length l) (hm : m ≤ l.length) (hc : l.length ≤ c) :
    ∃ (A' : Option Addr) (n' c' : Nat), (∀ W : World, (Instr.slice 22 (.slice A l.length c) (some (.int k j)) none none).run Tryz.prog W = .ok (.slice A' n' c') W) ∧ n' = (l.drop m).length ∧ (Kd.int .u8).C w A' (l.drop m).length (l.drop m) ∧ (l.drop m).length ≤ c' ∧ (∀ ad, A' = some ad → ∃ ad0, A = some ad0 ∧ ad.block = ad0.block) := by
  obtain ⟨i, hi, hs⟩ := infoBs
  have h1 := cut_from (P := Tryz.prog) 22 5 k Tryz.underlying22 hi 1 hs A l.length c j (by omega) (by omega)
  rw [show j.toNat = m by omega] at h1
  have h2 := Kd.C_drop (c := c) h hm hc
  exact ⟨_, _, _, h1, by rw [List.length_drop], h2, by rw [List.length_drop]; omega, fun ad h => by
    split at h
    · exact ⟨ad, h, rfl⟩
    · cases A with
      | none => cases h
      | some a0 => cases h; exact ⟨a0, rfl, by unfold Addr.add; split <;> rfl⟩⟩
theorem mid_cut (k1 k2 : IntKind) (j1 j2 : Int) (lo hi : Nat) {w : World} {A : Option Addr} {c : Nat} {l : Bs} (hj1 : j1 = (lo : Int)) (hj2 : j2 = (hi : Int)) (h : (Kd.int .u8).C w A l.length l) (hl : lo ≤ hi) (hm : hi ≤ l.length) (hc : l.length ≤ c) :
    ∃ (A' : Option Addr) (n' c' : Nat), (∀ W : World, (Instr.slice 22 (.slice A l.length c) (some (.int k1 j1)) (some (.int k2 j2)) none).run Tryz.prog W = .ok (.slice A' n' c') W) ∧ (Kd.int .u8).C w A' n' ((l.take hi).drop lo) := by
  obtain ⟨i, hi', hs⟩ := infoBs
  have h1 := cut_mid (P := Tryz.prog) 22 5 k1 k2 Tryz.underlying22 hi' 1 hs A l.length c j1 j2 (by omega) (by omega) (by omega) hc
  rw [show j1.toNat = lo by omega, show j2.toNat = hi by omega] at h1
  have h2 := Kd.C_mid (c := c) h hl hm hc
  have h3 : ((l.take hi).drop lo).length = hi - lo := by rw [List.length_drop, List.length_take]; omega
  rw [h3] at h2
  exact ⟨_, _, _, h1, h2⟩

/-- Behind a read: the next ones are gone, nothing else has turned. -/
def BRead (w : World) (gc : Nat) (l' : Bs) (w' : World) : Prop := ∃ A' c', w' = w.setCell ⟨gc, 0, none⟩ (.slice A' l'.length c') ∧ BAt w' gc A' c' l'
theorem BAt.read {w : World} {gc : Nat} {A A' : Option Addr} {c c' : Nat} {l l' : Bs} (h : BAt w gc A c l) (hC : (Kd.int .u8).C w A' l'.length l') (hc : l'.length ≤ c') (hB : IsB l') (hA : ∀ ad, A' = some ad → ∃ ad0, A = some ad0 ∧ ad.block = ad0.block) : BRead w gc l' (w.setCell ⟨gc, 0, none⟩ (.slice A' l'.length c')) := by
  have hne : ∀ ad, A' = some ad → ad.block ≠ gc := fun ad e => by
    obtain ⟨a0, e1, e2⟩ := hA ad e
    rw [e2]; exact h.ne a0 e1
  refine ⟨A', c', rfl, ?_, ?_, hc, hB, fun ad e => by
    obtain ⟨a0, e1, e2⟩ := hA ad e
    obtain ⟨cs, fr, hcs⟩ := h.ty a0 e1
    exact ⟨cs, fr, (Below.heap_setCell w ⟨gc, 0, none⟩ _ _ (hne ad e)).trans (by rw [e2]; exact hcs)⟩⟩
  · rw [blk_set h.cell]; rfl
  · refine ⟨hC.1, hC.2.1, fun hp => ?_⟩
    obtain ⟨ad, e, hcell⟩ := hC.2.2 hp
    refine ⟨ad, e, fun j p hj => ?_⟩
    obtain ⟨cs, h1, h2, h3⟩ := hcell j p hj
    refine ⟨cs, h1, h2, fun i u hu => ?_⟩
    have hb : (ad.add (j * (Kd.int IntKind.u8).sz + i)).block = ad.block := by unfold Addr.add; split <;> rfl
    exact (World.cell?_of_block (w := w) (Below.heap_setCell w ⟨gc, 0, none⟩ _ _ (by rw [hb]; exact hne ad e))).trans (h3 i u hu)

/-- What a read of the codec's reader does. -/
def BDone {α : Type} (d : Dc α) (mk : α → Value) (w : World) (gc : Nat) (l : Bs) : Ending → World → Prop :=
  fun e w' => (∃ x l', d l = some (x, l') ∧ e = .returned (.tuple #[mk x, .int .i64 0]) ∧ BRead w gc l' w') ∨ (d l = none ∧ (∃ u c, c ≠ 0 ∧ e = .returned (.tuple #[u, .int .i64 c])) ∧ w = w')

set_option maxRecDepth 100000 in
set_option maxHeartbeats 8000000 in
theorem rd_Number {w : World} {gc : Nat} {A : Option Addr} {c : Nat} {l : Bs} (h : BAt w gc A c l) :
    Calls Tryz.prog 54 #[.pointer (some ⟨gc, 0, none⟩)] w (BDone dNum (.int .i64) w gc l) := by
  have hx : l.length ≤ 9223372036854775807 := h.row.2.1
  by_cases h4 : l.length < 4
  · have hd : dNum l = none := if_pos h4
    have C1 := Lib.hid (first_short 4 h.cell (by omega))
    have HD := Lib.hid hd
    clear h hd
    go_enter Tryz.func54, Tryz.ntmps54
    go_wp2_with fail
    refine C1.out.mono ?_
    rintro e w1 ⟨rfl, rfl⟩
    go_wp2
    go_ret2
    exact .inr ⟨HD.out, ⟨_, _, by decide, rfl⟩, rfl⟩
  · have C1 := Lib.hid (first_4 h.cell h.row h.isB (by omega))
    have hr := of_range (l.take 4) (h.isB.take 4)
    rw [List.length_take, Nat.min_eq_left (by omega), p4] at hr
    obtain ⟨x, hx0⟩ : ∃ x, of (l.take 4) = x := ⟨_, rfl⟩
    rw [hx0] at hr C1
    by_cases hm : 1000000000 < x
    · have hd : dNum l = none := by unfold dNum; rw [if_neg h4, hx0, if_pos hm]
      have HD := Lib.hid hd
      clear h hd hx0
      go_enter Tryz.func54, Tryz.ntmps54
      go_wp2_with fail
      refine C1.out.mono ?_
      rintro e w1 ⟨rfl, rfl⟩
      go_wp2
      go_ret2
      exact .inr ⟨HD.out, ⟨_, _, by decide, rfl⟩, rfl⟩
    · have hd : dNum l = some (x, l.drop 4) := by unfold dNum; rw [if_neg h4, hx0, if_neg hm]
      obtain ⟨A', n', c', hcut, hn, hC, hc, hA⟩ := tail_cut .i64 4 4 rfl h.row (by omega) h.cap
      have q0 := cell_blk h.cell 0 _ rfl
      have f0 : w.frozen? ⟨gc, 0, none⟩ = false := by simp [World.frozen?, h.cell]
      have HD := Lib.hid hd
      have HN := Lib.hid hn
      have HS := Lib.hid h
      have HC := Lib.hid hC
      have HA := Lib.hid hA
      clear h hd hx0 hn hC hA
      go_enter Tryz.func54, Tryz.ntmps54
      go_wp2_with fail
      refine C1.out.mono ?_
      rintro e w1 ⟨rfl, rfl⟩
      go_wp2
      go_ret2
      refine .inl ⟨_, _, HD.out, rfl, ?_⟩
      rw [HN.out]
      exact HS.out.read HC.out hc (HS.out.isB.drop 4) HA.out

set_option maxRecDepth 100000 in
set_option maxHeartbeats 8000000 in
theorem rd_Int {w : World} {gc : Nat} {A : Option Addr} {c : Nat} {l : Bs} (h : BAt w gc A c l) :
    Calls Tryz.prog 102 #[.pointer (some ⟨gc, 0, none⟩)] w (BDone dInt (.int .i64) w gc l) := by
  have hx : l.length ≤ 9223372036854775807 := h.row.2.1
  by_cases h4 : l.length < 8
  · have hd : dInt l = none := if_pos h4
    have C1 := Lib.hid (first_short 8 h.cell (by omega))
    have HD := Lib.hid hd
    clear h hd
    go_enter Tryz.func102, Tryz.ntmps102
    go_wp2_with fail
    refine C1.out.mono ?_
    rintro e w1 ⟨rfl, rfl⟩
    go_wp2
    go_ret2
    exact .inr ⟨HD.out, ⟨_, _, by decide, rfl⟩, rfl⟩
  · have C1 := Lib.hid (first_8 h.cell h.row h.isB (by omega))
    have hr := of_range (l.take 8) (h.isB.take 8)
    rw [List.length_take, Nat.min_eq_left (by omega), p8] at hr
    obtain ⟨x, hx0⟩ : ∃ x, of (l.take 8) = x := ⟨_, rfl⟩
    rw [hx0] at hr C1
    by_cases hm : x < 9223372036854775808
    · have hd : dInt l = some (x, l.drop 8) := by unfold dInt s64; rw [if_neg h4, hx0, if_pos hm]
      obtain ⟨A', n', c', hcut, hn, hC, hc, hA⟩ := tail_cut .i64 8 8 rfl h.row (by omega) h.cap
      have q0 := cell_blk h.cell 0 _ rfl
      have f0 : w.frozen? ⟨gc, 0, none⟩ = false := by simp [World.frozen?, h.cell]
      have HD := Lib.hid hd
      have HN := Lib.hid hn
      have HS := Lib.hid h
      have HC := Lib.hid hC
      have HA := Lib.hid hA
      clear h hd hx0 hn hC hA
      go_enter Tryz.func102, Tryz.ntmps102
      go_wp2_with fail
      refine C1.out.mono ?_
      rintro e w1 ⟨rfl, rfl⟩
      go_wp2
      go_ret2
      refine .inl ⟨_, _, HD.out, rfl, ?_⟩
      rw [HN.out]
      exact HS.out.read HC.out hc (HS.out.isB.drop 8) HA.out
    · have hd : dInt l = some (x - 18446744073709551616, l.drop 8) := by unfold dInt s64; rw [if_neg h4, hx0, if_neg hm]
      have hw : wrap64 x = x - 18446744073709551616 := by unfold wrap64; omega
      have HW := Lib.hid hw
      clear hw
      obtain ⟨A', n', c', hcut, hn, hC, hc, hA⟩ := tail_cut .i64 8 8 rfl h.row (by omega) h.cap
      have q0 := cell_blk h.cell 0 _ rfl
      have f0 : w.frozen? ⟨gc, 0, none⟩ = false := by simp [World.frozen?, h.cell]
      have HD := Lib.hid hd
      have HN := Lib.hid hn
      have HS := Lib.hid h
      have HC := Lib.hid hC
      have HA := Lib.hid hA
      clear h hd hx0 hn hC hA
      go_enter Tryz.func102, Tryz.ntmps102
      go_wp2_with fail
      refine C1.out.mono ?_
      rintro e w1 ⟨rfl, rfl⟩
      go_wp2
      go_ret2
      refine .inl ⟨_, _, HD.out, (show Ending.returned (.tuple #[.int .i64 (wrap64 x), .int .i64 0]) = _ by rw [HW.out]), ?_⟩
      rw [HN.out]
      exact HS.out.read HC.out hc (HS.out.isB.drop 8) HA.out

theorem BDone.none_text {w : World} {gc : Nat} {l : Bs} (h : dText l = none) : dText l = none := h
set_option maxRecDepth 100000 in
set_option maxHeartbeats 8000000 in
theorem rd_Text {w : World} {gc : Nat} {A : Option Addr} {c : Nat} {l : Bs} (h : BAt w gc A c l) :
    Calls Tryz.prog 77 #[.pointer (some ⟨gc, 0, none⟩)] w (BDone dText .string w gc l) := by
  have hx : l.length ≤ 9223372036854775807 := h.row.2.1
  by_cases h4 : l.length < 4
  · have hd : dText l = none := if_pos h4
    have C1 := Lib.hid (first_short 4 h.cell (by omega))
    have HD := Lib.hid hd
    clear h hd
    go_enter Tryz.func77, Tryz.ntmps77
    go_wp2_with fail
    refine C1.out.mono ?_
    rintro e w1 ⟨rfl, rfl⟩
    go_wp2
    go_ret2
    exact .inr ⟨HD.out, ⟨_, _, by decide, rfl⟩, rfl⟩
  · have C1 := Lib.hid (first_4 h.cell h.row h.isB (by omega))
    have hr := of_range (l.take 4) (h.isB.take 4)
    rw [List.length_take, Nat.min_eq_left (by omega), p4] at hr
    obtain ⟨x, hx0⟩ : ∃ x, of (l.take 4) = x := ⟨_, rfl⟩
    rw [hx0] at hr C1
    by_cases hm : 65536 < x
    · have hd : dText l = none := by unfold dText; rw [if_neg h4, hx0, if_pos hm]
      have HD := Lib.hid hd
      clear h hd hx0
      go_enter Tryz.func77, Tryz.ntmps77
      go_wp2_with fail
      refine C1.out.mono ?_
      rintro e w1 ⟨rfl, rfl⟩
      go_wp2
      go_ret2
      exact .inr ⟨HD.out, ⟨_, _, by decide, rfl⟩, rfl⟩
    · have h5 : (4 : Int) ≤ (l.length : Int) := by omega
      have q0 := cell_blk h.cell 0 _ rfl
      by_cases hk : (l.length : Int) - 4 < x
      · have hd : dText l = none := by unfold dText; rw [if_neg h4, hx0, if_neg hm, if_pos hk]
        have HD := Lib.hid hd
        clear h hd hx0
        go_enter Tryz.func77, Tryz.ntmps77
        go_wp2_with fail
        refine C1.out.mono ?_
        rintro e w1 ⟨rfl, rfl⟩
        go_wp2
        go_ret2
        exact .inr ⟨HD.out, ⟨_, _, by decide, rfl⟩, rfl⟩
      · obtain ⟨m, rfl⟩ := Int.eq_ofNat_of_zero_le hr.1
        have hd : dText l = some (toBA ((l.drop 4).take m), l.drop (4 + m)) := by unfold dText; rw [if_neg h4, hx0, if_neg hm, if_neg hk, Int.toNat_natCast]
        obtain ⟨A1, n1, c1, hcut1, hC1⟩ := mid_cut .i64 .u64 4 (4 + (m : Int)) 4 (4 + m) rfl (by omega) h.row (by omega) (by omega) h.cap
        have hst : (convert 22 9 (.slice A1 n1 c1)).run Tryz.prog w = .ok (.string (strOfNums ((l.take (4 + m)).drop 4))) w := Kd.C_string Tryz.underlying22 Tryz.underlying5 Tryz.underlying9 hC1
        have hs2 : strOfNums ((l.take (4 + m)).drop 4) = toBA ((l.drop 4).take m) := by rw [List.drop_take]; rw [show 4 + m - 4 = m by omega]; rfl
        obtain ⟨t, ht⟩ : ∃ t, toBA ((l.drop 4).take m) = t := ⟨_, rfl⟩
        rw [hs2, ht] at hst
        rw [ht] at hd
        obtain ⟨A', n', c', hcut, hn, hC, hc, hA⟩ := tail_cut .u64 (4 + (m : Int)) (4 + m) (by omega) h.row (by omega) h.cap
        have f0 : w.frozen? ⟨gc, 0, none⟩ = false := by simp [World.frozen?, h.cell]
        have HD := Lib.hid hd
        have HN := Lib.hid hn
        have HS := Lib.hid h
        have HC := Lib.hid hC
        have HA := Lib.hid hA
        clear h hd hx0 hn hC hA hC1 hs2 ht
        go_enter Tryz.func77, Tryz.ntmps77
        go_wp2_with fail
        refine C1.out.mono ?_
        rintro e w1 ⟨rfl, rfl⟩
        go_wp2
        go_ret2
        refine .inl ⟨_, _, HD.out, rfl, ?_⟩
        rw [HN.out]
        exact HS.out.read HC.out hc (HS.out.isB.drop _) HA.out
end Go.Proofs.YtoomcdgnnibjlaaGreat.Wr
/- The program's reader: numbers, whole numbers, texts, flags. -/
namespace Go.Proofs.YtoomcdgnnibjlaaGreat.Wr
open Go.RowKit Go.Proofs.YtoomcdgnnibjlaaGreatW.PrintWords Go.Proofs.YtoomcdgnnibjlaaGreatW.PrintLast
set_option linter.unusedVariables false
set_option linter.unusedSimpArgs false

theorem BAt.far {w : World} {gc c : Nat} {A : Option Addr} {l : Bs} (h : BAt w gc A c l) (p : Addr) (u : Value) (h1 : gc ≠ p.block) (h2 : ∀ ad, A = some ad → ad.block ≠ p.block) : BAt (w.setCell p u) gc A c l := by
  refine ⟨blk_far h.cell h1 u, ⟨h.row.1, h.row.2.1, fun hp => ?_⟩, h.cap, h.isB, fun ad e => by
    obtain ⟨cs, fr, hc⟩ := h.ty ad e
    exact ⟨cs, fr, (Below.heap_setCell w p u _ (h2 ad e)).trans hc⟩⟩
  obtain ⟨ad, e, hcell⟩ := h.row.2.2 hp
  refine ⟨ad, e, fun j x hj => ?_⟩
  obtain ⟨cs, k1, k2, k3⟩ := hcell j x hj
  refine ⟨cs, k1, k2, fun i v hv => ?_⟩
  have hb : (ad.add (j * (Kd.int IntKind.u8).sz + i)).block = ad.block := by unfold Addr.add; split <;> rfl
  exact (World.cell?_of_block (w := w) (Below.heap_setCell w p u _ (by rw [hb]; exact h2 ad e))).trans (k3 i v hv)
theorem is_true (w : World) : Calls Tryz.prog 23 #[.bool true] w fun e w' => w = w' ∧ e = .returned (.tuple #[]) := by
  go_enter Tryz.func23, Tryz.ntmps23
  go_wp2
  go_end0
  exact ⟨rfl, rfl⟩
theorem is_false (w : World) : Calls Tryz.prog 23 #[.bool false] w fun e w' => w = w' ∧ e = thrown 11 := by
  go_enter Tryz.func23, Tryz.ntmps23
  go_wp2
  exact ⟨rfl, rfl, rfl⟩
theorem rd_left {w : World} {gc : Nat} {A : Option Addr} {c : Nat} {l : Bs} (h : BAt w gc A c l) :
    Calls Tryz.prog 24 #[.pointer (some ⟨gc, 0, none⟩)] w fun e w' => w = w' ∧ e = .returned (.int .i64 l.length) := by
  have q0 := cell_blk h.cell 0 _ rfl
  have hx : l.length ≤ 9223372036854775807 := h.row.2.1
  clear h
  go_enter Tryz.func24, Tryz.ntmps24
  go_wp2
  go_ret
  exact ⟨rfl, rfl⟩
set_option maxRecDepth 100000 in
set_option maxHeartbeats 8000000 in
theorem rd_new (A : Option Addr) (n c : Nat) {l : Bs} {w : World} (hn : n = l.length) (hA : (Kd.int .u8).C w A l.length l) (hB : IsB l) (hl : l.length < 140737488355328) :
    Calls Tryz.prog 22 #[.slice A n c] w fun e w' => ∃ gc A' c', e = .returned (.pointer (some ⟨gc, 0, none⟩)) ∧ w.heap.size ≤ gc ∧ BAt w' gc A' c' l ∧ Below w.heap.size w w' ∧ (∀ ad, A' = some ad → w.heap.size ≤ ad.block) := by
  subst hn
  have HA := Lib.hid hA
  have HI := Lib.hid hB
  clear hA hB
  go_enter Tryz.func22, Tryz.ntmps22
  go_wp2_with (first | (refine wp_make_bytes rfl 22 (.tmp 5) (.tmp 5) rfl l.length (l.length : Int) rfl rfl rfl 5 Tryz.underlying22 infoB (by omega) ?_; intro w1 g cur hcur hg hw1 hb1; have HW1 := Lib.hid hw1; have HB1 := Lib.hid hb1; have HG := Lib.hid hg; have HC := Lib.hid hcur; clear hw1 hb1 hg hcur) | (refine wpList_copy_splice rfl (.tmp 7) (.tmp 8) 22 22 rfl 5 Tryz.underlying22 (by kernel_rfl) (some ⟨g, 0, none⟩) A l.length l.length l.length c (by rfl) (by rfl) g 0 cur 5 HW1.out (nums .u8 l) ((nums_length _ _).trans (Nat.min_self _).symm) (fun hp => ⟨rfl, src_cells HA.out HB1.out (by rwa [nums_length] at hp)⟩) (by rw [nums_length, HC.out]; omega) (by intro u hu; simp only [nums, List.mem_map] at hu; obtain ⟨x, _, rfl⟩ := hu; rfl) w.heap.size w HB1.out (Nat.le_of_eq HG.out) ?_; intro w2 HW2 hb2; have HB2 := Lib.hid hb2; clear hb2))
  go_ret
  have hf := (start_filled (v := 0) (n := 0) HW2.out (by rw [HC.out]; rfl)).done HG.out HB2.out (by omega)
  have hlt := blk_lt HW2.out
  refine ⟨w2.heap.size, some ⟨g, 0, none⟩, l.length, rfl, HB2.out.size, ⟨blk_new w2 _, ?_, Nat.le_refl _, HI.out, ?_⟩, HB2.out.alloc HB2.out.size _, fun ad e => by cases e; exact Nat.le_of_eq HG.out⟩
  · obtain ⟨_, _, h3⟩ := Kd.R_reads' (Kd.R_alloc hf (.cells #[.slice (some ⟨g, 0, none⟩) l.length l.length] 125))
    simpa [lows] using h3
  · intro ad e
    cases e
    exact ⟨_, _, (Below.heap_alloc w2 _ g hlt).trans HW2.out⟩

abbrev SR : List Nat := [90, 125]
/-- The program's reader lies at g: l of B is left. -/
structure RAt (w0 w : World) (g : Nat) (B l : Bs) : Prop where
  base : w0.heap.size ≤ g
  below : Below w0.heap.size w0 w
  ex : ∃ gc A c A' c', w.heap[g]? = some (.cells #[.pointer (some ⟨gc, 0, none⟩), .slice A' B.length c'] 90 (0, 0)) ∧ w0.heap.size ≤ gc ∧ BAt w gc A c l ∧ (Kd.int .u8).C w0 A' B.length B ∧ B.length ≤ c'
  suf : ∃ p, B = p ++ l
  isB : IsB B
  lim : B.length < 140737488355328
/-- What a method of the program's reader does: P tells what is handed back. -/
def RDone {α : Type} (d : Dc α) (P : α → Value → World → Prop) (w0 : World) (g : Nat) (w : World) (B l : Bs) : Ending → World → Prop :=
  fun e w' => (∃ x l' v, d l = some (x, l') ∧ e = .returned v ∧ P x v w' ∧ RAt w0 w' g B l' ∧ Stp SR w w') ∨ (d l = none ∧ e = thrown 11 ∧ Below w0.heap.size w0 w' ∧ Stp SR w w')
theorem BRead.stp {w w' : World} {gc c : Nat} {A : Option Addr} {l l' : Bs} (h : BAt w gc A c l) (hr : BRead w gc l' w') : Stp SR w w' := by
  obtain ⟨A', c', rfl, _⟩ := hr
  exact Stp.set (i := 0) h.cell (by simp) _
theorem RAt.read {w0 w w' : World} {g gc c c' : Nat} {A A' : Option Addr} {B l l' : Bs} (h : RAt w0 w g B l) (hc : w.heap[g]? = some (.cells #[.pointer (some ⟨gc, 0, none⟩), .slice A' B.length c'] 90 (0, 0))) (hg : w0.heap.size ≤ gc) (hA : BAt w gc A c l) (h0 : (Kd.int .u8).C w0 A' B.length B) (hle : B.length ≤ c') (hr : BRead w gc l' w') (hs : ∃ p, l = p ++ l') : RAt w0 w' g B l' := by
  obtain ⟨A2, c2, rfl, h2⟩ := hr
  refine ⟨h.base, h.below.setCell (p := ⟨gc, 0, none⟩) hg _, ⟨gc, A2, c2, A', c', ?_, hg, h2, h0, hle⟩, ?_, h.isB, h.lim⟩
  · refine blk_far hc (p := ⟨gc, 0, none⟩) ?_ _
    intro e
    have e' : g = gc := e
    subst e'
    have h3 := hA.cell
    rw [hc] at h3
    cases h3
  · obtain ⟨p, hp⟩ := h.suf
    obtain ⟨q, hq⟩ := hs
    exact ⟨p ++ q, by rw [hp, hq, List.append_assoc]⟩
/-- The reader's own blocks are as they were. -/
structure Keeps (w w' : World) : Prop where
  block : ∀ (k : Nat) (cs : Array Value) (t : TypeId) (fr : Nat × Nat), w.heap[k]? = some (Obj.cells cs t fr) → t = 90 ∨ t = 125 ∨ t = 5 → w'.heap[k]? = some (Obj.cells cs t fr)
theorem Keeps.refl (w : World) : Keeps w w := ⟨fun _ _ _ _ h _ => h⟩
theorem Keeps.trans {a b c : World} (h : Keeps a b) (k : Keeps b c) : Keeps a c := ⟨fun i cs t fr hi ht => k.block i cs t fr (h.block i cs t fr hi ht) ht⟩
theorem Keeps.below {w w' : World} (h : Below w.heap.size w w') : Keeps w w' := ⟨fun k cs t fr hk _ => (h.block k (blk_lt hk)).trans hk⟩
theorem Keeps.only {w w' : World} {b t : Nat} {cs : Array Value} {fr : Nat × Nat} (hb : w.heap[b]? = some (.cells cs t fr)) (ht : t ≠ 90 ∧ t ≠ 125 ∧ t ≠ 5) (h : ∀ k, k < w.heap.size → k ≠ b → w'.heap[k]? = w.heap[k]?) : Keeps w w' :=
  ⟨fun k cs' t' fr' hk ht' => (h k (blk_lt hk) (fun e => by
    rw [e, hb] at hk
    cases hk
    rcases ht' with e1 | e1 | e1
    · exact ht.1 e1
    · exact ht.2.1 e1
    · exact ht.2.2 e1)).trans hk⟩
theorem BAt.keeps {w w' : World} {gc c : Nat} {A : Option Addr} {l : Bs} (h : BAt w gc A c l) (k : Keeps w w') : BAt w' gc A c l := by
  refine ⟨k.block _ _ _ _ h.cell (.inr (.inl rfl)), ⟨h.row.1, h.row.2.1, fun hp => ?_⟩, h.cap, h.isB, fun ad e => ?_⟩
  · obtain ⟨ad, e, hcell⟩ := h.row.2.2 hp
    obtain ⟨cs0, fr0, hb⟩ := h.ty ad e
    refine ⟨ad, e, fun j x hj => ?_⟩
    obtain ⟨cs, k1, k2, k3⟩ := hcell j x hj
    refine ⟨cs, k1, k2, fun i v hv => ?_⟩
    have hbl : (ad.add (j * (Kd.int IntKind.u8).sz + i)).block = ad.block := by unfold Addr.add; split <;> rfl
    exact (World.cell?_of_block (w := w) (by rw [hbl]; exact (k.block _ _ _ _ hb (.inr (.inr rfl))).trans hb.symm)).trans (k3 i v hv)
  · obtain ⟨cs0, fr0, hb⟩ := h.ty ad e
    exact ⟨cs0, fr0, k.block _ _ _ _ hb (.inr (.inr rfl))⟩
theorem RAt.keeps {w0 w w' : World} {g : Nat} {B l : Bs} (h : RAt w0 w g B l) (k : Keeps w w') (hb : Below w0.heap.size w w') : RAt w0 w' g B l := by
  obtain ⟨gc, A, c, A', c', hc, hg, hB, h0, hle⟩ := h.ex
  exact ⟨h.base, h.below.trans hb, ⟨gc, A, c, A', c', k.block _ _ _ _ hc (.inl rfl), hg, hB.keeps k, h0, hle⟩, h.suf, h.isB, h.lim⟩
theorem Stp.then {S : List Nat} {a b c : World} (h : Stp S a b) (k : Below a.heap.size b c) : Stp S a c :=
  ⟨k.os.trans h.os, k.tape.trans h.tape, k.output.trans h.output, Nat.le_trans h.size k.size, fun i o hi ht => (k.block i (blk_lt hi)).trans (h.block i o hi ht)⟩
/-- A store into a box of the call's own. -/
theorem own_store {w : World} {b t : Nat} {cs : Array Value} (hb : w.heap[b]? = some (.cells cs t (0, 0))) (ht : t ≠ 90 ∧ t ≠ 125 ∧ t ≠ 5) (j : Nat) (v : Value) :
    ∃ W, w.setCell ⟨b, j, none⟩ v = W ∧ W.heap[b]? = some (.cells (cs.setIfInBounds j v) t (0, 0)) ∧ Keeps w W ∧ (∀ B, B ≤ b → Below B w W) ∧ (∀ k, k ≠ b → W.heap[k]? = w.heap[k]?) :=
  ⟨_, rfl, blk_set hb j v, Keeps.only hb ht (fun k _ hk => Below.heap_setCell w ⟨b, j, none⟩ v k hk), fun B hB => (Below.refl _ _).setCell (p := ⟨b, j, none⟩) hB _, fun k hk => Below.heap_setCell w ⟨b, j, none⟩ v k hk⟩
theorem own_stores {w : World} {b t : Nat} (pre old vs post : List Value) (hb : w.heap[b]? = some (.cells (pre ++ (old ++ post)).toArray t (0, 0))) (ht : t ≠ 90 ∧ t ≠ 125 ∧ t ≠ 5) (hl : old.length = vs.length) :
    ∃ W, w.setCells b pre.length vs = W ∧ W.heap[b]? = some (.cells (pre ++ (vs ++ post)).toArray t (0, 0)) ∧ Keeps w W ∧ (∀ B, B ≤ b → Below B w W) ∧ (∀ k, k ≠ b → W.heap[k]? = w.heap[k]?) := by
  obtain ⟨cur, h1, _, h2⟩ := setCells_row vs pre.length w _ hb (by simp; omega)
  obtain ⟨s1, s2, s3, s4⟩ := setCells_same b vs pre.length w
  refine ⟨_, rfl, ?_, Keeps.only hb ht (fun k _ hk => setCells_far vs _ k hk), fun B hB => ⟨s1, s2, s3, by rw [s4]; exact Nat.le_refl _, fun k hk => setCells_far vs _ k (by omega)⟩, fun k hk => setCells_far vs _ k hk⟩
  rw [h1]
  have h3 : cur.toList = pre ++ (vs ++ post) := by
    rw [h2]
    have e1 : (pre ++ (old ++ post)).take pre.length = pre := List.take_left
    have e2 : (pre ++ (old ++ post)).drop (pre.length + vs.length) = post := by
      rw [← List.drop_drop, List.drop_left, ← hl, List.drop_left]
    simp only [e1, e2, List.append_assoc]
  rw [← h3]
theorem there_blk {w : World} {b t : Nat} (pre old post : List Value) (hb : w.heap[b]? = some (.cells (pre ++ (old ++ post)).toArray t (0, 0))) : w.there b pre.length old.length := fun j hj => by
  have hr := range_blk pre old post hb j old[j] (List.getElem?_eq_getElem hj)
  exact ⟨by rw [hr]; rfl, by simp [World.frozen?, hb]⟩
/-- What was made, when another block has turned. -/
theorem made_only {α : Type} {d : Kd α} {e base b t : Nat} {cs : Array Value} {w W : World} {v : Value} {xs : List α} (h : d.R e w base (fun _ => True) v xs) (hb : w.heap[b]? = some (.cells cs t (0, 0))) (ht : ∀ q, q ∈ e :: d.E → q ≠ t) (hW : ∀ k, k ≠ b → W.heap[k]? = w.heap[k]?) : d.R e W base (fun _ => True) v xs :=
  Kd.R_mono (Kd.R_step (Kd.R_types h hb ht) (fun k hk _ => hW k hk.2)) (fun _ _ => trivial)
theorem frozen_at {w : World} {g t : Nat} {cs : Array Value} (h : w.heap[g]? = some (.cells cs t (0, 0))) (j : Nat) : w.frozen? ⟨g, j, none⟩ = false := by simp [World.frozen?, h]
theorem gate_store {P : Program} {ops : Array Oper} {rest : List Oper} {o : Oper} {a : Act} {W : World} {Q : Exit → Act → World → Prop} {t : TypeId} {x y : Operand} (_ho : o.op = .store t x y) (h : wpList P ops Q (o :: rest) a W) : wpList P ops Q (o :: rest) a W := h
/-- Behind a read: what was read stood ahead. -/
theorem suf_num {l l' : Bs} {x : Int} (h : dNum l = some (x, l')) : ∃ p, l = p ++ l' := by
  unfold dNum at h
  split at h
  · cases h
  · split at h
    · cases h
    · cases h; exact ⟨_, (List.take_append_drop 4 l).symm⟩
theorem suf_int {l l' : Bs} {x : Int} (h : dInt l = some (x, l')) : ∃ p, l = p ++ l' := by
  unfold dInt at h
  split at h
  · cases h
  · cases h; exact ⟨_, (List.take_append_drop 8 l).symm⟩
theorem suf_text {l l' : Bs} {x : ByteArray} (h : dText l = some (x, l')) : ∃ p, l = p ++ l' := by
  unfold dText at h
  split at h
  · cases h
  · split at h
    · cases h
    · split at h
      · cases h
      · cases h; exact ⟨_, (List.take_append_drop _ l).symm⟩

set_option maxRecDepth 100000 in
set_option maxHeartbeats 8000000 in
theorem rr_number {w0 w : World} {g : Nat} {B l : Bs} (hS : RAt w0 w g B l) :
    Calls Tryz.prog 30 #[.pointer (some ⟨g, 0, none⟩)] w (RDone dNum (fun x v _ => v = .int .i64 x) w0 g w B l) := by
  obtain ⟨gc, A, c, A', c', hc, hg, hB, h0, hle⟩ := hS.ex
  have q0 := cell_blk hc 0 _ rfl
  have C1 := Lib.hid (rd_Number hB)
  have HS := Lib.hid hS
  have HC := Lib.hid hc
  have HBB := Lib.hid hB
  have H0 := Lib.hid h0
  clear hS hc hB h0
  go_enter Tryz.func30, Tryz.ntmps30
  go_wp2_with fail
  refine C1.out.mono ?_
  rintro e w1 (⟨x, l', hd, rfl, hr⟩ | ⟨hd, ⟨u, k, hk, rfl⟩, rfl⟩)
  · have HR := Lib.hid hr
    have HD := Lib.hid hd
    clear hr hd C1 q0
    go_wp2_with fail
    refine (is_true _).mono ?_
    rintro e w2 ⟨rfl, rfl⟩
    go_wp2
    go_ret
    exact .inl ⟨x, l', _, HD.out, rfl, rfl, HS.out.read HC.out hg HBB.out H0.out hle HR.out (suf_num HD.out), BRead.stp HBB.out HR.out⟩
  · have HD := Lib.hid hd
    have hk1 : (k == 0) = false := by simpa using hk
    have hk2 : decide (k = 0) = false := by simpa using hk
    clear hd C1 q0
    go_wp2_with fail
    refine (is_false _).mono ?_
    rintro e w2 ⟨rfl, rfl⟩
    exact ⟨rfl, .inr ⟨HD.out, rfl, HS.out.below, Stp.refl _ _⟩⟩

set_option maxRecDepth 100000 in
set_option maxHeartbeats 8000000 in
theorem rr_whole {w0 w : World} {g : Nat} {B l : Bs} (hS : RAt w0 w g B l) :
    Calls Tryz.prog 93 #[.pointer (some ⟨g, 0, none⟩)] w (RDone dInt (fun x v _ => v = .int .i64 x) w0 g w B l) := by
  obtain ⟨gc, A, c, A', c', hc, hg, hB, h0, hle⟩ := hS.ex
  have q0 := cell_blk hc 0 _ rfl
  have C1 := Lib.hid (rd_Int hB)
  have HS := Lib.hid hS
  have HC := Lib.hid hc
  have HBB := Lib.hid hB
  have H0 := Lib.hid h0
  clear hS hc hB h0
  go_enter Tryz.func93, Tryz.ntmps93
  go_wp2_with fail
  refine C1.out.mono ?_
  rintro e w1 (⟨x, l', hd, rfl, hr⟩ | ⟨hd, ⟨u, k, hk, rfl⟩, rfl⟩)
  · have HR := Lib.hid hr
    have HD := Lib.hid hd
    clear hr hd C1 q0
    go_wp2_with fail
    refine (is_true _).mono ?_
    rintro e w2 ⟨rfl, rfl⟩
    go_wp2
    go_ret
    exact .inl ⟨x, l', _, HD.out, rfl, rfl, HS.out.read HC.out hg HBB.out H0.out hle HR.out (suf_int HD.out), BRead.stp HBB.out HR.out⟩
  · have HD := Lib.hid hd
    have hk1 : (k == 0) = false := by simpa using hk
    have hk2 : decide (k = 0) = false := by simpa using hk
    clear hd C1 q0
    go_wp2_with fail
    refine (is_false _).mono ?_
    rintro e w2 ⟨rfl, rfl⟩
    exact ⟨rfl, .inr ⟨HD.out, rfl, HS.out.below, Stp.refl _ _⟩⟩

set_option maxRecDepth 100000 in
set_option maxHeartbeats 8000000 in
theorem rr_text {w0 w : World} {g : Nat} {B l : Bs} (hS : RAt w0 w g B l) :
    Calls Tryz.prog 49 #[.pointer (some ⟨g, 0, none⟩)] w (RDone dText (fun x v _ => v = .string x) w0 g w B l) := by
  obtain ⟨gc, A, c, A', c', hc, hg, hB, h0, hle⟩ := hS.ex
  have q0 := cell_blk hc 0 _ rfl
  have C1 := Lib.hid (rd_Text hB)
  have HS := Lib.hid hS
  have HC := Lib.hid hc
  have HBB := Lib.hid hB
  have H0 := Lib.hid h0
  clear hS hc hB h0
  go_enter Tryz.func49, Tryz.ntmps49
  go_wp2_with fail
  refine C1.out.mono ?_
  rintro e w1 (⟨x, l', hd, rfl, hr⟩ | ⟨hd, ⟨u, k, hk, rfl⟩, rfl⟩)
  · have HR := Lib.hid hr
    have HD := Lib.hid hd
    clear hr hd C1 q0
    go_wp2_with fail
    refine (is_true _).mono ?_
    rintro e w2 ⟨rfl, rfl⟩
    go_wp2
    go_ret
    exact .inl ⟨x, l', _, HD.out, rfl, rfl, HS.out.read HC.out hg HBB.out H0.out hle HR.out (suf_text HD.out), BRead.stp HBB.out HR.out⟩
  · have HD := Lib.hid hd
    have hk1 : (k == 0) = false := by simpa using hk
    have hk2 : decide (k = 0) = false := by simpa using hk
    clear hd C1 q0
    go_wp2_with fail
    refine (is_false _).mono ?_
    rintro e w2 ⟨rfl, rfl⟩
    exact ⟨rfl, .inr ⟨HD.out, rfl, HS.out.below, Stp.refl _ _⟩⟩
end Go.Proofs.YtoomcdgnnibjlaaGreat.Wr
/- The program's reader: flags. -/
namespace Go.Proofs.YtoomcdgnnibjlaaGreat.Wr
open Go.RowKit Go.Proofs.YtoomcdgnnibjlaaGreatW.PrintWords Go.Proofs.YtoomcdgnnibjlaaGreatW.PrintLast
set_option linter.unusedVariables false
set_option linter.unusedSimpArgs false

theorem RAt.drew {w0 w : World} {g : Nat} {B l : Bs} (h : RAt w0 w g B l) (n : Nat) : RAt w0 (w.drewN n) g B l := by
  obtain ⟨gc, A, c, A', c', hc, hg, hB, h0, hle⟩ := h.ex
  exact ⟨h.base, pw_below_drewN h.below n, ⟨gc, A, c, A', c', hc, hg, ⟨hB.cell, Kd.C_drewN hB.row n, hB.cap, hB.isB, hB.ty⟩, h0, hle⟩, h.suf, h.isB, h.lim⟩
theorem BAt.drew {w : World} {gc c : Nat} {A : Option Addr} {l : Bs} (h : BAt w gc A c l) (n : Nat) : BAt (w.drewN n) gc A c l := ⟨h.cell, Kd.C_drewN h.row n, h.cap, h.isB, h.ty⟩
set_option maxRecDepth 100000 in
set_option maxHeartbeats 8000000 in
theorem rr_flag_end {w0 w : World} {g : Nat} {B : Bs} (hS : RAt w0 w g B []) :
    Calls Tryz.prog 78 #[.pointer (some ⟨g, 0, none⟩)] w (RDone dFlag (fun x v _ => v = .bool x) w0 g w B []) := by
  obtain ⟨gc, A, c, A', c', hc, hg, hB, h0, hle⟩ := hS.ex
  have q0 := cell_blk hc 0 _ rfl
  have q1 := cell_blk hc 1 _ rfl
  have hx : B.length ≤ 9223372036854775807 := h0.2.1
  have hb0 : (0 : Int) ≤ (B.length : Int) := by omega
  have C1 := Lib.hid (fun n => (rd_left (hB.drew n)).mono (R' := fun e w' => e = .returned (.int .i64 0) ∧ w' = w.drewN n) (fun e w' h => ⟨h.2, h.1.symm⟩))
  have HS := Lib.hid hS
  clear hS hc hB h0
  have e1 : IntKind.i64.wrap ((B.length : Int) - 0) = (B.length : Int) := by rw [Int.sub_zero]; exact IntWalk.i64_in _ (by omega)
  go_enter Tryz.func78, Tryz.ntmps78
  go_wp2
  go_quiet ((go_at_call 24; exact Calls.quiet_of_same (C1.out _)))
  go_wp2_with fail
  refine (is_false _).mono ?_
  rintro e w2 ⟨rfl, rfl⟩
  exact ⟨rfl, .inr ⟨rfl, rfl, (HS.out.drew _).below, Stp.drew (Stp.refl _ _) _⟩⟩

set_option maxRecDepth 100000 in
set_option maxHeartbeats 8000000 in
theorem rr_flag_bad {w0 w : World} {g : Nat} {B l : Bs} {b : Int} (hS : RAt w0 w g B (b :: l)) (hb1 : ¬ b ≤ 1) :
    Calls Tryz.prog 78 #[.pointer (some ⟨g, 0, none⟩)] w (RDone dFlag (fun x v _ => v = .bool x) w0 g w B (b :: l)) := by
  obtain ⟨gc, A, c, A', c', hc, hg, hB, h0, hle⟩ := hS.ex
  obtain ⟨p, hp⟩ := hS.suf
  obtain ⟨n, hn⟩ : ∃ n, p.length = n := ⟨_, rfl⟩
  obtain ⟨m, hm⟩ : ∃ m, (b :: l).length = m := ⟨_, rfl⟩
  have hnm : n + m = B.length := by rw [← hn, ← hm, hp, List.length_append]
  have hm1 : 1 ≤ m := by rw [← hm]; simp
  have q0 := cell_blk hc 0 _ rfl
  have q1 := cell_blk hc 1 _ rfl
  have hx : B.length ≤ 9223372036854775807 := h0.2.1
  have hn0 : (0 : Int) ≤ (n : Int) := by omega
  have hn1 : (n : Int) < (B.length : Int) := by omega
  have hnB : n < B.length := by omega
  have hrb := hS.isB b (by rw [hp]; simp)
  obtain ⟨ad, e0, g0⟩ := at_byte h0 n hnB
  have hbn : B[n] = b := by
    have : B[n]? = some b := by rw [hp, ← hn]; simp
    rw [List.getElem?_eq_getElem hnB] at this
    exact Option.some.inj this
  rw [hbn] at g0
  cases e0
  have g1 := pw_cell_below hS.below g0
  have gne : (ad.add n).block ≠ g := fun e => by have h1 := World.block_lt_of_cell? w0 _ g0; have h2 := hS.base; omega
  have C1 := Lib.hid (fun k => (rd_left (hB.drew k)).mono (R' := fun e w' => e = .returned (.int .i64 (m : Int)) ∧ w' = w.drewN k) (fun e w' h => ⟨by rw [← hm]; exact h.2, h.1.symm⟩))
  have HS := Lib.hid hS
  have hd : decide (b ≤ 1) = false := decide_eq_false hb1
  have e1 : IntKind.i64.wrap ((B.length : Int) - (m : Int)) = (n : Int) := by rw [show (B.length : Int) - (m : Int) = (n : Int) by omega]; exact IntWalk.i64_in _ (by omega)
  have HE := Lib.hid (show dFlag (b :: l) = none from if_neg hb1)
  clear hS hc hB h0 hp hn hm hnm hbn g0
  go_enter Tryz.func78, Tryz.ntmps78
  go_wp2
  go_quiet ((go_at_call 24; exact Calls.quiet_of_same (C1.out _)))
  clear e1
  go_wp2_with fail
  refine (is_false _).mono ?_
  rintro e w2 ⟨rfl, rfl⟩
  exact ⟨rfl, .inr ⟨HE.out, rfl, (HS.out.drew _).below, Stp.drew (Stp.refl _ _) _⟩⟩

set_option maxRecDepth 100000 in
set_option maxHeartbeats 8000000 in
theorem rr_flag_ok {w0 w : World} {g : Nat} {B l : Bs} {b : Int} (hS : RAt w0 w g B (b :: l)) (hb1 : b ≤ 1) :
    Calls Tryz.prog 78 #[.pointer (some ⟨g, 0, none⟩)] w (RDone dFlag (fun x v _ => v = .bool x) w0 g w B (b :: l)) := by
  obtain ⟨gc, A, c, A', c', hc, hg, hB, h0, hle⟩ := hS.ex
  obtain ⟨p, hp⟩ := hS.suf
  obtain ⟨n, hn⟩ : ∃ n, p.length = n := ⟨_, rfl⟩
  obtain ⟨m, hm⟩ : ∃ m, (b :: l).length = m := ⟨_, rfl⟩
  have hnm : n + m = B.length := by rw [← hn, ← hm, hp, List.length_append]
  have hm1 : 1 ≤ m := by rw [← hm]; simp
  have q0 := cell_blk hc 0 _ rfl
  have q1 := cell_blk hc 1 _ rfl
  have hx : B.length ≤ 9223372036854775807 := h0.2.1
  have hn0 : (0 : Int) ≤ (n : Int) := by omega
  have hn1 : (n : Int) < (B.length : Int) := by omega
  have hnB : n < B.length := by omega
  have hrb := hS.isB b (by rw [hp]; simp)
  obtain ⟨ad, e0, g0⟩ := at_byte h0 n hnB
  have hbn : B[n] = b := by
    have : B[n]? = some b := by rw [hp, ← hn]; simp
    rw [List.getElem?_eq_getElem hnB] at this
    exact Option.some.inj this
  rw [hbn] at g0
  cases e0
  have g1 := pw_cell_below hS.below g0
  have gne : (ad.add n).block ≠ g := fun e => by have h1 := World.block_lt_of_cell? w0 _ g0; have h2 := hS.base; omega
  have C1 := Lib.hid (fun k => (rd_left (hB.drew k)).mono (R' := fun e w' => e = .returned (.int .i64 (m : Int)) ∧ w' = w.drewN k) (fun e w' h => ⟨by rw [← hm]; exact h.2, h.1.symm⟩))
  have HS := Lib.hid hS
  have hd : decide (b ≤ 1) = true := decide_eq_true hb1
  have e1 : IntKind.i64.wrap ((B.length : Int) - (m : Int)) = (n : Int) := by rw [show (B.length : Int) - (m : Int) = (n : Int) by omega]; exact IntWalk.i64_in _ (by omega)
  have HE := Lib.hid (show dFlag (b :: l) = some (decide (b = 1), l) from if_pos hb1)
  obtain ⟨A2, n2, c2, hcut, hn2, hC2, _, _⟩ := tail_cut .i64 ((n : Int) + 1) (n + 1) (by omega) h0 (by omega) hle
  have hdr : B.drop (n + 1) = l := by
    rw [hp, ← hn, ← List.drop_drop, List.drop_left]; rfl
  rw [hdr] at hn2 hC2
  have hB2 : IsB l := fun y hy => HS.out.isB y (by rw [hp]; simp [hy])
  have hlim : l.length < 140737488355328 := by have := HS.out.lim; rw [hp] at this; simp at this; omega
  have C2 := Lib.hid (fun k => rd_new A2 n2 c2 (w := w.drewN k) hn2 (Kd.C_below hC2 (pw_below_drewN hS.below k)) hB2 hlim)
  have hsuf : ∃ q, B = q ++ l := ⟨p ++ [b], by rw [hp]; simp⟩
  have HC := Lib.hid hc
  have H0 := Lib.hid h0
  have HSF := Lib.hid hsuf
  clear hS hc hB h0 hp hn hm hnm hbn g0 hn2 hC2 hdr hB2 hlim hsuf
  go_enter Tryz.func78, Tryz.ntmps78
  go_wp2
  go_quiet ((go_at_call 24; exact Calls.quiet_of_same (C1.out _)))
  clear e1
  go_wp2_with fail
  refine (is_true _).mono ?_
  rintro e w2 ⟨rfl, rfl⟩
  go_wp2_with fail
  refine (C2.out _).mono ?_
  rintro e w3 ⟨gc2, A3, c3, rfl, hge, hB3, hb3, hA3⟩
  have hge' : w.heap.size ≤ gc2 := hge
  have hA3' := Lib.hid (fun ad e => (hA3 ad e : w.heap.size ≤ ad.block))
  clear hA3 hge
  have hg3 : w3.heap[g]? = some (.cells #[.pointer (some ⟨gc, 0, none⟩), .slice (some ad) B.length c'] 90 (0, 0)) := (hb3.block g (blk_lt HC.out)).trans HC.out
  have q3 := cell_blk hg3 0 _ rfl
  have q4 := cell_blk hg3 1 _ rfl
  have f3 : w3.frozen? ⟨g, 0, none⟩ = false := by simp [World.frozen?, hg3]
  have g3 : w3.cell? (ad.add n) = some (.int .u8 b) := pw_cell_below hb3 (show World.cell? _ _ = _ from g1)
  have g4 : (w3.setCell ⟨g, 0, none⟩ (.pointer (some ⟨gc2, 0, none⟩))).cell? (ad.add n) = some (.int .u8 b) := (World.cell?_of_block (w := w3) (Below.heap_setCell w3 ⟨g, 0, none⟩ _ _ gne)).trans g3
  have HB3 := Lib.hid hB3
  have HBL := Lib.hid hb3
  have HG3 := Lib.hid hg3
  clear hB3 hb3 hg3 q0 q1 g1 C1 C2
  go_wp2
  go_ret
  have hlt : g < w.heap.size := blk_lt HC.out
  refine .inl ⟨decide (b = 1), l, _, HE.out, rfl, (show Value.bool (b == 1) = .bool (decide (b = 1)) from congrArg Value.bool (Bool.eq_iff_iff.2 (by simp))), ⟨HS.out.base, ?_, ⟨gc2, A3, c3, some ad, c', ?_, Nat.le_trans HS.out.below.size hge', HB3.out.far _ _ (by show gc2 ≠ g; omega) (fun a e => by have := hA3'.out a e; show a.block ≠ g; omega), H0.out, hle⟩, HSF.out, HS.out.isB, HS.out.lim⟩, ?_⟩
  · exact (((HS.out.drew _).below).trans (HBL.out.mono HS.out.below.size)).setCell (p := ⟨g, 0, none⟩) HS.out.base _
  · rw [blk_set HG3.out]; rfl
  · exact (Stp.trans (Stp.drew (Stp.refl _ _) _) (Stp.below HBL.out)).trans (Stp.set (i := 0) HG3.out (by simp) _)
theorem rr_flag {w0 w : World} {g : Nat} {B l : Bs} (hS : RAt w0 w g B l) :
    Calls Tryz.prog 78 #[.pointer (some ⟨g, 0, none⟩)] w (RDone dFlag (fun x v _ => v = .bool x) w0 g w B l) := by
  cases l with
  | nil => exact rr_flag_end hS
  | cons b l =>
    by_cases h : b ≤ 1
    · exact rr_flag_ok hS h
    · exact rr_flag_bad hS h
end Go.Proofs.YtoomcdgnnibjlaaGreat.Wr
/- The program's reader. -/
namespace Go.Proofs.YtoomcdgnnibjlaaGreat.Wr
open Go.RowKit Go.Proofs.YtoomcdgnnibjlaaGreatW.PrintWords Go.Proofs.YtoomcdgnnibjlaaGreatW.PrintLast
set_option linter.unusedVariables false
set_option linter.unusedSimpArgs false

theorem dNum_range {l l' : Bs} {x : Int} (hB : IsB l) (h : dNum l = some (x, l')) : 0 ≤ x ∧ x ≤ 1000000000 := by
  unfold dNum at h
  split at h
  · cases h
  · split at h
    · cases h
    · next hm => cases h; exact ⟨(of_range _ (hB.take 4)).1, by omega⟩
theorem times_none {α : Type} (d : Dc α) {k m : Nat} {l lr : Bs} {xs : List α} (h : dTimes d k l = some (xs, lr)) (hn : d lr = none) (hk : k < m) : dTimes d m l = none := by
  obtain ⟨j, rfl⟩ : ∃ j, m = (k + 1) + j := ⟨m - (k + 1), by omega⟩
  clear hk
  induction j with
  | zero => rw [Nat.add_zero, dTimes_snoc, h]; simp only [Option.bind_some, hn, Option.map_none]
  | succ j ih => rw [show k + 1 + (j + 1) = (k + 1 + j) + 1 by omega, dTimes_snoc, ih]; rfl
theorem elem_ok {α : Type} {d : Kd α} {w : World} {b base : Nat} {x : α} {cs : List Value} {v : Value} (h : d.M w b (fun _ => True) x cs) (hv : ∀ k, v.ownBlock = some k → k < b) (hb : base ≤ b) : d.M w base (fun k => True ∧ some k ≠ v.ownBlock) x cs :=
  d.M_lower hb (d.M_mono (fun k hk => ⟨trivial, fun e => by have := hv k e.symm; have := hk.2.1; omega⟩) (d.M_bound h))
theorem Keeps.row {α : Type} {d : Kd α} {e base : Nat} {ok : Nat → Prop} {w w' : World} {v : Value} {xs : List α} (h : d.R e w base ok v xs) (hg : w.grownBy w' v.ownBlock) (ht : e ≠ 90 ∧ e ≠ 125 ∧ e ≠ 5) : Keeps w w' :=
  ⟨fun k cs t fr hk ht' => (hg.block k (blk_lt hk) (fun he => by
    obtain ⟨inner, ho⟩ := Kd.R_own h
    obtain ⟨cells, hc⟩ := own_typed ho k he.symm
    rw [hc] at hk
    cases hk
    rcases ht' with e1 | e1 | e1
    · exact ht.1 e1
    · exact ht.2.1 e1
    · exact ht.2.2 e1)).trans hk⟩
theorem info_text : (Tryz.prog.info? 9).map (fun i => (i.zero, i.size, i.bytes)) = some (some (.string ⟨#[]⟩), 1, 16) := by kernel_rfl
set_option maxRecDepth 100000 in
set_option maxHeartbeats 16000000 in
theorem rr_few_text {w0 w : World} {g : Nat} {B l : Bs} (hS : RAt w0 w g B l) :
    Calls Tryz.prog 48 #[.pointer (some ⟨g, 0, none⟩), .func (.func 49) #[] #[]] w (RDone (dList dText) (fun xs v w' => Kd.string.R 9 w' w.heap.size (fun _ => True) v xs) w0 g w B l) := by
  have hIB : IsB l := by
    obtain ⟨p, hp⟩ := hS.suf
    have := hS.isB
    rw [hp] at this
    exact this.right
  have HSZ := Lib.hid hS.below.size
  have C1 := Lib.hid (rr_number hS)
  have HS := Lib.hid hS
  have HIB := Lib.hid hIB
  clear hS hIB
  go_enter Tryz.func48, Tryz.ntmps48
  go_wp2_with fail
  refine C1.out.mono ?_
  rintro e w1 (⟨n, l1, v, hd, rfl, rfl, S1', T1'⟩ | ⟨hd, rfl, hbe, T1'⟩)
  rotate_left
  · exact ⟨rfl, .inr ⟨by simp only [dList, hd, Option.bind_none], rfl, hbe, T1'⟩⟩
  obtain ⟨hn0, hn1⟩ := dNum_range HIB.out hd
  obtain ⟨m, rfl⟩ := Int.eq_ofNat_of_zero_le hn0
  have S1 := Lib.hid S1'
  have T1 := Lib.hid T1'
  have HD := Lib.hid hd
  clear S1' T1' hd C1 HIB
  by_cases h4 : 4096 < (m : Int)
  · have hdec : decide ((m : Int) ≤ 4096) = false := decide_eq_false (by omega)
    go_wp2_with fail
    refine (is_false _).mono ?_
    rintro e w2 ⟨rfl, rfl⟩
    exact ⟨rfl, .inr ⟨by simp only [dList, HD.out, Option.bind_some]; exact if_pos h4, rfl, S1.out.below, T1.out⟩⟩
  · have hdec : decide ((m : Int) ≤ 4096) = true := decide_eq_true (by omega)
    have hm4 : m ≤ 4096 := by omega
    have HL := Lib.hid (show dList dText l = dTimes dText m l1 by simp only [dList, HD.out, Option.bind_some, Int.toNat_natCast]; exact if_neg h4)
    clear h4
    go_wp2_with fail
    refine (is_true _).mono ?_
    rintro e w2 ⟨rfl, rfl⟩
    clear hdec
    go_wp2_with fail
    go_loopw [6, 13] (fun v i wr => ∃ k : Nat, k ≤ m ∧ i = .int .i64 k ∧ ∃ xs lr, dTimes dText k l1 = some (xs, lr) ∧ xs.length = k ∧ Kd.string.R 9 wr w.heap.size (fun _ => True) v xs ∧ RAt w0 wr g B lr ∧ Stp SR w wr) (fun _ i _ => m - (intOf i).toNat)
    case atStart => exact ⟨0, Nat.zero_le _, rfl, [], l1, rfl, rfl, Kd.R_nil _ _ _ _ _, S1.out, T1.out⟩
    case round =>
      obtain ⟨k, hk, rfl, xs, lr, hdt, hxl, hR, hS, hT⟩ := hrel
      obtain ⟨A, c, hv, _, _⟩ := Kd.R_reads hR
      subst hv
      have HT := Lib.hid hdt
      have HX := Lib.hid hxl
      have HR := Lib.hid hR
      have SR_ := Lib.hid hS
      have TR := Lib.hid hT
      clear hdt hxl hR hS hT S1 T1
      by_cases hlt : k < m
      · have hlt' : (k : Int) < (m : Int) := by omega
        go_wp2_with fail
        refine (rr_text SR_.out).mono ?_
        rintro e w3 (⟨x, l2, u, hd, rfl, rfl, S3', T3'⟩ | ⟨hd, rfl, hbe, T3'⟩)
        rotate_left
        · exact ⟨rfl, .inr ⟨by rw [HL.out]; exact times_none _ HT.out hd hlt, rfl, hbe, TR.out.trans T3'⟩⟩
        have hlen : xs.length ≤ 4096 := by rw [HX.out]; omega
        have hO := T3'.R HR.out (by decide)
        have hE := elem_ok (d := Kd.string) (cs := [.string x]) (x := x) (w := w3) (b := w3.heap.size) (base := w.heap.size) (v := Value.slice A xs.length c) rfl (fun k hk => Kd.R_lt hO k hk) (Nat.le_trans TR.out.size T3'.size)
        have HO := Lib.hid hO
        have HE := Lib.hid hE
        have S3 := Lib.hid S3'
        have T3 := Lib.hid (TR.out.trans T3')
        have HD3 := Lib.hid hd
        clear hO hE S3' T3' hd TR HR SR_
        go_wp2_with (((with_reducible refine gate_builtin (b := .append) (xs := #[.tmp 15, .tmp 19]) rfl ?_); at_builtin; refine Kd.R_append Kd.string (w0 := w3) w.heap.size rfl (.tmp 15) (.tmp 19) 28 9 (.string ⟨#[]⟩) 16 rfl Tryz.underlying28 info_text rfl (by decide) (by decide) (.slice A xs.length c) xs x [.string x] (fun _ => True) (fun k => True ∧ some k ≠ (Value.slice A xs.length c).ownBlock) rfl rfl HE.out (fun _ h => h) (fun _ _ => trivial) HO.out (Below.refl _ _) (Nat.le_trans T3.out.size (Nat.le_refl _)) (by omega) ?_; intro v1 w4 ho hb hg hat; have HO4 := Lib.hid ho; have HB4 := Lib.hid hb; have HG4 := Lib.hid hg; clear ho hb hg hat))
        have hs4 : dTimes dText (k + 1) l1 = some (xs ++ [x], l2) := by rw [dTimes_snoc, HT.out]; simp only [Option.bind_some, HD3.out, Option.map_some]
        have HS4 := Lib.hid hs4
        have S4 := Lib.hid (S3.out.keeps (Keeps.row HO.out HG4.out (by decide)) (HB4.out.mono (Nat.le_trans HSZ.out (Nat.le_refl _))))
        have T4 := Lib.hid (T3.out.then HB4.out)
        have HX4 := Lib.hid (show (xs ++ [x]).length = k + 1 by rw [List.length_append, HX.out]; rfl)
        clear hs4
        go_wp2
        go_roundw
        case rel => exact ⟨k + 1, by omega, by simp, _, _, HS4.out, HX4.out, HO4.out, S4.out, T4.out⟩
        case measure => simp [intOf]; omega
      · have hke : k = m := by omega
        have HK := Lib.hid hke
        clear hke
        go_wp2
        go_ret
        have ht := HT.out
        rw [HK.out] at ht
        exact .inl ⟨xs, lr, _, by rw [HL.out, ht], rfl, HR.out, SR_.out, TR.out⟩
theorem info_num : (Tryz.prog.info? 3).map (fun i => (i.zero, i.size, i.bytes)) = some (some (.int .i64 0), 1, 8) := by kernel_rfl
set_option maxRecDepth 100000 in
set_option maxHeartbeats 16000000 in
theorem rr_column {w0 w : World} {g : Nat} {B l0 : Bs} (hS : RAt w0 w g B l0) :
    Calls Tryz.prog 74 #[.pointer (some ⟨g, 0, none⟩)] w (RDone dColumn (fun x v w' => ∃ cs, kColumn.M w' w.heap.size (fun _ => True) x cs ∧ v = .agg cs.toArray) w0 g w B l0) := by
  have hb0 : Below w.heap.size w (w.alloc (.cells #[.string ⟨#[]⟩, .int .i64 0, .bool false] 167)) := (Below.refl _ _).alloc (Nat.le_refl _) _
  have hx0 := blk_new w (.cells #[.string ⟨#[]⟩, .int .i64 0, .bool false] 167)
  obtain ⟨W0, hW0⟩ : ∃ W0, w.alloc (.cells #[.string ⟨#[]⟩, .int .i64 0, .bool false] 167) = W0 := ⟨_, rfl⟩
  rw [hW0] at hb0 hx0
  have HSZ := Lib.hid hS.below.size
  have S0 := Lib.hid (hS.keeps (Keeps.below hb0) (hb0.mono hS.below.size))
  have B0 := Lib.hid hx0
  have T0 := Lib.hid (Stp.below (S := SR) hb0)
  have HW := Lib.hid hW0
  clear hb0 hx0 hW0 hS
  go_enter Tryz.func74, Tryz.ntmps74
  go_wp2_with fail
  rw [HW.out]
  clear HW
  refine (rr_text S0.out).mono ?_
  rintro e y1 (⟨x1, l1, u, hd, rfl, rfl, S', T'⟩ | ⟨hd, rfl, hbe, T'⟩)
  rotate_left
  · exact ⟨rfl, .inr ⟨by simp only [dColumn, dPair, hd, Option.bind_some, Option.map_some, Option.bind_none, Option.map_none], rfl, hbe, T0.out.trans T'⟩⟩
  have hbx := T'.keep B0.out (by decide)
  have q := cell_blk hbx 0 _ rfl
  have f := frozen_at hbx 0
  obtain ⟨w1, hw, hbx2, hkp, hbl, hot⟩ := own_store hbx (by decide) 0 (.string x1)
  have hbx3 : w1.heap[w.heap.size]? = some (.cells #[.string x1, .int .i64 0, .bool false] 167 (0, 0)) := hbx2
  have hbl' := hbl w.heap.size (Nat.le_refl _)
  have S1 := Lib.hid (S'.keeps hkp (hbl'.mono HSZ.out))
  have T1 := Lib.hid ((T0.out.trans T').then hbl')
  have B1 := Lib.hid hbx3
  have HD1 := Lib.hid hd
  have HV := Lib.hid hw
  clear hd hw hbx hbx2 hbx3 hkp hbl hbl' hot S' T' S0 T0 B0
  go_wp2_with fail
  first | rw [HV.out] | (erw [HV.out])
  clear HV q f
  refine (rr_number S1.out).mono ?_
  rintro e y2 (⟨x2, l2, u, hd, rfl, rfl, S', T'⟩ | ⟨hd, rfl, hbe, T'⟩)
  rotate_left
  · exact ⟨rfl, .inr ⟨by simp only [dColumn, dPair, HD1.out, hd, Option.bind_some, Option.map_some, Option.bind_none, Option.map_none], rfl, hbe, T1.out.trans T'⟩⟩
  have hbx := T'.keep B1.out (by decide)
  have q := cell_blk hbx 1 _ rfl
  have f := frozen_at hbx 1
  obtain ⟨w2, hw, hbx2, hkp, hbl, hot⟩ := own_store hbx (by decide) 1 (.int .i64 x2)
  have hbx3 : w2.heap[w.heap.size]? = some (.cells #[.string x1, .int .i64 x2, .bool false] 167 (0, 0)) := hbx2
  have hbl' := hbl w.heap.size (Nat.le_refl _)
  have S2 := Lib.hid (S'.keeps hkp (hbl'.mono HSZ.out))
  have T2 := Lib.hid ((T1.out.trans T').then hbl')
  have B2 := Lib.hid hbx3
  have HD2 := Lib.hid hd
  have HV := Lib.hid hw
  clear hd hw hbx hbx2 hbx3 hkp hbl hbl' hot S' T' S1 T1 B1
  go_wp2_with fail
  first | rw [HV.out] | (erw [HV.out])
  clear HV q f
  refine (rr_flag S2.out).mono ?_
  rintro e y3 (⟨x3, l3, u, hd, rfl, rfl, S', T'⟩ | ⟨hd, rfl, hbe, T'⟩)
  rotate_left
  · exact ⟨rfl, .inr ⟨by simp only [dColumn, dPair, HD1.out, HD2.out, hd, Option.bind_some, Option.map_some, Option.bind_none, Option.map_none], rfl, hbe, T2.out.trans T'⟩⟩
  have hbx := T'.keep B2.out (by decide)
  have q := cell_blk hbx 2 _ rfl
  have f := frozen_at hbx 2
  obtain ⟨w3, hw, hbx2, hkp, hbl, hot⟩ := own_store hbx (by decide) 2 (.bool x3)
  have hbx3 : w3.heap[w.heap.size]? = some (.cells #[.string x1, .int .i64 x2, .bool x3] 167 (0, 0)) := hbx2
  have hbl' := hbl w.heap.size (Nat.le_refl _)
  have S3 := Lib.hid (S'.keeps hkp (hbl'.mono HSZ.out))
  have T3 := Lib.hid ((T2.out.trans T').then hbl')
  have B3 := Lib.hid hbx3
  have HD3 := Lib.hid hd
  have HV := Lib.hid hw
  clear hd hw hbx hbx2 hbx3 hkp hbl hbl' hot S' T' S2 T2 B2
  have HM := Lib.hid (mkMColumn (w := w3) (base := w.heap.size) (ok := fun _ => True) (x1, x2, x3) )
  obtain ⟨WF, hWF, hbF, hkF, hblF, hotF⟩ := own_stores [] [.string x1, .int .i64 x2, .bool x3] [.string x1, .int .i64 x2, .bool x3] [] B3.out (by decide) rfl
  have HF := Lib.hid hWF
  have BF := Lib.hid hbF
  have KF := Lib.hid hkF
  have LF := Lib.hid (hblF w.heap.size (Nat.le_refl _))
  have OF := Lib.hid hotF
  clear hWF hbF hkF hblF hotF
  go_wp2_with (first | ((with_reducible refine gate_load (t := 167) rfl ?_); (first | rw [HV.out] | skip); refine wpList_load_mid rfl 167 _ rfl w.heap.size 0 rfl [.string x1, .int .i64 x2, .bool x3] _ (range_blk [] [.string x1, .int .i64 x2, .bool x3] [] B3.out) Tryz.underlying167 rfl (by kernel_rfl) ?_) | ((with_reducible refine gate_store (t := 167) rfl ?_); refine wpList_store_mid rfl 167 _ _ rfl w.heap.size 0 #[.string x1, .int .i64 x2, .bool x3] rfl rfl (there_blk [] [.string x1, .int .i64 x2, .bool x3] [] B3.out) (by kernel_rfl) (all_oneCell_toArray (kColumn.K_one (kColumn.K_of_M HM.out))) ?_))
  first | rw [HF.out] | (erw [HF.out])
  refine bodyPost_ret (v := .agg #[.string x1, .int .i64 x2, .bool x3]) (results_cell_row rfl _ _ w.heap.size 167 #[.string x1, .int .i64 x2, .bool x3] (0, 0) _ rfl BF.out Tryz.underlying167 rfl (by kernel_rfl)) rfl ?_
  exact .inl ⟨(x1, x2, x3), l3, _, by simp only [dColumn, dPair, HD1.out, HD2.out, HD3.out, Option.bind_some, Option.map_some, Option.bind_none, Option.map_none], rfl, ⟨_, mkMColumn (x1, x2, x3) , rfl⟩, S3.out.keeps KF.out (LF.out.mono HSZ.out), T3.out.then LF.out⟩
theorem info_Column : (Tryz.prog.info? 167).map (fun i => (i.zero, i.size, i.bytes)) = some (some (.agg #[.string ⟨#[]⟩, .int .i64 0, .bool false]), 3, 32) := by kernel_rfl
set_option maxRecDepth 100000 in
set_option maxHeartbeats 16000000 in
theorem rr_few_Column {w0 w : World} {g : Nat} {B l : Bs} (hS : RAt w0 w g B l) :
    Calls Tryz.prog 73 #[.pointer (some ⟨g, 0, none⟩), .func (.func 74) #[] #[]] w (RDone (dList dColumn) (fun xs v w' => kColumn.R 167 w' w.heap.size (fun _ => True) v xs) w0 g w B l) := by
  have hIB : IsB l := by
    obtain ⟨p, hp⟩ := hS.suf
    have := hS.isB
    rw [hp] at this
    exact this.right
  have HSZ := Lib.hid hS.below.size
  have C1 := Lib.hid (rr_number hS)
  have HS := Lib.hid hS
  have HIB := Lib.hid hIB
  clear hS hIB
  go_enter Tryz.func73, Tryz.ntmps73
  go_wp2_with fail
  refine C1.out.mono ?_
  rintro e w1 (⟨n, l1, v, hd, rfl, rfl, S1', T1'⟩ | ⟨hd, rfl, hbe, T1'⟩)
  rotate_left
  · exact ⟨rfl, .inr ⟨by simp only [dList, hd, Option.bind_none], rfl, hbe, T1'⟩⟩
  obtain ⟨hn0, hn1⟩ := dNum_range HIB.out hd
  obtain ⟨m, rfl⟩ := Int.eq_ofNat_of_zero_le hn0
  have S1 := Lib.hid S1'
  have T1 := Lib.hid T1'
  have HD := Lib.hid hd
  clear S1' T1' hd C1 HIB
  by_cases h4 : 4096 < (m : Int)
  · have hdec : decide ((m : Int) ≤ 4096) = false := decide_eq_false (by omega)
    go_wp2_with fail
    refine (is_false _).mono ?_
    rintro e w2 ⟨rfl, rfl⟩
    exact ⟨rfl, .inr ⟨by simp only [dList, HD.out, Option.bind_some]; exact if_pos h4, rfl, S1.out.below, T1.out⟩⟩
  · have hdec : decide ((m : Int) ≤ 4096) = true := decide_eq_true (by omega)
    have hm4 : m ≤ 4096 := by omega
    have HL := Lib.hid (show dList dColumn l = dTimes dColumn m l1 by simp only [dList, HD.out, Option.bind_some, Int.toNat_natCast]; exact if_neg h4)
    clear h4
    go_wp2_with fail
    refine (is_true _).mono ?_
    rintro e w2 ⟨rfl, rfl⟩
    clear hdec
    go_wp2_with fail
    go_loopw [6, 13] (fun v i wr => ∃ k : Nat, k ≤ m ∧ i = .int .i64 k ∧ ∃ xs lr, dTimes dColumn k l1 = some (xs, lr) ∧ xs.length = k ∧ kColumn.R 167 wr w.heap.size (fun _ => True) v xs ∧ RAt w0 wr g B lr ∧ Stp SR w wr) (fun _ i _ => m - (intOf i).toNat)
    case atStart => exact ⟨0, Nat.zero_le _, rfl, [], l1, rfl, rfl, Kd.R_nil _ _ _ _ _, S1.out, T1.out⟩
    case round =>
      obtain ⟨k, hk, rfl, xs, lr, hdt, hxl, hR, hS, hT⟩ := hrel
      obtain ⟨A, c, hv, _, _⟩ := Kd.R_reads hR
      subst hv
      have HT := Lib.hid hdt
      have HX := Lib.hid hxl
      have HR := Lib.hid hR
      have SR_ := Lib.hid hS
      have TR := Lib.hid hT
      clear hdt hxl hR hS hT S1 T1
      by_cases hlt : k < m
      · have hlt' : (k : Int) < (m : Int) := by omega
        go_wp2_with fail
        refine (rr_column SR_.out).mono ?_
        rintro e w3 (⟨x, l2, u, hd, rfl, ⟨cs, hM, rfl⟩, S3', T3'⟩ | ⟨hd, rfl, hbe, T3'⟩)
        rotate_left
        · exact ⟨rfl, .inr ⟨by rw [HL.out]; exact times_none _ HT.out hd hlt, rfl, hbe, TR.out.trans T3'⟩⟩
        have hlen : xs.length ≤ 4096 := by rw [HX.out]; omega
        have hO := T3'.R HR.out (by decide)
        have hE := elem_ok hM (fun k hk => Kd.R_lt HR.out k hk) TR.out.size (v := Value.slice A xs.length c)
        obtain rfl := openMColumn hM
        have HO := Lib.hid hO
        have HE := Lib.hid hE
        have S3 := Lib.hid S3'
        have T3 := Lib.hid (TR.out.trans T3')
        have HD3 := Lib.hid hd
        clear hO hE S3' T3' hd TR HR SR_ hM
        go_wp2_with (((with_reducible refine gate_builtin (b := .append) (xs := #[.tmp 15, .tmp 19]) rfl ?_); at_builtin; refine Kd.R_append kColumn (w0 := w3) w.heap.size rfl (.tmp 15) (.tmp 19) 61 167 (.agg #[.string ⟨#[]⟩, .int .i64 0, .bool false]) 32 rfl Tryz.underlying61 info_Column rfl (by decide) (by decide) (.slice A xs.length c) xs x [.string x.1, .int .i64 x.2.1, .bool x.2.2] (fun _ => True) (fun k => True ∧ some k ≠ (Value.slice A xs.length c).ownBlock) rfl rfl HE.out (fun _ h => h) (fun _ _ => trivial) HO.out (Below.refl _ _) (Nat.le_trans T3.out.size (Nat.le_refl _)) (by omega) ?_; intro v1 w4 ho hb hg hat; have HO4 := Lib.hid ho; have HB4 := Lib.hid hb; have HG4 := Lib.hid hg; clear ho hb hg hat))
        have hs4 : dTimes dColumn (k + 1) l1 = some (xs ++ [x], l2) := by rw [dTimes_snoc, HT.out]; simp only [Option.bind_some, HD3.out, Option.map_some]
        have HS4 := Lib.hid hs4
        have S4 := Lib.hid (S3.out.keeps (Keeps.row HO.out HG4.out (by decide)) (HB4.out.mono (Nat.le_trans HSZ.out (Nat.le_refl _))))
        have T4 := Lib.hid (T3.out.then HB4.out)
        have HX4 := Lib.hid (show (xs ++ [x]).length = k + 1 by rw [List.length_append, HX.out]; rfl)
        clear hs4
        go_wp2
        go_roundw
        case rel => exact ⟨k + 1, by omega, by simp, _, _, HS4.out, HX4.out, HO4.out, S4.out, T4.out⟩
        case measure => simp [intOf]; omega
      · have hke : k = m := by omega
        have HK := Lib.hid hke
        clear hke
        go_wp2
        go_ret
        have ht := HT.out
        rw [HK.out] at ht
        exact .inl ⟨xs, lr, _, by rw [HL.out, ht], rfl, HR.out, SR_.out, TR.out⟩
end Go.Proofs.YtoomcdgnnibjlaaGreat.Wr
/- The program's reader. -/
namespace Go.Proofs.YtoomcdgnnibjlaaGreat.Wr
open Go.RowKit Go.Proofs.YtoomcdgnnibjlaaGreatW.PrintWords Go.Proofs.YtoomcdgnnibjlaaGreatW.PrintLast
set_option linter.unusedVariables false
set_option linter.unusedSimpArgs false

set_option maxRecDepth 100000 in
set_option maxHeartbeats 16000000 in
theorem rr_rule {w0 w : World} {g : Nat} {B l0 : Bs} (hS : RAt w0 w g B l0) :
    Calls Tryz.prog 76 #[.pointer (some ⟨g, 0, none⟩)] w (RDone dRule (fun x v w' => ∃ cs, kRule.M w' w.heap.size (fun _ => True) x cs ∧ v = .agg cs.toArray) w0 g w B l0) := by
  have hb0 : Below w.heap.size w (w.alloc (.cells #[.string ⟨#[]⟩, .int .i64 0, .slice none 0 0, .int .i64 0, .int .i64 0, .string ⟨#[]⟩, .string ⟨#[]⟩, .string ⟨#[]⟩] 64)) := (Below.refl _ _).alloc (Nat.le_refl _) _
  have hx0 := blk_new w (.cells #[.string ⟨#[]⟩, .int .i64 0, .slice none 0 0, .int .i64 0, .int .i64 0, .string ⟨#[]⟩, .string ⟨#[]⟩, .string ⟨#[]⟩] 64)
  obtain ⟨W0, hW0⟩ : ∃ W0, w.alloc (.cells #[.string ⟨#[]⟩, .int .i64 0, .slice none 0 0, .int .i64 0, .int .i64 0, .string ⟨#[]⟩, .string ⟨#[]⟩, .string ⟨#[]⟩] 64) = W0 := ⟨_, rfl⟩
  rw [hW0] at hb0 hx0
  have HSZ := Lib.hid hS.below.size
  have S0 := Lib.hid (hS.keeps (Keeps.below hb0) (hb0.mono hS.below.size))
  have B0 := Lib.hid hx0
  have T0 := Lib.hid (Stp.below (S := SR) hb0)
  have HW := Lib.hid hW0
  clear hb0 hx0 hW0 hS
  go_enter Tryz.func76, Tryz.ntmps76
  go_wp2_with fail
  rw [HW.out]
  clear HW
  refine (rr_text S0.out).mono ?_
  rintro e y1 (⟨x1, l1, u, hd, rfl, rfl, S', T'⟩ | ⟨hd, rfl, hbe, T'⟩)
  rotate_left
  · exact ⟨rfl, .inr ⟨by simp only [dRule, dPair, hd, Option.bind_some, Option.map_some, Option.bind_none, Option.map_none], rfl, hbe, T0.out.trans T'⟩⟩
  have hbx := T'.keep B0.out (by decide)
  have q := cell_blk hbx 0 _ rfl
  have f := frozen_at hbx 0
  obtain ⟨w1, hw, hbx2, hkp, hbl, hot⟩ := own_store hbx (by decide) 0 (.string x1)
  have hbx3 : w1.heap[w.heap.size]? = some (.cells #[.string x1, .int .i64 0, .slice none 0 0, .int .i64 0, .int .i64 0, .string ⟨#[]⟩, .string ⟨#[]⟩, .string ⟨#[]⟩] 64 (0, 0)) := hbx2
  have hbl' := hbl w.heap.size (Nat.le_refl _)
  have S1 := Lib.hid (S'.keeps hkp (hbl'.mono HSZ.out))
  have T1 := Lib.hid ((T0.out.trans T').then hbl')
  have B1 := Lib.hid hbx3
  have HD1 := Lib.hid hd
  have HV := Lib.hid hw
  clear hd hw hbx hbx2 hbx3 hkp hbl hbl' hot S' T' S0 T0 B0
  go_wp2_with fail
  first | rw [HV.out] | (erw [HV.out])
  clear HV q f
  refine (rr_number S1.out).mono ?_
  rintro e y2 (⟨x2, l2, u, hd, rfl, rfl, S', T'⟩ | ⟨hd, rfl, hbe, T'⟩)
  rotate_left
  · exact ⟨rfl, .inr ⟨by simp only [dRule, dPair, HD1.out, hd, Option.bind_some, Option.map_some, Option.bind_none, Option.map_none], rfl, hbe, T1.out.trans T'⟩⟩
  have hbx := T'.keep B1.out (by decide)
  have q := cell_blk hbx 1 _ rfl
  have f := frozen_at hbx 1
  obtain ⟨w2, hw, hbx2, hkp, hbl, hot⟩ := own_store hbx (by decide) 1 (.int .i64 x2)
  have hbx3 : w2.heap[w.heap.size]? = some (.cells #[.string x1, .int .i64 x2, .slice none 0 0, .int .i64 0, .int .i64 0, .string ⟨#[]⟩, .string ⟨#[]⟩, .string ⟨#[]⟩] 64 (0, 0)) := hbx2
  have hbl' := hbl w.heap.size (Nat.le_refl _)
  have S2 := Lib.hid (S'.keeps hkp (hbl'.mono HSZ.out))
  have T2 := Lib.hid ((T1.out.trans T').then hbl')
  have B2 := Lib.hid hbx3
  have HD2 := Lib.hid hd
  have HV := Lib.hid hw
  clear hd hw hbx hbx2 hbx3 hkp hbl hbl' hot S' T' S1 T1 B1
  go_wp2_with fail
  first | rw [HV.out] | (erw [HV.out])
  clear HV q f
  refine (rr_few_text S2.out).mono ?_
  rintro e y3 (⟨x3, l3, u, hd, rfl, hR, S', T'⟩ | ⟨hd, rfl, hbe, T'⟩)
  rotate_left
  · exact ⟨rfl, .inr ⟨by simp only [dRule, dPair, HD1.out, HD2.out, hd, Option.bind_some, Option.map_some, Option.bind_none, Option.map_none], rfl, hbe, T2.out.trans T'⟩⟩
  have hbx := T'.keep B2.out (by decide)
  obtain ⟨A2, c2, hu, _, _⟩ := Kd.R_reads hR
  subst hu
  have R2' := Kd.R_lower hR T2.out.size
  clear hR
  have q := cell_blk hbx 2 _ rfl
  have f := frozen_at hbx 2
  obtain ⟨w3, hw, hbx2, hkp, hbl, hot⟩ := own_store hbx (by decide) 2 (.slice A2 x3.length c2)
  have hbx3 : w3.heap[w.heap.size]? = some (.cells #[.string x1, .int .i64 x2, .slice A2 x3.length c2, .int .i64 0, .int .i64 0, .string ⟨#[]⟩, .string ⟨#[]⟩, .string ⟨#[]⟩] 64 (0, 0)) := hbx2
  have hbl' := hbl w.heap.size (Nat.le_refl _)
  have S3 := Lib.hid (S'.keeps hkp (hbl'.mono HSZ.out))
  have T3 := Lib.hid ((T2.out.trans T').then hbl')
  have B3 := Lib.hid hbx3
  have R2'' := made_only R2' hbx (by decide) hot
  have R2 := Lib.hid R2''
  clear R2' R2''
  have HD3 := Lib.hid hd
  have HV := Lib.hid hw
  clear hd hw hbx hbx2 hbx3 hkp hbl hbl' hot S' T' S2 T2 B2
  go_wp2_with fail
  first | rw [HV.out] | (erw [HV.out])
  clear HV q f
  refine (rr_whole S3.out).mono ?_
  rintro e y4 (⟨x4, l4, u, hd, rfl, rfl, S', T'⟩ | ⟨hd, rfl, hbe, T'⟩)
  rotate_left
  · exact ⟨rfl, .inr ⟨by simp only [dRule, dPair, HD1.out, HD2.out, HD3.out, hd, Option.bind_some, Option.map_some, Option.bind_none, Option.map_none], rfl, hbe, T3.out.trans T'⟩⟩
  have hbx := T'.keep B3.out (by decide)
  have R2' := T'.R R2.out (by decide)
  have q := cell_blk hbx 3 _ rfl
  have f := frozen_at hbx 3
  obtain ⟨w4, hw, hbx2, hkp, hbl, hot⟩ := own_store hbx (by decide) 3 (.int .i64 x4)
  have hbx3 : w4.heap[w.heap.size]? = some (.cells #[.string x1, .int .i64 x2, .slice A2 x3.length c2, .int .i64 x4, .int .i64 0, .string ⟨#[]⟩, .string ⟨#[]⟩, .string ⟨#[]⟩] 64 (0, 0)) := hbx2
  have hbl' := hbl w.heap.size (Nat.le_refl _)
  have S4 := Lib.hid (S'.keeps hkp (hbl'.mono HSZ.out))
  have T4 := Lib.hid ((T3.out.trans T').then hbl')
  have B4 := Lib.hid hbx3
  have R2'' := made_only R2' hbx (by decide) hot
  clear R2
  have R2 := Lib.hid R2''
  clear R2' R2''
  have HD4 := Lib.hid hd
  have HV := Lib.hid hw
  clear hd hw hbx hbx2 hbx3 hkp hbl hbl' hot S' T' S3 T3 B3
  go_wp2_with fail
  first | rw [HV.out] | (erw [HV.out])
  clear HV q f
  refine (rr_whole S4.out).mono ?_
  rintro e y5 (⟨x5, l5, u, hd, rfl, rfl, S', T'⟩ | ⟨hd, rfl, hbe, T'⟩)
  rotate_left
  · exact ⟨rfl, .inr ⟨by simp only [dRule, dPair, HD1.out, HD2.out, HD3.out, HD4.out, hd, Option.bind_some, Option.map_some, Option.bind_none, Option.map_none], rfl, hbe, T4.out.trans T'⟩⟩
  have hbx := T'.keep B4.out (by decide)
  have R2' := T'.R R2.out (by decide)
  have q := cell_blk hbx 4 _ rfl
  have f := frozen_at hbx 4
  obtain ⟨w5, hw, hbx2, hkp, hbl, hot⟩ := own_store hbx (by decide) 4 (.int .i64 x5)
  have hbx3 : w5.heap[w.heap.size]? = some (.cells #[.string x1, .int .i64 x2, .slice A2 x3.length c2, .int .i64 x4, .int .i64 x5, .string ⟨#[]⟩, .string ⟨#[]⟩, .string ⟨#[]⟩] 64 (0, 0)) := hbx2
  have hbl' := hbl w.heap.size (Nat.le_refl _)
  have S5 := Lib.hid (S'.keeps hkp (hbl'.mono HSZ.out))
  have T5 := Lib.hid ((T4.out.trans T').then hbl')
  have B5 := Lib.hid hbx3
  have R2'' := made_only R2' hbx (by decide) hot
  clear R2
  have R2 := Lib.hid R2''
  clear R2' R2''
  have HD5 := Lib.hid hd
  have HV := Lib.hid hw
  clear hd hw hbx hbx2 hbx3 hkp hbl hbl' hot S' T' S4 T4 B4
  go_wp2_with fail
  first | rw [HV.out] | (erw [HV.out])
  clear HV q f
  refine (rr_text S5.out).mono ?_
  rintro e y6 (⟨x6, l6, u, hd, rfl, rfl, S', T'⟩ | ⟨hd, rfl, hbe, T'⟩)
  rotate_left
  · exact ⟨rfl, .inr ⟨by simp only [dRule, dPair, HD1.out, HD2.out, HD3.out, HD4.out, HD5.out, hd, Option.bind_some, Option.map_some, Option.bind_none, Option.map_none], rfl, hbe, T5.out.trans T'⟩⟩
  have hbx := T'.keep B5.out (by decide)
  have R2' := T'.R R2.out (by decide)
  have q := cell_blk hbx 5 _ rfl
  have f := frozen_at hbx 5
  obtain ⟨w6, hw, hbx2, hkp, hbl, hot⟩ := own_store hbx (by decide) 5 (.string x6)
  have hbx3 : w6.heap[w.heap.size]? = some (.cells #[.string x1, .int .i64 x2, .slice A2 x3.length c2, .int .i64 x4, .int .i64 x5, .string x6, .string ⟨#[]⟩, .string ⟨#[]⟩] 64 (0, 0)) := hbx2
  have hbl' := hbl w.heap.size (Nat.le_refl _)
  have S6 := Lib.hid (S'.keeps hkp (hbl'.mono HSZ.out))
  have T6 := Lib.hid ((T5.out.trans T').then hbl')
  have B6 := Lib.hid hbx3
  have R2'' := made_only R2' hbx (by decide) hot
  clear R2
  have R2 := Lib.hid R2''
  clear R2' R2''
  have HD6 := Lib.hid hd
  have HV := Lib.hid hw
  clear hd hw hbx hbx2 hbx3 hkp hbl hbl' hot S' T' S5 T5 B5
  go_wp2_with fail
  first | rw [HV.out] | (erw [HV.out])
  clear HV q f
  refine (rr_text S6.out).mono ?_
  rintro e y7 (⟨x7, l7, u, hd, rfl, rfl, S', T'⟩ | ⟨hd, rfl, hbe, T'⟩)
  rotate_left
  · exact ⟨rfl, .inr ⟨by simp only [dRule, dPair, HD1.out, HD2.out, HD3.out, HD4.out, HD5.out, HD6.out, hd, Option.bind_some, Option.map_some, Option.bind_none, Option.map_none], rfl, hbe, T6.out.trans T'⟩⟩
  have hbx := T'.keep B6.out (by decide)
  have R2' := T'.R R2.out (by decide)
  have q := cell_blk hbx 6 _ rfl
  have f := frozen_at hbx 6
  obtain ⟨w7, hw, hbx2, hkp, hbl, hot⟩ := own_store hbx (by decide) 6 (.string x7)
  have hbx3 : w7.heap[w.heap.size]? = some (.cells #[.string x1, .int .i64 x2, .slice A2 x3.length c2, .int .i64 x4, .int .i64 x5, .string x6, .string x7, .string ⟨#[]⟩] 64 (0, 0)) := hbx2
  have hbl' := hbl w.heap.size (Nat.le_refl _)
  have S7 := Lib.hid (S'.keeps hkp (hbl'.mono HSZ.out))
  have T7 := Lib.hid ((T6.out.trans T').then hbl')
  have B7 := Lib.hid hbx3
  have R2'' := made_only R2' hbx (by decide) hot
  clear R2
  have R2 := Lib.hid R2''
  clear R2' R2''
  have HD7 := Lib.hid hd
  have HV := Lib.hid hw
  clear hd hw hbx hbx2 hbx3 hkp hbl hbl' hot S' T' S6 T6 B6
  go_wp2_with fail
  first | rw [HV.out] | (erw [HV.out])
  clear HV q f
  refine (rr_text S7.out).mono ?_
  rintro e y8 (⟨x8, l8, u, hd, rfl, rfl, S', T'⟩ | ⟨hd, rfl, hbe, T'⟩)
  rotate_left
  · exact ⟨rfl, .inr ⟨by simp only [dRule, dPair, HD1.out, HD2.out, HD3.out, HD4.out, HD5.out, HD6.out, HD7.out, hd, Option.bind_some, Option.map_some, Option.bind_none, Option.map_none], rfl, hbe, T7.out.trans T'⟩⟩
  have hbx := T'.keep B7.out (by decide)
  have R2' := T'.R R2.out (by decide)
  have q := cell_blk hbx 7 _ rfl
  have f := frozen_at hbx 7
  obtain ⟨w8, hw, hbx2, hkp, hbl, hot⟩ := own_store hbx (by decide) 7 (.string x8)
  have hbx3 : w8.heap[w.heap.size]? = some (.cells #[.string x1, .int .i64 x2, .slice A2 x3.length c2, .int .i64 x4, .int .i64 x5, .string x6, .string x7, .string x8] 64 (0, 0)) := hbx2
  have hbl' := hbl w.heap.size (Nat.le_refl _)
  have S8 := Lib.hid (S'.keeps hkp (hbl'.mono HSZ.out))
  have T8 := Lib.hid ((T7.out.trans T').then hbl')
  have B8 := Lib.hid hbx3
  have R2'' := made_only R2' hbx (by decide) hot
  clear R2
  have R2 := Lib.hid R2''
  clear R2' R2''
  have HD8 := Lib.hid hd
  have HV := Lib.hid hw
  clear hd hw hbx hbx2 hbx3 hkp hbl hbl' hot S' T' S7 T7 B7
  have HM := Lib.hid (mkMRule (w := w8) (base := w.heap.size) (ok := fun _ => True) (x1, x2, x3, x4, x5, x6, x7, x8) R2.out)
  obtain ⟨WF, hWF, hbF, hkF, hblF, hotF⟩ := own_stores [] [.string x1, .int .i64 x2, .slice A2 x3.length c2, .int .i64 x4, .int .i64 x5, .string x6, .string x7, .string x8] [.string x1, .int .i64 x2, .slice A2 x3.length c2, .int .i64 x4, .int .i64 x5, .string x6, .string x7, .string x8] [] B8.out (by decide) rfl
  have HF := Lib.hid hWF
  have BF := Lib.hid hbF
  have KF := Lib.hid hkF
  have LF := Lib.hid (hblF w.heap.size (Nat.le_refl _))
  have OF := Lib.hid hotF
  clear hWF hbF hkF hblF hotF
  go_wp2_with (first | ((with_reducible refine gate_load (t := 64) rfl ?_); (first | rw [HV.out] | skip); refine wpList_load_mid rfl 64 _ rfl w.heap.size 0 rfl [.string x1, .int .i64 x2, .slice A2 x3.length c2, .int .i64 x4, .int .i64 x5, .string x6, .string x7, .string x8] _ (range_blk [] [.string x1, .int .i64 x2, .slice A2 x3.length c2, .int .i64 x4, .int .i64 x5, .string x6, .string x7, .string x8] [] B8.out) Tryz.underlying64 rfl (by kernel_rfl) ?_) | ((with_reducible refine gate_store (t := 64) rfl ?_); refine wpList_store_mid rfl 64 _ _ rfl w.heap.size 0 #[.string x1, .int .i64 x2, .slice A2 x3.length c2, .int .i64 x4, .int .i64 x5, .string x6, .string x7, .string x8] rfl rfl (there_blk [] [.string x1, .int .i64 x2, .slice A2 x3.length c2, .int .i64 x4, .int .i64 x5, .string x6, .string x7, .string x8] [] B8.out) (by kernel_rfl) (all_oneCell_toArray (kRule.K_one (kRule.K_of_M HM.out))) ?_))
  first | rw [HF.out] | (erw [HF.out])
  refine bodyPost_ret (v := .agg #[.string x1, .int .i64 x2, .slice A2 x3.length c2, .int .i64 x4, .int .i64 x5, .string x6, .string x7, .string x8]) (results_cell_row rfl _ _ w.heap.size 64 #[.string x1, .int .i64 x2, .slice A2 x3.length c2, .int .i64 x4, .int .i64 x5, .string x6, .string x7, .string x8] (0, 0) _ rfl BF.out Tryz.underlying64 rfl (by kernel_rfl)) rfl ?_
  exact .inl ⟨(x1, x2, x3, x4, x5, x6, x7, x8), l8, _, by simp only [dRule, dPair, HD1.out, HD2.out, HD3.out, HD4.out, HD5.out, HD6.out, HD7.out, HD8.out, Option.bind_some, Option.map_some, Option.bind_none, Option.map_none], rfl, ⟨_, mkMRule (x1, x2, x3, x4, x5, x6, x7, x8) (made_only R2.out B8.out (by decide) OF.out), rfl⟩, S8.out.keeps KF.out (LF.out.mono HSZ.out), T8.out.then LF.out⟩
set_option maxRecDepth 100000 in
set_option maxHeartbeats 16000000 in
theorem rr_command {w0 w : World} {g : Nat} {B l0 : Bs} (hS : RAt w0 w g B l0) :
    Calls Tryz.prog 69 #[.pointer (some ⟨g, 0, none⟩)] w (RDone dCommand (fun x v w' => ∃ cs, kCommand.M w' w.heap.size (fun _ => True) x cs ∧ v = .agg cs.toArray) w0 g w B l0) := by
  have hb0 : Below w.heap.size w (w.alloc (.cells #[.int .i64 0, .string ⟨#[]⟩, .string ⟨#[]⟩, .string ⟨#[]⟩, .string ⟨#[]⟩, .string ⟨#[]⟩, .slice none 0 0, .string ⟨#[]⟩, .int .i64 0, .slice none 0 0, .int .i64 0, .int .i64 0, .string ⟨#[]⟩, .string ⟨#[]⟩, .string ⟨#[]⟩, .int .i64 0, .bool false] 67)) := (Below.refl _ _).alloc (Nat.le_refl _) _
  have hx0 := blk_new w (.cells #[.int .i64 0, .string ⟨#[]⟩, .string ⟨#[]⟩, .string ⟨#[]⟩, .string ⟨#[]⟩, .string ⟨#[]⟩, .slice none 0 0, .string ⟨#[]⟩, .int .i64 0, .slice none 0 0, .int .i64 0, .int .i64 0, .string ⟨#[]⟩, .string ⟨#[]⟩, .string ⟨#[]⟩, .int .i64 0, .bool false] 67)
  obtain ⟨W0, hW0⟩ : ∃ W0, w.alloc (.cells #[.int .i64 0, .string ⟨#[]⟩, .string ⟨#[]⟩, .string ⟨#[]⟩, .string ⟨#[]⟩, .string ⟨#[]⟩, .slice none 0 0, .string ⟨#[]⟩, .int .i64 0, .slice none 0 0, .int .i64 0, .int .i64 0, .string ⟨#[]⟩, .string ⟨#[]⟩, .string ⟨#[]⟩, .int .i64 0, .bool false] 67) = W0 := ⟨_, rfl⟩
  rw [hW0] at hb0 hx0
  have HSZ := Lib.hid hS.below.size
  have S0 := Lib.hid (hS.keeps (Keeps.below hb0) (hb0.mono hS.below.size))
  have B0 := Lib.hid hx0
  have T0 := Lib.hid (Stp.below (S := SR) hb0)
  have HW := Lib.hid hW0
  clear hb0 hx0 hW0 hS
  go_enter Tryz.func69, Tryz.ntmps69
  go_wp2_with fail
  rw [HW.out]
  clear HW
  refine (rr_number S0.out).mono ?_
  rintro e y1 (⟨x1, l1, u, hd, rfl, rfl, S', T'⟩ | ⟨hd, rfl, hbe, T'⟩)
  rotate_left
  · exact ⟨rfl, .inr ⟨by simp only [dCommand, dPair, hd, Option.bind_some, Option.map_some, Option.bind_none, Option.map_none], rfl, hbe, T0.out.trans T'⟩⟩
  have hbx := T'.keep B0.out (by decide)
  have q := cell_blk hbx 0 _ rfl
  have f := frozen_at hbx 0
  obtain ⟨w1, hw, hbx2, hkp, hbl, hot⟩ := own_store hbx (by decide) 0 (.int .i64 x1)
  have hbx3 : w1.heap[w.heap.size]? = some (.cells #[.int .i64 x1, .string ⟨#[]⟩, .string ⟨#[]⟩, .string ⟨#[]⟩, .string ⟨#[]⟩, .string ⟨#[]⟩, .slice none 0 0, .string ⟨#[]⟩, .int .i64 0, .slice none 0 0, .int .i64 0, .int .i64 0, .string ⟨#[]⟩, .string ⟨#[]⟩, .string ⟨#[]⟩, .int .i64 0, .bool false] 67 (0, 0)) := hbx2
  have hbl' := hbl w.heap.size (Nat.le_refl _)
  have S1 := Lib.hid (S'.keeps hkp (hbl'.mono HSZ.out))
  have T1 := Lib.hid ((T0.out.trans T').then hbl')
  have B1 := Lib.hid hbx3
  have HD1 := Lib.hid hd
  have HV := Lib.hid hw
  clear hd hw hbx hbx2 hbx3 hkp hbl hbl' hot S' T' S0 T0 B0
  go_wp2_with fail
  first | rw [HV.out] | (erw [HV.out])
  clear HV q f
  refine (rr_text S1.out).mono ?_
  rintro e y2 (⟨x2, l2, u, hd, rfl, rfl, S', T'⟩ | ⟨hd, rfl, hbe, T'⟩)
  rotate_left
  · exact ⟨rfl, .inr ⟨by simp only [dCommand, dPair, HD1.out, hd, Option.bind_some, Option.map_some, Option.bind_none, Option.map_none], rfl, hbe, T1.out.trans T'⟩⟩
  have hbx := T'.keep B1.out (by decide)
  have q := cell_blk hbx 1 _ rfl
  have f := frozen_at hbx 1
  obtain ⟨w2, hw, hbx2, hkp, hbl, hot⟩ := own_store hbx (by decide) 1 (.string x2)
  have hbx3 : w2.heap[w.heap.size]? = some (.cells #[.int .i64 x1, .string x2, .string ⟨#[]⟩, .string ⟨#[]⟩, .string ⟨#[]⟩, .string ⟨#[]⟩, .slice none 0 0, .string ⟨#[]⟩, .int .i64 0, .slice none 0 0, .int .i64 0, .int .i64 0, .string ⟨#[]⟩, .string ⟨#[]⟩, .string ⟨#[]⟩, .int .i64 0, .bool false] 67 (0, 0)) := hbx2
  have hbl' := hbl w.heap.size (Nat.le_refl _)
  have S2 := Lib.hid (S'.keeps hkp (hbl'.mono HSZ.out))
  have T2 := Lib.hid ((T1.out.trans T').then hbl')
  have B2 := Lib.hid hbx3
  have HD2 := Lib.hid hd
  have HV := Lib.hid hw
  clear hd hw hbx hbx2 hbx3 hkp hbl hbl' hot S' T' S1 T1 B1
  go_wp2_with fail
  first | rw [HV.out] | (erw [HV.out])
  clear HV q f
  refine (rr_text S2.out).mono ?_
  rintro e y3 (⟨x3, l3, u, hd, rfl, rfl, S', T'⟩ | ⟨hd, rfl, hbe, T'⟩)
  rotate_left
  · exact ⟨rfl, .inr ⟨by simp only [dCommand, dPair, HD1.out, HD2.out, hd, Option.bind_some, Option.map_some, Option.bind_none, Option.map_none], rfl, hbe, T2.out.trans T'⟩⟩
  have hbx := T'.keep B2.out (by decide)
  have q := cell_blk hbx 2 _ rfl
  have f := frozen_at hbx 2
  obtain ⟨w3, hw, hbx2, hkp, hbl, hot⟩ := own_store hbx (by decide) 2 (.string x3)
  have hbx3 : w3.heap[w.heap.size]? = some (.cells #[.int .i64 x1, .string x2, .string x3, .string ⟨#[]⟩, .string ⟨#[]⟩, .string ⟨#[]⟩, .slice none 0 0, .string ⟨#[]⟩, .int .i64 0, .slice none 0 0, .int .i64 0, .int .i64 0, .string ⟨#[]⟩, .string ⟨#[]⟩, .string ⟨#[]⟩, .int .i64 0, .bool false] 67 (0, 0)) := hbx2
  have hbl' := hbl w.heap.size (Nat.le_refl _)
  have S3 := Lib.hid (S'.keeps hkp (hbl'.mono HSZ.out))
  have T3 := Lib.hid ((T2.out.trans T').then hbl')
  have B3 := Lib.hid hbx3
  have HD3 := Lib.hid hd
  have HV := Lib.hid hw
  clear hd hw hbx hbx2 hbx3 hkp hbl hbl' hot S' T' S2 T2 B2
  go_wp2_with fail
  first | rw [HV.out] | (erw [HV.out])
  clear HV q f
  refine (rr_text S3.out).mono ?_
  rintro e y4 (⟨x4, l4, u, hd, rfl, rfl, S', T'⟩ | ⟨hd, rfl, hbe, T'⟩)
  rotate_left
  · exact ⟨rfl, .inr ⟨by simp only [dCommand, dPair, HD1.out, HD2.out, HD3.out, hd, Option.bind_some, Option.map_some, Option.bind_none, Option.map_none], rfl, hbe, T3.out.trans T'⟩⟩
  have hbx := T'.keep B3.out (by decide)
  have q := cell_blk hbx 3 _ rfl
  have f := frozen_at hbx 3
  obtain ⟨w4, hw, hbx2, hkp, hbl, hot⟩ := own_store hbx (by decide) 3 (.string x4)
  have hbx3 : w4.heap[w.heap.size]? = some (.cells #[.int .i64 x1, .string x2, .string x3, .string x4, .string ⟨#[]⟩, .string ⟨#[]⟩, .slice none 0 0, .string ⟨#[]⟩, .int .i64 0, .slice none 0 0, .int .i64 0, .int .i64 0, .string ⟨#[]⟩, .string ⟨#[]⟩, .string ⟨#[]⟩, .int .i64 0, .bool false] 67 (0, 0)) := hbx2
  have hbl' := hbl w.heap.size (Nat.le_refl _)
  have S4 := Lib.hid (S'.keeps hkp (hbl'.mono HSZ.out))
  have T4 := Lib.hid ((T3.out.trans T').then hbl')
  have B4 := Lib.hid hbx3
  have HD4 := Lib.hid hd
  have HV := Lib.hid hw
  clear hd hw hbx hbx2 hbx3 hkp hbl hbl' hot S' T' S3 T3 B3
  go_wp2_with fail
  first | rw [HV.out] | (erw [HV.out])
  clear HV q f
  refine (rr_text S4.out).mono ?_
  rintro e y5 (⟨x5, l5, u, hd, rfl, rfl, S', T'⟩ | ⟨hd, rfl, hbe, T'⟩)
  rotate_left
  · exact ⟨rfl, .inr ⟨by simp only [dCommand, dPair, HD1.out, HD2.out, HD3.out, HD4.out, hd, Option.bind_some, Option.map_some, Option.bind_none, Option.map_none], rfl, hbe, T4.out.trans T'⟩⟩
  have hbx := T'.keep B4.out (by decide)
  have q := cell_blk hbx 4 _ rfl
  have f := frozen_at hbx 4
  obtain ⟨w5, hw, hbx2, hkp, hbl, hot⟩ := own_store hbx (by decide) 4 (.string x5)
  have hbx3 : w5.heap[w.heap.size]? = some (.cells #[.int .i64 x1, .string x2, .string x3, .string x4, .string x5, .string ⟨#[]⟩, .slice none 0 0, .string ⟨#[]⟩, .int .i64 0, .slice none 0 0, .int .i64 0, .int .i64 0, .string ⟨#[]⟩, .string ⟨#[]⟩, .string ⟨#[]⟩, .int .i64 0, .bool false] 67 (0, 0)) := hbx2
  have hbl' := hbl w.heap.size (Nat.le_refl _)
  have S5 := Lib.hid (S'.keeps hkp (hbl'.mono HSZ.out))
  have T5 := Lib.hid ((T4.out.trans T').then hbl')
  have B5 := Lib.hid hbx3
  have HD5 := Lib.hid hd
  have HV := Lib.hid hw
  clear hd hw hbx hbx2 hbx3 hkp hbl hbl' hot S' T' S4 T4 B4
  go_wp2_with fail
  first | rw [HV.out] | (erw [HV.out])
  clear HV q f
  refine (rr_text S5.out).mono ?_
  rintro e y6 (⟨x6, l6, u, hd, rfl, rfl, S', T'⟩ | ⟨hd, rfl, hbe, T'⟩)
  rotate_left
  · exact ⟨rfl, .inr ⟨by simp only [dCommand, dPair, HD1.out, HD2.out, HD3.out, HD4.out, HD5.out, hd, Option.bind_some, Option.map_some, Option.bind_none, Option.map_none], rfl, hbe, T5.out.trans T'⟩⟩
  have hbx := T'.keep B5.out (by decide)
  have q := cell_blk hbx 5 _ rfl
  have f := frozen_at hbx 5
  obtain ⟨w6, hw, hbx2, hkp, hbl, hot⟩ := own_store hbx (by decide) 5 (.string x6)
  have hbx3 : w6.heap[w.heap.size]? = some (.cells #[.int .i64 x1, .string x2, .string x3, .string x4, .string x5, .string x6, .slice none 0 0, .string ⟨#[]⟩, .int .i64 0, .slice none 0 0, .int .i64 0, .int .i64 0, .string ⟨#[]⟩, .string ⟨#[]⟩, .string ⟨#[]⟩, .int .i64 0, .bool false] 67 (0, 0)) := hbx2
  have hbl' := hbl w.heap.size (Nat.le_refl _)
  have S6 := Lib.hid (S'.keeps hkp (hbl'.mono HSZ.out))
  have T6 := Lib.hid ((T5.out.trans T').then hbl')
  have B6 := Lib.hid hbx3
  have HD6 := Lib.hid hd
  have HV := Lib.hid hw
  clear hd hw hbx hbx2 hbx3 hkp hbl hbl' hot S' T' S5 T5 B5
  go_wp2_with fail
  first | rw [HV.out] | (erw [HV.out])
  clear HV q f
  refine (rr_few_Column S6.out).mono ?_
  rintro e y7 (⟨x7, l7, u, hd, rfl, hR, S', T'⟩ | ⟨hd, rfl, hbe, T'⟩)
  rotate_left
  · exact ⟨rfl, .inr ⟨by simp only [dCommand, dPair, HD1.out, HD2.out, HD3.out, HD4.out, HD5.out, HD6.out, hd, Option.bind_some, Option.map_some, Option.bind_none, Option.map_none], rfl, hbe, T6.out.trans T'⟩⟩
  have hbx := T'.keep B6.out (by decide)
  obtain ⟨A6, c6, hu, _, _⟩ := Kd.R_reads hR
  subst hu
  have R6' := Kd.R_lower hR T6.out.size
  clear hR
  have q := cell_blk hbx 6 _ rfl
  have f := frozen_at hbx 6
  obtain ⟨w7, hw, hbx2, hkp, hbl, hot⟩ := own_store hbx (by decide) 6 (.slice A6 x7.length c6)
  have hbx3 : w7.heap[w.heap.size]? = some (.cells #[.int .i64 x1, .string x2, .string x3, .string x4, .string x5, .string x6, .slice A6 x7.length c6, .string ⟨#[]⟩, .int .i64 0, .slice none 0 0, .int .i64 0, .int .i64 0, .string ⟨#[]⟩, .string ⟨#[]⟩, .string ⟨#[]⟩, .int .i64 0, .bool false] 67 (0, 0)) := hbx2
  have hbl' := hbl w.heap.size (Nat.le_refl _)
  have S7 := Lib.hid (S'.keeps hkp (hbl'.mono HSZ.out))
  have T7 := Lib.hid ((T6.out.trans T').then hbl')
  have B7 := Lib.hid hbx3
  have R6'' := made_only R6' hbx (by decide) hot
  have R6 := Lib.hid R6''
  clear R6' R6''
  have HD7 := Lib.hid hd
  have HV := Lib.hid hw
  clear hd hw hbx hbx2 hbx3 hkp hbl hbl' hot S' T' S6 T6 B6
  go_wp2_with fail
  first | rw [HV.out] | (erw [HV.out])
  clear HV q f
  refine (rr_rule S7.out).mono ?_
  rintro e y8 (⟨x8, l8, u, hd, rfl, ⟨cs, hM, rfl⟩, S', T'⟩ | ⟨hd, rfl, hbe, T'⟩)
  rotate_left
  · exact ⟨rfl, .inr ⟨by simp only [dCommand, dPair, HD1.out, HD2.out, HD3.out, HD4.out, HD5.out, HD6.out, HD7.out, hd, Option.bind_some, Option.map_some, Option.bind_none, Option.map_none], rfl, hbe, T7.out.trans T'⟩⟩
  have hbx := T'.keep B7.out (by decide)
  have R6' := T'.R R6.out (by decide)
  have hone := all_oneCell_toArray (kRule.K_one (kRule.K_of_M hM))
  obtain ⟨v9, rfl, hR9⟩ := openMRule hM
  have R9' := Kd.R_lower hR9 T7.out.size
  clear hR9
  have hth := there_blk [.int .i64 x1, .string x2, .string x3, .string x4, .string x5, .string x6, .slice A6 x7.length c6] [.string ⟨#[]⟩, .int .i64 0, .slice none 0 0, .int .i64 0, .int .i64 0, .string ⟨#[]⟩, .string ⟨#[]⟩, .string ⟨#[]⟩] [.int .i64 0, .bool false] hbx
  obtain ⟨w8, hw, hbx2, hkp, hbl, hot⟩ := own_stores [.int .i64 x1, .string x2, .string x3, .string x4, .string x5, .string x6, .slice A6 x7.length c6] [.string ⟨#[]⟩, .int .i64 0, .slice none 0 0, .int .i64 0, .int .i64 0, .string ⟨#[]⟩, .string ⟨#[]⟩, .string ⟨#[]⟩] [.string x8.1, .int .i64 x8.2.1, v9, .int .i64 x8.2.2.2.1, .int .i64 x8.2.2.2.2.1, .string x8.2.2.2.2.2.1, .string x8.2.2.2.2.2.2.1, .string x8.2.2.2.2.2.2.2] [.int .i64 0, .bool false] hbx (by decide) rfl
  have hbx3 : w8.heap[w.heap.size]? = some (.cells #[.int .i64 x1, .string x2, .string x3, .string x4, .string x5, .string x6, .slice A6 x7.length c6, .string x8.1, .int .i64 x8.2.1, v9, .int .i64 x8.2.2.2.1, .int .i64 x8.2.2.2.2.1, .string x8.2.2.2.2.2.1, .string x8.2.2.2.2.2.2.1, .string x8.2.2.2.2.2.2.2, .int .i64 0, .bool false] 67 (0, 0)) := hbx2
  have hbl' := hbl w.heap.size (Nat.le_refl _)
  have S8 := Lib.hid (S'.keeps hkp (hbl'.mono HSZ.out))
  have T8 := Lib.hid ((T7.out.trans T').then hbl')
  have B8 := Lib.hid hbx3
  have R6'' := made_only R6' hbx (by decide) hot
  have R9'' := made_only R9' hbx (by decide) hot
  clear R6
  have R6 := Lib.hid R6''
  clear R6' R6''
  have R9 := Lib.hid R9''
  clear R9' R9''
  have HD8 := Lib.hid hd
  have HV := Lib.hid hw
  have HTH := Lib.hid hth
  have HON := Lib.hid hone
  clear hd hw hbx hbx2 hbx3 hkp hbl hbl' hot hth hone hM S' T' S7 T7 B7
  go_wp2_with (((with_reducible refine gate_store (t := 64) rfl ?_); refine wpList_store_mid rfl 64 _ _ rfl w.heap.size 7 #[.string x8.1, .int .i64 x8.2.1, v9, .int .i64 x8.2.2.2.1, .int .i64 x8.2.2.2.2.1, .string x8.2.2.2.2.2.1, .string x8.2.2.2.2.2.2.1, .string x8.2.2.2.2.2.2.2] rfl rfl HTH.out (by kernel_rfl) HON.out ?_))
  first | rw [HV.out] | (erw [HV.out])
  clear HV HTH HON
  refine (rr_number S8.out).mono ?_
  rintro e y9 (⟨x9, l9, u, hd, rfl, rfl, S', T'⟩ | ⟨hd, rfl, hbe, T'⟩)
  rotate_left
  · exact ⟨rfl, .inr ⟨by simp only [dCommand, dPair, HD1.out, HD2.out, HD3.out, HD4.out, HD5.out, HD6.out, HD7.out, HD8.out, hd, Option.bind_some, Option.map_some, Option.bind_none, Option.map_none], rfl, hbe, T8.out.trans T'⟩⟩
  have hbx := T'.keep B8.out (by decide)
  have R6' := T'.R R6.out (by decide)
  have R9' := T'.R R9.out (by decide)
  have q := cell_blk hbx 15 _ rfl
  have f := frozen_at hbx 15
  obtain ⟨w9, hw, hbx2, hkp, hbl, hot⟩ := own_store hbx (by decide) 15 (.int .i64 x9)
  have hbx3 : w9.heap[w.heap.size]? = some (.cells #[.int .i64 x1, .string x2, .string x3, .string x4, .string x5, .string x6, .slice A6 x7.length c6, .string x8.1, .int .i64 x8.2.1, v9, .int .i64 x8.2.2.2.1, .int .i64 x8.2.2.2.2.1, .string x8.2.2.2.2.2.1, .string x8.2.2.2.2.2.2.1, .string x8.2.2.2.2.2.2.2, .int .i64 x9, .bool false] 67 (0, 0)) := hbx2
  have hbl' := hbl w.heap.size (Nat.le_refl _)
  have S9 := Lib.hid (S'.keeps hkp (hbl'.mono HSZ.out))
  have T9 := Lib.hid ((T8.out.trans T').then hbl')
  have B9 := Lib.hid hbx3
  have R6'' := made_only R6' hbx (by decide) hot
  have R9'' := made_only R9' hbx (by decide) hot
  clear R6 R9
  have R6 := Lib.hid R6''
  clear R6' R6''
  have R9 := Lib.hid R9''
  clear R9' R9''
  have HD9 := Lib.hid hd
  have HV := Lib.hid hw
  clear hd hw hbx hbx2 hbx3 hkp hbl hbl' hot S' T' S8 T8 B8
  go_wp2_with fail
  first | rw [HV.out] | (erw [HV.out])
  clear HV q f
  refine (rr_flag S9.out).mono ?_
  rintro e y10 (⟨x10, l10, u, hd, rfl, rfl, S', T'⟩ | ⟨hd, rfl, hbe, T'⟩)
  rotate_left
  · exact ⟨rfl, .inr ⟨by simp only [dCommand, dPair, HD1.out, HD2.out, HD3.out, HD4.out, HD5.out, HD6.out, HD7.out, HD8.out, HD9.out, hd, Option.bind_some, Option.map_some, Option.bind_none, Option.map_none], rfl, hbe, T9.out.trans T'⟩⟩
  have hbx := T'.keep B9.out (by decide)
  have R6' := T'.R R6.out (by decide)
  have R9' := T'.R R9.out (by decide)
  have q := cell_blk hbx 16 _ rfl
  have f := frozen_at hbx 16
  obtain ⟨w10, hw, hbx2, hkp, hbl, hot⟩ := own_store hbx (by decide) 16 (.bool x10)
  have hbx3 : w10.heap[w.heap.size]? = some (.cells #[.int .i64 x1, .string x2, .string x3, .string x4, .string x5, .string x6, .slice A6 x7.length c6, .string x8.1, .int .i64 x8.2.1, v9, .int .i64 x8.2.2.2.1, .int .i64 x8.2.2.2.2.1, .string x8.2.2.2.2.2.1, .string x8.2.2.2.2.2.2.1, .string x8.2.2.2.2.2.2.2, .int .i64 x9, .bool x10] 67 (0, 0)) := hbx2
  have hbl' := hbl w.heap.size (Nat.le_refl _)
  have S10 := Lib.hid (S'.keeps hkp (hbl'.mono HSZ.out))
  have T10 := Lib.hid ((T9.out.trans T').then hbl')
  have B10 := Lib.hid hbx3
  have R6'' := made_only R6' hbx (by decide) hot
  have R9'' := made_only R9' hbx (by decide) hot
  clear R6 R9
  have R6 := Lib.hid R6''
  clear R6' R6''
  have R9 := Lib.hid R9''
  clear R9' R9''
  have HD10 := Lib.hid hd
  have HV := Lib.hid hw
  clear hd hw hbx hbx2 hbx3 hkp hbl hbl' hot S' T' S9 T9 B9
  have HM := Lib.hid (mkMCommand (w := w10) (base := w.heap.size) (ok := fun _ => True) (x1, x2, x3, x4, x5, x6, x7, x8, x9, x10) R6.out R9.out)
  obtain ⟨WF, hWF, hbF, hkF, hblF, hotF⟩ := own_stores [] [.int .i64 x1, .string x2, .string x3, .string x4, .string x5, .string x6, .slice A6 x7.length c6, .string x8.1, .int .i64 x8.2.1, v9, .int .i64 x8.2.2.2.1, .int .i64 x8.2.2.2.2.1, .string x8.2.2.2.2.2.1, .string x8.2.2.2.2.2.2.1, .string x8.2.2.2.2.2.2.2, .int .i64 x9, .bool x10] [.int .i64 x1, .string x2, .string x3, .string x4, .string x5, .string x6, .slice A6 x7.length c6, .string x8.1, .int .i64 x8.2.1, v9, .int .i64 x8.2.2.2.1, .int .i64 x8.2.2.2.2.1, .string x8.2.2.2.2.2.1, .string x8.2.2.2.2.2.2.1, .string x8.2.2.2.2.2.2.2, .int .i64 x9, .bool x10] [] B10.out (by decide) rfl
  have HF := Lib.hid hWF
  have BF := Lib.hid hbF
  have KF := Lib.hid hkF
  have LF := Lib.hid (hblF w.heap.size (Nat.le_refl _))
  have OF := Lib.hid hotF
  clear hWF hbF hkF hblF hotF
  go_wp2_with (first | ((with_reducible refine gate_load (t := 67) rfl ?_); (first | rw [HV.out] | skip); refine wpList_load_mid rfl 67 _ rfl w.heap.size 0 rfl [.int .i64 x1, .string x2, .string x3, .string x4, .string x5, .string x6, .slice A6 x7.length c6, .string x8.1, .int .i64 x8.2.1, v9, .int .i64 x8.2.2.2.1, .int .i64 x8.2.2.2.2.1, .string x8.2.2.2.2.2.1, .string x8.2.2.2.2.2.2.1, .string x8.2.2.2.2.2.2.2, .int .i64 x9, .bool x10] _ (range_blk [] [.int .i64 x1, .string x2, .string x3, .string x4, .string x5, .string x6, .slice A6 x7.length c6, .string x8.1, .int .i64 x8.2.1, v9, .int .i64 x8.2.2.2.1, .int .i64 x8.2.2.2.2.1, .string x8.2.2.2.2.2.1, .string x8.2.2.2.2.2.2.1, .string x8.2.2.2.2.2.2.2, .int .i64 x9, .bool x10] [] B10.out) Tryz.underlying67 rfl (by kernel_rfl) ?_) | ((with_reducible refine gate_store (t := 67) rfl ?_); refine wpList_store_mid rfl 67 _ _ rfl w.heap.size 0 #[.int .i64 x1, .string x2, .string x3, .string x4, .string x5, .string x6, .slice A6 x7.length c6, .string x8.1, .int .i64 x8.2.1, v9, .int .i64 x8.2.2.2.1, .int .i64 x8.2.2.2.2.1, .string x8.2.2.2.2.2.1, .string x8.2.2.2.2.2.2.1, .string x8.2.2.2.2.2.2.2, .int .i64 x9, .bool x10] rfl rfl (there_blk [] [.int .i64 x1, .string x2, .string x3, .string x4, .string x5, .string x6, .slice A6 x7.length c6, .string x8.1, .int .i64 x8.2.1, v9, .int .i64 x8.2.2.2.1, .int .i64 x8.2.2.2.2.1, .string x8.2.2.2.2.2.1, .string x8.2.2.2.2.2.2.1, .string x8.2.2.2.2.2.2.2, .int .i64 x9, .bool x10] [] B10.out) (by kernel_rfl) (all_oneCell_toArray (kCommand.K_one (kCommand.K_of_M HM.out))) ?_))
  first | rw [HF.out] | (erw [HF.out])
  refine bodyPost_ret (v := .agg #[.int .i64 x1, .string x2, .string x3, .string x4, .string x5, .string x6, .slice A6 x7.length c6, .string x8.1, .int .i64 x8.2.1, v9, .int .i64 x8.2.2.2.1, .int .i64 x8.2.2.2.2.1, .string x8.2.2.2.2.2.1, .string x8.2.2.2.2.2.2.1, .string x8.2.2.2.2.2.2.2, .int .i64 x9, .bool x10]) (results_cell_row rfl _ _ w.heap.size 67 #[.int .i64 x1, .string x2, .string x3, .string x4, .string x5, .string x6, .slice A6 x7.length c6, .string x8.1, .int .i64 x8.2.1, v9, .int .i64 x8.2.2.2.1, .int .i64 x8.2.2.2.2.1, .string x8.2.2.2.2.2.1, .string x8.2.2.2.2.2.2.1, .string x8.2.2.2.2.2.2.2, .int .i64 x9, .bool x10] (0, 0) _ rfl BF.out Tryz.underlying67 rfl (by kernel_rfl)) rfl ?_
  exact .inl ⟨(x1, x2, x3, x4, x5, x6, x7, x8, x9, x10), l10, _, by simp only [dCommand, dPair, HD1.out, HD2.out, HD3.out, HD4.out, HD5.out, HD6.out, HD7.out, HD8.out, HD9.out, HD10.out, Option.bind_some, Option.map_some, Option.bind_none, Option.map_none], rfl, ⟨_, mkMCommand (x1, x2, x3, x4, x5, x6, x7, x8, x9, x10) (made_only R6.out B10.out (by decide) OF.out) (made_only R9.out B10.out (by decide) OF.out), rfl⟩, S10.out.keeps KF.out (LF.out.mono HSZ.out), T10.out.then LF.out⟩
end Go.Proofs.YtoomcdgnnibjlaaGreat.Wr
/- The program's reader. -/
namespace Go.Proofs.YtoomcdgnnibjlaaGreat.Wr
open Go.RowKit Go.Proofs.YtoomcdgnnibjlaaGreatW.PrintWords Go.Proofs.YtoomcdgnnibjlaaGreatW.PrintLast
set_option linter.unusedVariables false
set_option linter.unusedSimpArgs false

set_option maxRecDepth 100000 in
set_option maxHeartbeats 16000000 in
theorem rr_op {w0 w : World} {g : Nat} {B l0 : Bs} (hS : RAt w0 w g B l0) :
    Calls Tryz.prog 41 #[.pointer (some ⟨g, 0, none⟩)] w (RDone dOp (fun x v w' => ∃ cs, kOp.M w' w.heap.size (fun _ => True) x cs ∧ v = .agg cs.toArray) w0 g w B l0) := by
  have hb0 : Below w.heap.size w (w.alloc (.cells #[.int .i64 0, .int .i64 0, .int .i64 0, .int .i64 0, .string ⟨#[]⟩, .string ⟨#[]⟩, .string ⟨#[]⟩, .string ⟨#[]⟩, .string ⟨#[]⟩, .slice none 0 0, .string ⟨#[]⟩, .int .i64 0, .slice none 0 0, .int .i64 0, .int .i64 0, .string ⟨#[]⟩, .string ⟨#[]⟩, .string ⟨#[]⟩, .int .i64 0, .bool false, .int .i64 0, .int .i64 0, .int .i64 0] 69)) := (Below.refl _ _).alloc (Nat.le_refl _) _
  have hx0 := blk_new w (.cells #[.int .i64 0, .int .i64 0, .int .i64 0, .int .i64 0, .string ⟨#[]⟩, .string ⟨#[]⟩, .string ⟨#[]⟩, .string ⟨#[]⟩, .string ⟨#[]⟩, .slice none 0 0, .string ⟨#[]⟩, .int .i64 0, .slice none 0 0, .int .i64 0, .int .i64 0, .string ⟨#[]⟩, .string ⟨#[]⟩, .string ⟨#[]⟩, .int .i64 0, .bool false, .int .i64 0, .int .i64 0, .int .i64 0] 69)
  obtain ⟨W0, hW0⟩ : ∃ W0, w.alloc (.cells #[.int .i64 0, .int .i64 0, .int .i64 0, .int .i64 0, .string ⟨#[]⟩, .string ⟨#[]⟩, .string ⟨#[]⟩, .string ⟨#[]⟩, .string ⟨#[]⟩, .slice none 0 0, .string ⟨#[]⟩, .int .i64 0, .slice none 0 0, .int .i64 0, .int .i64 0, .string ⟨#[]⟩, .string ⟨#[]⟩, .string ⟨#[]⟩, .int .i64 0, .bool false, .int .i64 0, .int .i64 0, .int .i64 0] 69) = W0 := ⟨_, rfl⟩
  rw [hW0] at hb0 hx0
  have HSZ := Lib.hid hS.below.size
  have S0 := Lib.hid (hS.keeps (Keeps.below hb0) (hb0.mono hS.below.size))
  have B0 := Lib.hid hx0
  have T0 := Lib.hid (Stp.below (S := SR) hb0)
  have HW := Lib.hid hW0
  clear hb0 hx0 hW0 hS
  go_enter Tryz.func41, Tryz.ntmps41
  go_wp2_with fail
  rw [HW.out]
  clear HW
  refine (rr_number S0.out).mono ?_
  rintro e y1 (⟨x1, l1, u, hd, rfl, rfl, S', T'⟩ | ⟨hd, rfl, hbe, T'⟩)
  rotate_left
  · exact ⟨rfl, .inr ⟨by simp only [dOp, dPair, hd, Option.bind_some, Option.map_some, Option.bind_none, Option.map_none], rfl, hbe, T0.out.trans T'⟩⟩
  have hbx := T'.keep B0.out (by decide)
  have q := cell_blk hbx 0 _ rfl
  have f := frozen_at hbx 0
  obtain ⟨w1, hw, hbx2, hkp, hbl, hot⟩ := own_store hbx (by decide) 0 (.int .i64 x1)
  have hbx3 : w1.heap[w.heap.size]? = some (.cells #[.int .i64 x1, .int .i64 0, .int .i64 0, .int .i64 0, .string ⟨#[]⟩, .string ⟨#[]⟩, .string ⟨#[]⟩, .string ⟨#[]⟩, .string ⟨#[]⟩, .slice none 0 0, .string ⟨#[]⟩, .int .i64 0, .slice none 0 0, .int .i64 0, .int .i64 0, .string ⟨#[]⟩, .string ⟨#[]⟩, .string ⟨#[]⟩, .int .i64 0, .bool false, .int .i64 0, .int .i64 0, .int .i64 0] 69 (0, 0)) := hbx2
  have hbl' := hbl w.heap.size (Nat.le_refl _)
  have S1 := Lib.hid (S'.keeps hkp (hbl'.mono HSZ.out))
  have T1 := Lib.hid ((T0.out.trans T').then hbl')
  have B1 := Lib.hid hbx3
  have HD1 := Lib.hid hd
  have HV := Lib.hid hw
  clear hd hw hbx hbx2 hbx3 hkp hbl hbl' hot S' T' S0 T0 B0
  go_wp2_with fail
  first | rw [HV.out] | (erw [HV.out])
  clear HV q f
  refine (rr_number S1.out).mono ?_
  rintro e y2 (⟨x2, l2, u, hd, rfl, rfl, S', T'⟩ | ⟨hd, rfl, hbe, T'⟩)
  rotate_left
  · exact ⟨rfl, .inr ⟨by simp only [dOp, dPair, HD1.out, hd, Option.bind_some, Option.map_some, Option.bind_none, Option.map_none], rfl, hbe, T1.out.trans T'⟩⟩
  have hbx := T'.keep B1.out (by decide)
  have q := cell_blk hbx 1 _ rfl
  have f := frozen_at hbx 1
  obtain ⟨w2, hw, hbx2, hkp, hbl, hot⟩ := own_store hbx (by decide) 1 (.int .i64 x2)
  have hbx3 : w2.heap[w.heap.size]? = some (.cells #[.int .i64 x1, .int .i64 x2, .int .i64 0, .int .i64 0, .string ⟨#[]⟩, .string ⟨#[]⟩, .string ⟨#[]⟩, .string ⟨#[]⟩, .string ⟨#[]⟩, .slice none 0 0, .string ⟨#[]⟩, .int .i64 0, .slice none 0 0, .int .i64 0, .int .i64 0, .string ⟨#[]⟩, .string ⟨#[]⟩, .string ⟨#[]⟩, .int .i64 0, .bool false, .int .i64 0, .int .i64 0, .int .i64 0] 69 (0, 0)) := hbx2
  have hbl' := hbl w.heap.size (Nat.le_refl _)
  have S2 := Lib.hid (S'.keeps hkp (hbl'.mono HSZ.out))
  have T2 := Lib.hid ((T1.out.trans T').then hbl')
  have B2 := Lib.hid hbx3
  have HD2 := Lib.hid hd
  have HV := Lib.hid hw
  clear hd hw hbx hbx2 hbx3 hkp hbl hbl' hot S' T' S1 T1 B1
  go_wp2_with fail
  first | rw [HV.out] | (erw [HV.out])
  clear HV q f
  refine (rr_number S2.out).mono ?_
  rintro e y3 (⟨x3, l3, u, hd, rfl, rfl, S', T'⟩ | ⟨hd, rfl, hbe, T'⟩)
  rotate_left
  · exact ⟨rfl, .inr ⟨by simp only [dOp, dPair, HD1.out, HD2.out, hd, Option.bind_some, Option.map_some, Option.bind_none, Option.map_none], rfl, hbe, T2.out.trans T'⟩⟩
  have hbx := T'.keep B2.out (by decide)
  have q := cell_blk hbx 2 _ rfl
  have f := frozen_at hbx 2
  obtain ⟨w3, hw, hbx2, hkp, hbl, hot⟩ := own_store hbx (by decide) 2 (.int .i64 x3)
  have hbx3 : w3.heap[w.heap.size]? = some (.cells #[.int .i64 x1, .int .i64 x2, .int .i64 x3, .int .i64 0, .string ⟨#[]⟩, .string ⟨#[]⟩, .string ⟨#[]⟩, .string ⟨#[]⟩, .string ⟨#[]⟩, .slice none 0 0, .string ⟨#[]⟩, .int .i64 0, .slice none 0 0, .int .i64 0, .int .i64 0, .string ⟨#[]⟩, .string ⟨#[]⟩, .string ⟨#[]⟩, .int .i64 0, .bool false, .int .i64 0, .int .i64 0, .int .i64 0] 69 (0, 0)) := hbx2
  have hbl' := hbl w.heap.size (Nat.le_refl _)
  have S3 := Lib.hid (S'.keeps hkp (hbl'.mono HSZ.out))
  have T3 := Lib.hid ((T2.out.trans T').then hbl')
  have B3 := Lib.hid hbx3
  have HD3 := Lib.hid hd
  have HV := Lib.hid hw
  clear hd hw hbx hbx2 hbx3 hkp hbl hbl' hot S' T' S2 T2 B2
  go_wp2_with fail
  first | rw [HV.out] | (erw [HV.out])
  clear HV q f
  refine (rr_command S3.out).mono ?_
  rintro e y4 (⟨x4, l4, u, hd, rfl, ⟨cs, hM, rfl⟩, S', T'⟩ | ⟨hd, rfl, hbe, T'⟩)
  rotate_left
  · exact ⟨rfl, .inr ⟨by simp only [dOp, dPair, HD1.out, HD2.out, HD3.out, hd, Option.bind_some, Option.map_some, Option.bind_none, Option.map_none], rfl, hbe, T3.out.trans T'⟩⟩
  have hbx := T'.keep B3.out (by decide)
  have hone := all_oneCell_toArray (kCommand.K_one (kCommand.K_of_M hM))
  obtain ⟨v9, v12, rfl, hR9, hR12⟩ := openMCommand hM
  have R9' := Kd.R_lower hR9 T3.out.size
  clear hR9
  have R12' := Kd.R_lower hR12 T3.out.size
  clear hR12
  have hth := there_blk [.int .i64 x1, .int .i64 x2, .int .i64 x3] [.int .i64 0, .string ⟨#[]⟩, .string ⟨#[]⟩, .string ⟨#[]⟩, .string ⟨#[]⟩, .string ⟨#[]⟩, .slice none 0 0, .string ⟨#[]⟩, .int .i64 0, .slice none 0 0, .int .i64 0, .int .i64 0, .string ⟨#[]⟩, .string ⟨#[]⟩, .string ⟨#[]⟩, .int .i64 0, .bool false] [.int .i64 0, .int .i64 0, .int .i64 0] hbx
  obtain ⟨w4, hw, hbx2, hkp, hbl, hot⟩ := own_stores [.int .i64 x1, .int .i64 x2, .int .i64 x3] [.int .i64 0, .string ⟨#[]⟩, .string ⟨#[]⟩, .string ⟨#[]⟩, .string ⟨#[]⟩, .string ⟨#[]⟩, .slice none 0 0, .string ⟨#[]⟩, .int .i64 0, .slice none 0 0, .int .i64 0, .int .i64 0, .string ⟨#[]⟩, .string ⟨#[]⟩, .string ⟨#[]⟩, .int .i64 0, .bool false] [.int .i64 x4.1, .string x4.2.1, .string x4.2.2.1, .string x4.2.2.2.1, .string x4.2.2.2.2.1, .string x4.2.2.2.2.2.1, v9, .string x4.2.2.2.2.2.2.2.1.1, .int .i64 x4.2.2.2.2.2.2.2.1.2.1, v12, .int .i64 x4.2.2.2.2.2.2.2.1.2.2.2.1, .int .i64 x4.2.2.2.2.2.2.2.1.2.2.2.2.1, .string x4.2.2.2.2.2.2.2.1.2.2.2.2.2.1, .string x4.2.2.2.2.2.2.2.1.2.2.2.2.2.2.1, .string x4.2.2.2.2.2.2.2.1.2.2.2.2.2.2.2, .int .i64 x4.2.2.2.2.2.2.2.2.1, .bool x4.2.2.2.2.2.2.2.2.2] [.int .i64 0, .int .i64 0, .int .i64 0] hbx (by decide) rfl
  have hbx3 : w4.heap[w.heap.size]? = some (.cells #[.int .i64 x1, .int .i64 x2, .int .i64 x3, .int .i64 x4.1, .string x4.2.1, .string x4.2.2.1, .string x4.2.2.2.1, .string x4.2.2.2.2.1, .string x4.2.2.2.2.2.1, v9, .string x4.2.2.2.2.2.2.2.1.1, .int .i64 x4.2.2.2.2.2.2.2.1.2.1, v12, .int .i64 x4.2.2.2.2.2.2.2.1.2.2.2.1, .int .i64 x4.2.2.2.2.2.2.2.1.2.2.2.2.1, .string x4.2.2.2.2.2.2.2.1.2.2.2.2.2.1, .string x4.2.2.2.2.2.2.2.1.2.2.2.2.2.2.1, .string x4.2.2.2.2.2.2.2.1.2.2.2.2.2.2.2, .int .i64 x4.2.2.2.2.2.2.2.2.1, .bool x4.2.2.2.2.2.2.2.2.2, .int .i64 0, .int .i64 0, .int .i64 0] 69 (0, 0)) := hbx2
  have hbl' := hbl w.heap.size (Nat.le_refl _)
  have S4 := Lib.hid (S'.keeps hkp (hbl'.mono HSZ.out))
  have T4 := Lib.hid ((T3.out.trans T').then hbl')
  have B4 := Lib.hid hbx3
  have R9'' := made_only R9' hbx (by decide) hot
  have R12'' := made_only R12' hbx (by decide) hot
  have R9 := Lib.hid R9''
  clear R9' R9''
  have R12 := Lib.hid R12''
  clear R12' R12''
  have HD4 := Lib.hid hd
  have HV := Lib.hid hw
  have HTH := Lib.hid hth
  have HON := Lib.hid hone
  clear hd hw hbx hbx2 hbx3 hkp hbl hbl' hot hth hone hM S' T' S3 T3 B3
  go_wp2_with (((with_reducible refine gate_store (t := 67) rfl ?_); refine wpList_store_mid rfl 67 _ _ rfl w.heap.size 3 #[.int .i64 x4.1, .string x4.2.1, .string x4.2.2.1, .string x4.2.2.2.1, .string x4.2.2.2.2.1, .string x4.2.2.2.2.2.1, v9, .string x4.2.2.2.2.2.2.2.1.1, .int .i64 x4.2.2.2.2.2.2.2.1.2.1, v12, .int .i64 x4.2.2.2.2.2.2.2.1.2.2.2.1, .int .i64 x4.2.2.2.2.2.2.2.1.2.2.2.2.1, .string x4.2.2.2.2.2.2.2.1.2.2.2.2.2.1, .string x4.2.2.2.2.2.2.2.1.2.2.2.2.2.2.1, .string x4.2.2.2.2.2.2.2.1.2.2.2.2.2.2.2, .int .i64 x4.2.2.2.2.2.2.2.2.1, .bool x4.2.2.2.2.2.2.2.2.2] rfl rfl HTH.out (by kernel_rfl) HON.out ?_))
  first | rw [HV.out] | (erw [HV.out])
  clear HV HTH HON
  refine (rr_number S4.out).mono ?_
  rintro e y5 (⟨x5, l5, u, hd, rfl, rfl, S', T'⟩ | ⟨hd, rfl, hbe, T'⟩)
  rotate_left
  · exact ⟨rfl, .inr ⟨by simp only [dOp, dPair, HD1.out, HD2.out, HD3.out, HD4.out, hd, Option.bind_some, Option.map_some, Option.bind_none, Option.map_none], rfl, hbe, T4.out.trans T'⟩⟩
  have hbx := T'.keep B4.out (by decide)
  have R9' := T'.R R9.out (by decide)
  have R12' := T'.R R12.out (by decide)
  have q := cell_blk hbx 20 _ rfl
  have f := frozen_at hbx 20
  obtain ⟨w5, hw, hbx2, hkp, hbl, hot⟩ := own_store hbx (by decide) 20 (.int .i64 x5)
  have hbx3 : w5.heap[w.heap.size]? = some (.cells #[.int .i64 x1, .int .i64 x2, .int .i64 x3, .int .i64 x4.1, .string x4.2.1, .string x4.2.2.1, .string x4.2.2.2.1, .string x4.2.2.2.2.1, .string x4.2.2.2.2.2.1, v9, .string x4.2.2.2.2.2.2.2.1.1, .int .i64 x4.2.2.2.2.2.2.2.1.2.1, v12, .int .i64 x4.2.2.2.2.2.2.2.1.2.2.2.1, .int .i64 x4.2.2.2.2.2.2.2.1.2.2.2.2.1, .string x4.2.2.2.2.2.2.2.1.2.2.2.2.2.1, .string x4.2.2.2.2.2.2.2.1.2.2.2.2.2.2.1, .string x4.2.2.2.2.2.2.2.1.2.2.2.2.2.2.2, .int .i64 x4.2.2.2.2.2.2.2.2.1, .bool x4.2.2.2.2.2.2.2.2.2, .int .i64 x5, .int .i64 0, .int .i64 0] 69 (0, 0)) := hbx2
  have hbl' := hbl w.heap.size (Nat.le_refl _)
  have S5 := Lib.hid (S'.keeps hkp (hbl'.mono HSZ.out))
  have T5 := Lib.hid ((T4.out.trans T').then hbl')
  have B5 := Lib.hid hbx3
  have R9'' := made_only R9' hbx (by decide) hot
  have R12'' := made_only R12' hbx (by decide) hot
  clear R9 R12
  have R9 := Lib.hid R9''
  clear R9' R9''
  have R12 := Lib.hid R12''
  clear R12' R12''
  have HD5 := Lib.hid hd
  have HV := Lib.hid hw
  clear hd hw hbx hbx2 hbx3 hkp hbl hbl' hot S' T' S4 T4 B4
  go_wp2_with fail
  first | rw [HV.out] | (erw [HV.out])
  clear HV q f
  refine (rr_number S5.out).mono ?_
  rintro e y6 (⟨x6, l6, u, hd, rfl, rfl, S', T'⟩ | ⟨hd, rfl, hbe, T'⟩)
  rotate_left
  · exact ⟨rfl, .inr ⟨by simp only [dOp, dPair, HD1.out, HD2.out, HD3.out, HD4.out, HD5.out, hd, Option.bind_some, Option.map_some, Option.bind_none, Option.map_none], rfl, hbe, T5.out.trans T'⟩⟩
  have hbx := T'.keep B5.out (by decide)
  have R9' := T'.R R9.out (by decide)
  have R12' := T'.R R12.out (by decide)
  have q := cell_blk hbx 21 _ rfl
  have f := frozen_at hbx 21
  obtain ⟨w6, hw, hbx2, hkp, hbl, hot⟩ := own_store hbx (by decide) 21 (.int .i64 x6)
  have hbx3 : w6.heap[w.heap.size]? = some (.cells #[.int .i64 x1, .int .i64 x2, .int .i64 x3, .int .i64 x4.1, .string x4.2.1, .string x4.2.2.1, .string x4.2.2.2.1, .string x4.2.2.2.2.1, .string x4.2.2.2.2.2.1, v9, .string x4.2.2.2.2.2.2.2.1.1, .int .i64 x4.2.2.2.2.2.2.2.1.2.1, v12, .int .i64 x4.2.2.2.2.2.2.2.1.2.2.2.1, .int .i64 x4.2.2.2.2.2.2.2.1.2.2.2.2.1, .string x4.2.2.2.2.2.2.2.1.2.2.2.2.2.1, .string x4.2.2.2.2.2.2.2.1.2.2.2.2.2.2.1, .string x4.2.2.2.2.2.2.2.1.2.2.2.2.2.2.2, .int .i64 x4.2.2.2.2.2.2.2.2.1, .bool x4.2.2.2.2.2.2.2.2.2, .int .i64 x5, .int .i64 x6, .int .i64 0] 69 (0, 0)) := hbx2
  have hbl' := hbl w.heap.size (Nat.le_refl _)
  have S6 := Lib.hid (S'.keeps hkp (hbl'.mono HSZ.out))
  have T6 := Lib.hid ((T5.out.trans T').then hbl')
  have B6 := Lib.hid hbx3
  have R9'' := made_only R9' hbx (by decide) hot
  have R12'' := made_only R12' hbx (by decide) hot
  clear R9 R12
  have R9 := Lib.hid R9''
  clear R9' R9''
  have R12 := Lib.hid R12''
  clear R12' R12''
  have HD6 := Lib.hid hd
  have HV := Lib.hid hw
  clear hd hw hbx hbx2 hbx3 hkp hbl hbl' hot S' T' S5 T5 B5
  go_wp2_with fail
  first | rw [HV.out] | (erw [HV.out])
  clear HV q f
  refine (rr_number S6.out).mono ?_
  rintro e y7 (⟨x7, l7, u, hd, rfl, rfl, S', T'⟩ | ⟨hd, rfl, hbe, T'⟩)
  rotate_left
  · exact ⟨rfl, .inr ⟨by simp only [dOp, dPair, HD1.out, HD2.out, HD3.out, HD4.out, HD5.out, HD6.out, hd, Option.bind_some, Option.map_some, Option.bind_none, Option.map_none], rfl, hbe, T6.out.trans T'⟩⟩
  have hbx := T'.keep B6.out (by decide)
  have R9' := T'.R R9.out (by decide)
  have R12' := T'.R R12.out (by decide)
  have q := cell_blk hbx 22 _ rfl
  have f := frozen_at hbx 22
  obtain ⟨w7, hw, hbx2, hkp, hbl, hot⟩ := own_store hbx (by decide) 22 (.int .i64 x7)
  have hbx3 : w7.heap[w.heap.size]? = some (.cells #[.int .i64 x1, .int .i64 x2, .int .i64 x3, .int .i64 x4.1, .string x4.2.1, .string x4.2.2.1, .string x4.2.2.2.1, .string x4.2.2.2.2.1, .string x4.2.2.2.2.2.1, v9, .string x4.2.2.2.2.2.2.2.1.1, .int .i64 x4.2.2.2.2.2.2.2.1.2.1, v12, .int .i64 x4.2.2.2.2.2.2.2.1.2.2.2.1, .int .i64 x4.2.2.2.2.2.2.2.1.2.2.2.2.1, .string x4.2.2.2.2.2.2.2.1.2.2.2.2.2.1, .string x4.2.2.2.2.2.2.2.1.2.2.2.2.2.2.1, .string x4.2.2.2.2.2.2.2.1.2.2.2.2.2.2.2, .int .i64 x4.2.2.2.2.2.2.2.2.1, .bool x4.2.2.2.2.2.2.2.2.2, .int .i64 x5, .int .i64 x6, .int .i64 x7] 69 (0, 0)) := hbx2
  have hbl' := hbl w.heap.size (Nat.le_refl _)
  have S7 := Lib.hid (S'.keeps hkp (hbl'.mono HSZ.out))
  have T7 := Lib.hid ((T6.out.trans T').then hbl')
  have B7 := Lib.hid hbx3
  have R9'' := made_only R9' hbx (by decide) hot
  have R12'' := made_only R12' hbx (by decide) hot
  clear R9 R12
  have R9 := Lib.hid R9''
  clear R9' R9''
  have R12 := Lib.hid R12''
  clear R12' R12''
  have HD7 := Lib.hid hd
  have HV := Lib.hid hw
  clear hd hw hbx hbx2 hbx3 hkp hbl hbl' hot S' T' S6 T6 B6
  have HM := Lib.hid (mkMOp (w := w7) (base := w.heap.size) (ok := fun _ => True) (x1, x2, x3, x4, x5, x6, x7) R9.out R12.out)
  obtain ⟨WF, hWF, hbF, hkF, hblF, hotF⟩ := own_stores [] [.int .i64 x1, .int .i64 x2, .int .i64 x3, .int .i64 x4.1, .string x4.2.1, .string x4.2.2.1, .string x4.2.2.2.1, .string x4.2.2.2.2.1, .string x4.2.2.2.2.2.1, v9, .string x4.2.2.2.2.2.2.2.1.1, .int .i64 x4.2.2.2.2.2.2.2.1.2.1, v12, .int .i64 x4.2.2.2.2.2.2.2.1.2.2.2.1, .int .i64 x4.2.2.2.2.2.2.2.1.2.2.2.2.1, .string x4.2.2.2.2.2.2.2.1.2.2.2.2.2.1, .string x4.2.2.2.2.2.2.2.1.2.2.2.2.2.2.1, .string x4.2.2.2.2.2.2.2.1.2.2.2.2.2.2.2, .int .i64 x4.2.2.2.2.2.2.2.2.1, .bool x4.2.2.2.2.2.2.2.2.2, .int .i64 x5, .int .i64 x6, .int .i64 x7] [.int .i64 x1, .int .i64 x2, .int .i64 x3, .int .i64 x4.1, .string x4.2.1, .string x4.2.2.1, .string x4.2.2.2.1, .string x4.2.2.2.2.1, .string x4.2.2.2.2.2.1, v9, .string x4.2.2.2.2.2.2.2.1.1, .int .i64 x4.2.2.2.2.2.2.2.1.2.1, v12, .int .i64 x4.2.2.2.2.2.2.2.1.2.2.2.1, .int .i64 x4.2.2.2.2.2.2.2.1.2.2.2.2.1, .string x4.2.2.2.2.2.2.2.1.2.2.2.2.2.1, .string x4.2.2.2.2.2.2.2.1.2.2.2.2.2.2.1, .string x4.2.2.2.2.2.2.2.1.2.2.2.2.2.2.2, .int .i64 x4.2.2.2.2.2.2.2.2.1, .bool x4.2.2.2.2.2.2.2.2.2, .int .i64 x5, .int .i64 x6, .int .i64 x7] [] B7.out (by decide) rfl
  have HF := Lib.hid hWF
  have BF := Lib.hid hbF
  have KF := Lib.hid hkF
  have LF := Lib.hid (hblF w.heap.size (Nat.le_refl _))
  have OF := Lib.hid hotF
  clear hWF hbF hkF hblF hotF
  go_wp2_with (first | ((with_reducible refine gate_load (t := 69) rfl ?_); (first | rw [HV.out] | skip); refine wpList_load_mid rfl 69 _ rfl w.heap.size 0 rfl [.int .i64 x1, .int .i64 x2, .int .i64 x3, .int .i64 x4.1, .string x4.2.1, .string x4.2.2.1, .string x4.2.2.2.1, .string x4.2.2.2.2.1, .string x4.2.2.2.2.2.1, v9, .string x4.2.2.2.2.2.2.2.1.1, .int .i64 x4.2.2.2.2.2.2.2.1.2.1, v12, .int .i64 x4.2.2.2.2.2.2.2.1.2.2.2.1, .int .i64 x4.2.2.2.2.2.2.2.1.2.2.2.2.1, .string x4.2.2.2.2.2.2.2.1.2.2.2.2.2.1, .string x4.2.2.2.2.2.2.2.1.2.2.2.2.2.2.1, .string x4.2.2.2.2.2.2.2.1.2.2.2.2.2.2.2, .int .i64 x4.2.2.2.2.2.2.2.2.1, .bool x4.2.2.2.2.2.2.2.2.2, .int .i64 x5, .int .i64 x6, .int .i64 x7] _ (range_blk [] [.int .i64 x1, .int .i64 x2, .int .i64 x3, .int .i64 x4.1, .string x4.2.1, .string x4.2.2.1, .string x4.2.2.2.1, .string x4.2.2.2.2.1, .string x4.2.2.2.2.2.1, v9, .string x4.2.2.2.2.2.2.2.1.1, .int .i64 x4.2.2.2.2.2.2.2.1.2.1, v12, .int .i64 x4.2.2.2.2.2.2.2.1.2.2.2.1, .int .i64 x4.2.2.2.2.2.2.2.1.2.2.2.2.1, .string x4.2.2.2.2.2.2.2.1.2.2.2.2.2.1, .string x4.2.2.2.2.2.2.2.1.2.2.2.2.2.2.1, .string x4.2.2.2.2.2.2.2.1.2.2.2.2.2.2.2, .int .i64 x4.2.2.2.2.2.2.2.2.1, .bool x4.2.2.2.2.2.2.2.2.2, .int .i64 x5, .int .i64 x6, .int .i64 x7] [] B7.out) Tryz.underlying69 rfl (by kernel_rfl) ?_) | ((with_reducible refine gate_store (t := 69) rfl ?_); refine wpList_store_mid rfl 69 _ _ rfl w.heap.size 0 #[.int .i64 x1, .int .i64 x2, .int .i64 x3, .int .i64 x4.1, .string x4.2.1, .string x4.2.2.1, .string x4.2.2.2.1, .string x4.2.2.2.2.1, .string x4.2.2.2.2.2.1, v9, .string x4.2.2.2.2.2.2.2.1.1, .int .i64 x4.2.2.2.2.2.2.2.1.2.1, v12, .int .i64 x4.2.2.2.2.2.2.2.1.2.2.2.1, .int .i64 x4.2.2.2.2.2.2.2.1.2.2.2.2.1, .string x4.2.2.2.2.2.2.2.1.2.2.2.2.2.1, .string x4.2.2.2.2.2.2.2.1.2.2.2.2.2.2.1, .string x4.2.2.2.2.2.2.2.1.2.2.2.2.2.2.2, .int .i64 x4.2.2.2.2.2.2.2.2.1, .bool x4.2.2.2.2.2.2.2.2.2, .int .i64 x5, .int .i64 x6, .int .i64 x7] rfl rfl (there_blk [] [.int .i64 x1, .int .i64 x2, .int .i64 x3, .int .i64 x4.1, .string x4.2.1, .string x4.2.2.1, .string x4.2.2.2.1, .string x4.2.2.2.2.1, .string x4.2.2.2.2.2.1, v9, .string x4.2.2.2.2.2.2.2.1.1, .int .i64 x4.2.2.2.2.2.2.2.1.2.1, v12, .int .i64 x4.2.2.2.2.2.2.2.1.2.2.2.1, .int .i64 x4.2.2.2.2.2.2.2.1.2.2.2.2.1, .string x4.2.2.2.2.2.2.2.1.2.2.2.2.2.1, .string x4.2.2.2.2.2.2.2.1.2.2.2.2.2.2.1, .string x4.2.2.2.2.2.2.2.1.2.2.2.2.2.2.2, .int .i64 x4.2.2.2.2.2.2.2.2.1, .bool x4.2.2.2.2.2.2.2.2.2, .int .i64 x5, .int .i64 x6, .int .i64 x7] [] B7.out) (by kernel_rfl) (all_oneCell_toArray (kOp.K_one (kOp.K_of_M HM.out))) ?_))
  first | rw [HF.out] | (erw [HF.out])
  refine bodyPost_ret (v := .agg #[.int .i64 x1, .int .i64 x2, .int .i64 x3, .int .i64 x4.1, .string x4.2.1, .string x4.2.2.1, .string x4.2.2.2.1, .string x4.2.2.2.2.1, .string x4.2.2.2.2.2.1, v9, .string x4.2.2.2.2.2.2.2.1.1, .int .i64 x4.2.2.2.2.2.2.2.1.2.1, v12, .int .i64 x4.2.2.2.2.2.2.2.1.2.2.2.1, .int .i64 x4.2.2.2.2.2.2.2.1.2.2.2.2.1, .string x4.2.2.2.2.2.2.2.1.2.2.2.2.2.1, .string x4.2.2.2.2.2.2.2.1.2.2.2.2.2.2.1, .string x4.2.2.2.2.2.2.2.1.2.2.2.2.2.2.2, .int .i64 x4.2.2.2.2.2.2.2.2.1, .bool x4.2.2.2.2.2.2.2.2.2, .int .i64 x5, .int .i64 x6, .int .i64 x7]) (results_cell_row rfl _ _ w.heap.size 69 #[.int .i64 x1, .int .i64 x2, .int .i64 x3, .int .i64 x4.1, .string x4.2.1, .string x4.2.2.1, .string x4.2.2.2.1, .string x4.2.2.2.2.1, .string x4.2.2.2.2.2.1, v9, .string x4.2.2.2.2.2.2.2.1.1, .int .i64 x4.2.2.2.2.2.2.2.1.2.1, v12, .int .i64 x4.2.2.2.2.2.2.2.1.2.2.2.1, .int .i64 x4.2.2.2.2.2.2.2.1.2.2.2.2.1, .string x4.2.2.2.2.2.2.2.1.2.2.2.2.2.1, .string x4.2.2.2.2.2.2.2.1.2.2.2.2.2.2.1, .string x4.2.2.2.2.2.2.2.1.2.2.2.2.2.2.2, .int .i64 x4.2.2.2.2.2.2.2.2.1, .bool x4.2.2.2.2.2.2.2.2.2, .int .i64 x5, .int .i64 x6, .int .i64 x7] (0, 0) _ rfl BF.out Tryz.underlying69 rfl (by kernel_rfl)) rfl ?_
  exact .inl ⟨(x1, x2, x3, x4, x5, x6, x7), l7, _, by simp only [dOp, dPair, HD1.out, HD2.out, HD3.out, HD4.out, HD5.out, HD6.out, HD7.out, Option.bind_some, Option.map_some, Option.bind_none, Option.map_none], rfl, ⟨_, mkMOp (x1, x2, x3, x4, x5, x6, x7) (made_only R9.out B7.out (by decide) OF.out) (made_only R12.out B7.out (by decide) OF.out), rfl⟩, S7.out.keeps KF.out (LF.out.mono HSZ.out), T7.out.then LF.out⟩
end Go.Proofs.YtoomcdgnnibjlaaGreat.Wr
/- What is read: the doors. -/
namespace Go.Proofs.YtoomcdgnnibjlaaGreat.Wr
open Go.RowKit Go.Proofs.YtoomcdgnnibjlaaGreatW.PrintWords Go.Proofs.YtoomcdgnnibjlaaGreatW.PrintLast
set_option linter.unusedVariables false
set_option linter.unusedSimpArgs false

theorem results_cell2 {P : Program} {fn : Func} {p q : Tmp} {ty ty' : TypeId} (h : fn.results = #[.cell p ty, .cell q ty']) (tmps : Array Value) (w : World) (g g' : Nat) (t : TypeId) (cs : Array Value) (fr : Nat × Nat) (d : TypeDesc) (u : Value)
    (hp : tmps.getD p undef = .pointer (some ⟨g, 0, none⟩)) (hg : w.heap[g]? = some (.cells cs t fr))
    (hu : P.underlying ty = some d) (hd : (match d with | .struct _ | .array _ _ => true | _ => false) = true) (hi : (P.info? ty).map (·.size) = some cs.size)
    (hq : tmps.getD q undef = .pointer (some ⟨g', 0, none⟩)) (hl : (loadVar ty' ⟨g', 0, none⟩).run P w = .ok u w) :
    (results fn tmps).run P w = .ok (.tuple #[.agg cs, u]) w := by
  have h1 : tmps[p]?.getD undef = .pointer (some ⟨g, 0, none⟩) := by simpa using hp
  have h2 : tmps[q]?.getD undef = .pointer (some ⟨g', 0, none⟩) := by simpa using hq
  simp [results, h, h1, h2, asAddr, run_loadVar_row w g t ty cs fr d hg hu hd hi, hl]
theorem load_errno {w : World} {g : Nat} {c : Int} (h : w.heap[g]? = some (.cells #[.int .i64 c] 39 (0, 0))) : (loadVar 39 ⟨g, 0, none⟩).run Tryz.prog w = .ok (.int .i64 c) w := by
  have hc := cell_blk h 0 _ rfl
  simp [go_sem, hc]
/-- What is told of bytes: a thing, and that they are just its; or nothing. -/
def GetTold {α : Type} (d : Dc α) (k : Kd α) (z : α) (w : World) (B : Bs) : Ending → World → Prop :=
  fun e w' => ∃ x cs c, e = .returned (.tuple #[.agg cs.toArray, .int .i64 c]) ∧ k.M w' w.heap.size (fun _ => True) x cs ∧ Below w.heap.size w w' ∧ (c = 0 ∧ d B = some (x, []) ∨ c = 11 ∧ x = z ∧ ∀ y, d B ≠ some (y, []))
/-- get's world when the bytes are taken: the thing's box, the error's. -/
theorem get_world (w : World) (arr : Array Value) (t : Nat) : ∃ W, (w.alloc (.cells arr t)).alloc (.cells #[.int .i64 0] 39) = W ∧ Below w.heap.size w W ∧ W.heap[w.heap.size]? = some (.cells arr t (0, 0)) ∧ W.heap[w.heap.size + 1]? = some (.cells #[.int .i64 0] 39 (0, 0)) ∧ W.heap.size = w.heap.size + 2 := by
  refine ⟨_, rfl, ?_, ?_, ?_, ?_⟩
  · exact ((Below.refl _ _).alloc (Nat.le_refl _) _).alloc (by simp only [World.size_alloc]; omega) _
  · rw [Below.heap_alloc _ _ _ (by simp only [World.size_alloc]; omega)]
    exact blk_new w _
  · have := blk_new (w.alloc (.cells arr t)) (.cells #[.int .i64 0] 39)
    rwa [World.size_alloc] at this
  · simp only [World.size_alloc]
theorem get_start {w W w1 : World} {gc : Nat} {A1 : Option Addr} {c1 : Nat} {A : Option Addr} {c : Nat} {B : Bs} (hb0 : Below w.heap.size w W) (hge : W.heap.size ≤ gc) (hBA : BAt w1 gc A1 c1 B) (hb : Below W.heap.size W w1) (hC : (Kd.int .u8).C w A B.length B) (hle : B.length ≤ c) (hB : IsB B) (hl : B.length < 140737488355328) :
    ∃ W1, w1.alloc (.cells #[.pointer (some ⟨gc, 0, none⟩), .slice A B.length c] 90) = W1 ∧ RAt w W1 w1.heap.size B B ∧ Below W.heap.size W W1 := by
  have hb2 : Below w1.heap.size w1 (w1.alloc (.cells #[.pointer (some ⟨gc, 0, none⟩), .slice A B.length c] 90)) := (Below.refl _ _).alloc (Nat.le_refl _) _
  have hb3 := hb.trans (hb2.mono hb.size)
  exact ⟨_, rfl, ⟨Nat.le_trans hb0.size hb.size, hb0.trans (hb3.mono hb0.size), ⟨gc, A1, c1, A, c, blk_new w1 _, Nat.le_trans hb0.size hge, hBA.keeps (Keeps.below hb2), hC, hle⟩, ⟨[], rfl⟩, hB, hl⟩, hb3⟩
theorem M_only {α : Type} {d : Kd α} {base b t : Nat} {arr : Array Value} {w W : World} {x : α} {cs : List Value} (h : d.M w base (fun _ => True) x cs) (hb : w.heap[b]? = some (.cells arr t (0, 0))) (ht : ∀ q, q ∈ d.E → q ≠ t) (hW : ∀ k, k ≠ b → W.heap[k]? = w.heap[k]?) : d.M W base (fun _ => True) x cs :=
  d.M_mono (fun _ _ => trivial) (Kd.M_step (Kd.M_types h hb ht) (fun k hk _ => hW k hk.2))
end Go.Proofs.YtoomcdgnnibjlaaGreat.Wr
/- Bytes read as a op, or refused. -/
namespace Go.Proofs.YtoomcdgnnibjlaaGreat.Wr
open Go.RowKit Go.Proofs.YtoomcdgnnibjlaaGreatW.PrintWords Go.Proofs.YtoomcdgnnibjlaaGreatW.PrintLast
set_option linter.unusedVariables false
set_option linter.unusedSimpArgs false


set_option maxRecDepth 100000 in
set_option maxHeartbeats 4000000 in
theorem getOp_close (pe px : Addr) (u : FrameMode) (w : World) (hc : w.cell? pe = some (.int .i64 0)) :
    CallsD Tryz.prog 68 #[.pointer (some pe), .pointer (some px)] u w fun e u' w' => u' = u ∧ e = .returned (.tuple #[]) ∧ w = w' := by
  go_enter_d Tryz.func68, Tryz.ntmps68
  go_wp2
  go_end0
  exact ⟨rfl, rfl⟩
set_option maxRecDepth 100000 in
set_option maxHeartbeats 8000000 in
theorem getOp_drop (ge gx : Nat) (c : Int) (cs : List Value) (u : FrameMode) (w : World) (hne : ge ≠ gx) (h0 : c ≠ 0) (he : w.heap[ge]? = some (.cells #[.int .i64 c] 39 (0, 0))) (hx : w.heap[gx]? = some (.cells ([] ++ (cs ++ [])).toArray 69 (0, 0))) (hl : cs.length = 23) :
    CallsD Tryz.prog 68 #[.pointer (some ⟨ge, 0, none⟩), .pointer (some ⟨gx, 0, none⟩)] u w fun e u' w' => u' = u ∧ e = .returned (.tuple #[]) ∧ w'.heap[gx]? = some (.cells #[.int .i64 0, .int .i64 0, .int .i64 0, .int .i64 0, .string ⟨#[]⟩, .string ⟨#[]⟩, .string ⟨#[]⟩, .string ⟨#[]⟩, .string ⟨#[]⟩, .slice none 0 0, .string ⟨#[]⟩, .int .i64 0, .slice none 0 0, .int .i64 0, .int .i64 0, .string ⟨#[]⟩, .string ⟨#[]⟩, .string ⟨#[]⟩, .int .i64 0, .bool false, .int .i64 0, .int .i64 0, .int .i64 0] 69 (0, 0)) ∧ w'.heap[ge]? = some (.cells #[.int .i64 c] 39 (0, 0)) ∧ (∀ B, B ≤ gx → B ≤ w.heap.size → Below B w w') := by
  have h1 : (c == 0) = false := by simpa using h0
  have h2 : (c != 0) = true := by simpa using h0
  have q0 := cell_blk he 0 _ rfl
  have hbn : Below w.heap.size w (w.alloc (.cells #[.int .i64 0, .int .i64 0, .int .i64 0, .int .i64 0, .string ⟨#[]⟩, .string ⟨#[]⟩, .string ⟨#[]⟩, .string ⟨#[]⟩, .string ⟨#[]⟩, .slice none 0 0, .string ⟨#[]⟩, .int .i64 0, .slice none 0 0, .int .i64 0, .int .i64 0, .string ⟨#[]⟩, .string ⟨#[]⟩, .string ⟨#[]⟩, .int .i64 0, .bool false, .int .i64 0, .int .i64 0, .int .i64 0] 69)) := (Below.refl _ _).alloc (Nat.le_refl _) _
  have hx1 := (hbn.block gx (blk_lt hx)).trans hx
  have he1 := (hbn.block ge (blk_lt he)).trans he
  have hn1 := blk_new w (.cells #[.int .i64 0, .int .i64 0, .int .i64 0, .int .i64 0, .string ⟨#[]⟩, .string ⟨#[]⟩, .string ⟨#[]⟩, .string ⟨#[]⟩, .string ⟨#[]⟩, .slice none 0 0, .string ⟨#[]⟩, .int .i64 0, .slice none 0 0, .int .i64 0, .int .i64 0, .string ⟨#[]⟩, .string ⟨#[]⟩, .string ⟨#[]⟩, .int .i64 0, .bool false, .int .i64 0, .int .i64 0, .int .i64 0] 69)
  obtain ⟨W0, hW0⟩ : ∃ W0, w.alloc (.cells #[.int .i64 0, .int .i64 0, .int .i64 0, .int .i64 0, .string ⟨#[]⟩, .string ⟨#[]⟩, .string ⟨#[]⟩, .string ⟨#[]⟩, .string ⟨#[]⟩, .slice none 0 0, .string ⟨#[]⟩, .int .i64 0, .slice none 0 0, .int .i64 0, .int .i64 0, .string ⟨#[]⟩, .string ⟨#[]⟩, .string ⟨#[]⟩, .int .i64 0, .bool false, .int .i64 0, .int .i64 0, .int .i64 0] 69) = W0 := ⟨_, rfl⟩
  rw [hW0] at hbn hx1 he1 hn1
  obtain ⟨W1, hW1, hw1, _, hbl, hot⟩ := own_stores [] cs [.int .i64 0, .int .i64 0, .int .i64 0, .int .i64 0, .string ⟨#[]⟩, .string ⟨#[]⟩, .string ⟨#[]⟩, .string ⟨#[]⟩, .string ⟨#[]⟩, .slice none 0 0, .string ⟨#[]⟩, .int .i64 0, .slice none 0 0, .int .i64 0, .int .i64 0, .string ⟨#[]⟩, .string ⟨#[]⟩, .string ⟨#[]⟩, .int .i64 0, .bool false, .int .i64 0, .int .i64 0, .int .i64 0] [] hx1 (by decide) (by rw [hl]; rfl)
  have HW0 := Lib.hid hW0
  have HN := Lib.hid (range_blk [] [.int .i64 0, .int .i64 0, .int .i64 0, .int .i64 0, .string ⟨#[]⟩, .string ⟨#[]⟩, .string ⟨#[]⟩, .string ⟨#[]⟩, .string ⟨#[]⟩, .slice none 0 0, .string ⟨#[]⟩, .int .i64 0, .slice none 0 0, .int .i64 0, .int .i64 0, .string ⟨#[]⟩, .string ⟨#[]⟩, .string ⟨#[]⟩, .int .i64 0, .bool false, .int .i64 0, .int .i64 0, .int .i64 0] [] hn1)
  have HT := Lib.hid (show W0.there gx 0 (#[.int .i64 0, .int .i64 0, .int .i64 0, .int .i64 0, .string ⟨#[]⟩, .string ⟨#[]⟩, .string ⟨#[]⟩, .string ⟨#[]⟩, .string ⟨#[]⟩, .slice none 0 0, .string ⟨#[]⟩, .int .i64 0, .slice none 0 0, .int .i64 0, .int .i64 0, .string ⟨#[]⟩, .string ⟨#[]⟩, .string ⟨#[]⟩, .int .i64 0, .bool false, .int .i64 0, .int .i64 0, .int .i64 0] : Array Value).size from by have := there_blk [] cs [] hx1; rwa [hl] at this)
  have HON := Lib.hid (all_oneCell_toArray (kOp.K_one (kOp.K_of_M (w := w) (base := 0) (ok := fun _ => True) (mkMOp (0, 0, 0, (0, (⟨#[]⟩ : ByteArray), (⟨#[]⟩ : ByteArray), (⟨#[]⟩ : ByteArray), (⟨#[]⟩ : ByteArray), (⟨#[]⟩ : ByteArray), [], ((⟨#[]⟩ : ByteArray), 0, [], 0, 0, (⟨#[]⟩ : ByteArray), (⟨#[]⟩ : ByteArray), (⟨#[]⟩ : ByteArray)), 0, false), 0, 0, 0) (Kd.R_nil _ _ _ _ _) (Kd.R_nil _ _ _ _ _)))))
  have HW1 := Lib.hid hW1
  have HF := Lib.hid (show W1.heap[gx]? = some (.cells #[.int .i64 0, .int .i64 0, .int .i64 0, .int .i64 0, .string ⟨#[]⟩, .string ⟨#[]⟩, .string ⟨#[]⟩, .string ⟨#[]⟩, .string ⟨#[]⟩, .slice none 0 0, .string ⟨#[]⟩, .int .i64 0, .slice none 0 0, .int .i64 0, .int .i64 0, .string ⟨#[]⟩, .string ⟨#[]⟩, .string ⟨#[]⟩, .int .i64 0, .bool false, .int .i64 0, .int .i64 0, .int .i64 0] 69 (0, 0)) from hw1)
  have HE := Lib.hid ((hot ge hne).trans he1)
  have HBL := Lib.hid (fun B (h1 : B ≤ gx) (h2 : B ≤ w.heap.size) => (hbn.mono h2).trans (hbl B h1))
  clear hx hl hx1 he1 hn1 hW0 hW1 hw1 hbl hot hbn he
  go_enter_d Tryz.func68, Tryz.ntmps68
  go_upto_region 2 with (fail)
  rw [HW0.out]
  go_wp2_with (first | ((with_reducible refine gate_load (t := 69) rfl ?_); refine wpList_load_mid rfl 69 _ rfl w.heap.size 0 rfl [.int .i64 0, .int .i64 0, .int .i64 0, .int .i64 0, .string ⟨#[]⟩, .string ⟨#[]⟩, .string ⟨#[]⟩, .string ⟨#[]⟩, .string ⟨#[]⟩, .slice none 0 0, .string ⟨#[]⟩, .int .i64 0, .slice none 0 0, .int .i64 0, .int .i64 0, .string ⟨#[]⟩, .string ⟨#[]⟩, .string ⟨#[]⟩, .int .i64 0, .bool false, .int .i64 0, .int .i64 0, .int .i64 0] _ HN.out Tryz.underlying69 rfl (by kernel_rfl) ?_) | ((with_reducible refine gate_store (t := 69) rfl ?_); refine wpList_store_mid rfl 69 _ _ rfl gx 0 #[.int .i64 0, .int .i64 0, .int .i64 0, .int .i64 0, .string ⟨#[]⟩, .string ⟨#[]⟩, .string ⟨#[]⟩, .string ⟨#[]⟩, .string ⟨#[]⟩, .slice none 0 0, .string ⟨#[]⟩, .int .i64 0, .slice none 0 0, .int .i64 0, .int .i64 0, .string ⟨#[]⟩, .string ⟨#[]⟩, .string ⟨#[]⟩, .int .i64 0, .bool false, .int .i64 0, .int .i64 0, .int .i64 0] rfl rfl HT.out (by kernel_rfl) HON.out ?_))
  have HW1' : W0.setCells gx 0 [.int .i64 0, .int .i64 0, .int .i64 0, .int .i64 0, .string ⟨#[]⟩, .string ⟨#[]⟩, .string ⟨#[]⟩, .string ⟨#[]⟩, .string ⟨#[]⟩, .slice none 0 0, .string ⟨#[]⟩, .int .i64 0, .slice none 0 0, .int .i64 0, .int .i64 0, .string ⟨#[]⟩, .string ⟨#[]⟩, .string ⟨#[]⟩, .int .i64 0, .bool false, .int .i64 0, .int .i64 0, .int .i64 0] = W1 := HW1.out
  rw [HW1']
  go_end0
  exact ⟨rfl, HF.out, HE.out, HBL.out⟩
set_option maxRecDepth 100000 in
set_option maxHeartbeats 16000000 in
theorem getOp (A : Option Addr) (c : Nat) {B : Bs} (w : World) (hA : (Kd.int .u8).C w A B.length B) (hc : B.length ≤ c) (hB : IsB B) (hl : B.length < 140737488355328) :
    Calls Tryz.prog 40 #[.slice A B.length c, .func (.func 41) #[] #[]] w (GetTold dOp kOp (0, 0, 0, (0, (⟨#[]⟩ : ByteArray), (⟨#[]⟩ : ByteArray), (⟨#[]⟩ : ByteArray), (⟨#[]⟩ : ByteArray), (⟨#[]⟩ : ByteArray), [], ((⟨#[]⟩ : ByteArray), 0, [], 0, 0, (⟨#[]⟩ : ByteArray), (⟨#[]⟩ : ByteArray), (⟨#[]⟩ : ByteArray)), 0, false), 0, 0, 0) w B) := by
  have hmf : ∀ (fn : Fn) (first cap : Array Value) (w : World), (Instr.makeFunc fn first cap).run Tryz.prog w = .ok (.func fn first cap) w := fun _ _ _ _ => rfl
  obtain ⟨W, hW, hb, hx, he, hsz⟩ := get_world w #[.int .i64 0, .int .i64 0, .int .i64 0, .int .i64 0, .string ⟨#[]⟩, .string ⟨#[]⟩, .string ⟨#[]⟩, .string ⟨#[]⟩, .string ⟨#[]⟩, .slice none 0 0, .string ⟨#[]⟩, .int .i64 0, .slice none 0 0, .int .i64 0, .int .i64 0, .string ⟨#[]⟩, .string ⟨#[]⟩, .string ⟨#[]⟩, .int .i64 0, .bool false, .int .i64 0, .int .i64 0, .int .i64 0] 69
  have C1 := Lib.hid (rd_new A B.length c rfl (Kd.C_below hA hb) hB hl)
  have HW := Lib.hid hW
  have HB := Lib.hid hb
  have HX := Lib.hid hx
  have HE := Lib.hid he
  have HA := Lib.hid hA
  have HI := Lib.hid hB
  clear hW hb hx he hA hB hsz
  go_enter_defers Tryz.func40, Tryz.ntmps40
  go_wp2_with fail
  rw [HW.out]
  refine C1.out.mono ?_
  rintro e w1 ⟨gc, A1, c1, rfl, hge, hBA, hb1, _⟩
  obtain ⟨W1, hW1, hS, hbW⟩ := get_start HB.out hge hBA hb1 HA.out hc HI.out hl
  have HW1 := Lib.hid hW1
  have HX1 := Lib.hid ((hbW.block _ (blk_lt HX.out)).trans HX.out)
  have HE1 := Lib.hid ((hbW.block _ (blk_lt HE.out)).trans HE.out)
  have HSZ1 := Lib.hid hS.below.size
  have C2 := Lib.hid (rr_op hS)
  clear hBA hb1 hW1 hS hbW C1 HW hge HX HE HB HA HI
  go_wp2_with fail
  rw [HW1.out]
  clear HW1
  refine C2.out.mono ?_
  rintro e w2 (⟨x, l', v, hd, rfl, ⟨cs, hM, rfl⟩, S', T'⟩ | ⟨hd, rfl, hbe, T'⟩)
  · have hx2 := T'.keep HX1.out (by decide)
    have he2 := T'.keep HE1.out (by decide)
    have hln : cs.length = 23 := kOp.K_len (kOp.K_of_M hM)
    obtain ⟨W3, hW3, hx3, hkp, hbl, hot⟩ := own_stores [] [.int .i64 0, .int .i64 0, .int .i64 0, .int .i64 0, .string ⟨#[]⟩, .string ⟨#[]⟩, .string ⟨#[]⟩, .string ⟨#[]⟩, .string ⟨#[]⟩, .slice none 0 0, .string ⟨#[]⟩, .int .i64 0, .slice none 0 0, .int .i64 0, .int .i64 0, .string ⟨#[]⟩, .string ⟨#[]⟩, .string ⟨#[]⟩, .int .i64 0, .bool false, .int .i64 0, .int .i64 0, .int .i64 0] cs [] hx2 (by decide) (by rw [hln]; rfl)
    have he3 := (hot _ (by omega)).trans he2
    have hM2 := kOp.M_lower HSZ1.out hM
    have S3 := S'.keeps hkp (hbl w.heap.size (Nat.le_refl _))
    obtain ⟨gc2, A2, c2, A3, c3, hcc, _, hBA2, _, _⟩ := S3.ex
    have q3 := cell_blk hcc 0 _ rfl
    have h9 : cs.toArray.size = 23 := by simpa using hln
    have HTH := Lib.hid (show w2.there w.heap.size 0 cs.toArray.size from by rw [h9]; exact there_blk [] [.int .i64 0, .int .i64 0, .int .i64 0, .int .i64 0, .string ⟨#[]⟩, .string ⟨#[]⟩, .string ⟨#[]⟩, .string ⟨#[]⟩, .string ⟨#[]⟩, .slice none 0 0, .string ⟨#[]⟩, .int .i64 0, .slice none 0 0, .int .i64 0, .int .i64 0, .string ⟨#[]⟩, .string ⟨#[]⟩, .string ⟨#[]⟩, .int .i64 0, .bool false, .int .i64 0, .int .i64 0, .int .i64 0] [] hx2)
    have HINF := Lib.hid (show (Tryz.prog.info? 69).map (·.size) = some cs.toArray.size from by rw [h9]; kernel_rfl)
    have HINL := Lib.hid (show (Tryz.prog.info? 69).map (·.size) = some cs.length from by rw [hln]; kernel_rfl)
    clear h9
    have HON := Lib.hid (all_oneCell_toArray (kOp.K_one (kOp.K_of_M hM)))
    have HM3 := Lib.hid (M_only hM2 hx2 (by decide) hot)
    have HV := Lib.hid hW3
    have HX3 := Lib.hid hx3
    have HE3 := Lib.hid he3
    have HLN := Lib.hid hln
    have B3 := Lib.hid S3.below
    have HD := Lib.hid hd
    have CL := Lib.hid (rd_left hBA2)
    clear hx2 he2 hln hW3 hx3 hkp hbl hot he3 hM hM2 S3 S' T' hd hcc hBA2 C2 HX1 HE1
    go_wp2_with ((with_reducible refine gate_store (t := 69) rfl ?_); refine wpList_store_mid rfl 69 _ _ rfl w.heap.size 0 cs.toArray rfl rfl HTH.out HINF.out HON.out ?_; rw [show w2.setCells w.heap.size 0 cs.toArray.toList = W3 from HV.out])
    cases l' with
    | nil =>
      refine (CL.out.mono (R' := fun e w' => W3 = w' ∧ e = .returned (.int .i64 0)) (fun e w' h => h)).mono ?_
      rintro e w3 ⟨rfl, rfl⟩
      clear q3 CL HTH
      go_wp2_with fail
      refine (is_true _).mono ?_
      rintro e w3 ⟨rfl, rfl⟩
      obtain ⟨W4, hW4, hx4, hkp, hbl, hot⟩ := own_stores [] cs cs [] HX3.out (by decide) rfl
      have he4 := (hot _ (by omega)).trans HE3.out
      obtain ⟨W5, hW5, he5, _, hbl5, hot5⟩ := own_store he4 (by decide) 0 (.int .i64 0)
      have hx5 := (hot5 w.heap.size (by omega)).trans hx4
      have q5 := cell_blk he4 0 _ rfl
      have f5 := frozen_at he4 0
      have HV4 := Lib.hid hW4
      have HV5 := Lib.hid hW5
      have HX5 := Lib.hid (show W5.heap[w.heap.size]? = some (.cells cs.toArray 69 (0, 0)) from by simpa using hx5)
      have HE5 := Lib.hid (show W5.heap[w.heap.size + 1]? = some (.cells #[.int .i64 0] 39 (0, 0)) from he5)
      have HM5 := Lib.hid (M_only (M_only HM3.out HX3.out (by decide) hot) he4 (by decide) hot5)
      have B5 := Lib.hid ((B3.out.trans (hbl w.heap.size (Nat.le_refl _))).trans (hbl5 w.heap.size (by omega)))
      have HTH := Lib.hid (show W3.there w.heap.size 0 cs.toArray.size from by have := there_blk [] cs [] HX3.out; simpa using this)
      have HRG := Lib.hid (range_blk [] cs [] HX3.out)
      clear hW4 hx4 hkp hbl hot he4 hW5 he5 hbl5 hot5 hx5
      go_wp2_with (first | ((with_reducible refine gate_load (t := 69) rfl ?_); refine wpList_load_mid rfl 69 _ rfl w.heap.size 0 rfl cs _ HRG.out Tryz.underlying69 rfl HINL.out ?_) | ((with_reducible refine gate_store (t := 69) rfl ?_); refine wpList_store_mid rfl 69 _ _ rfl w.heap.size 0 cs.toArray rfl rfl HTH.out HINF.out HON.out ?_; rw [show W3.setCells w.heap.size 0 cs.toArray.toList = W4 from HV4.out]))
      rw [HV5.out]
      refine leaves_cons (f := 21) (args := #[.pointer (some ⟨w.heap.size + 1, 0, none⟩)]) (by simp) (by simp [go_sem]) ?_
      refine (caught_idle ⟨w.heap.size + 1, 0, none⟩ _).mono ?_
      rintro e u' w'' ⟨rfl, rfl, rfl⟩
      refine leaves_cons (f := 68) (args := #[.pointer (some ⟨w.heap.size + 1, 0, none⟩), .pointer (some ⟨w.heap.size, 0, none⟩)]) (by simp [settle]) (by simp [go_sem]) ?_
      refine (getOp_close ⟨w.heap.size + 1, 0, none⟩ ⟨w.heap.size, 0, none⟩ _ _ (cell_blk HE5.out 0 _ rfl)).mono ?_
      rintro e u' w'' ⟨rfl, rfl, rfl⟩
      refine ⟨_, results_cell2 rfl _ _ w.heap.size (w.heap.size + 1) 69 cs.toArray (0, 0) _ (.int .i64 0) rfl HX5.out Tryz.underlying69 rfl HINF.out rfl (load_errno HE5.out), ?_⟩
      exact ⟨x, cs, 0, rfl, HM5.out, B5.out, .inl ⟨rfl, HD.out⟩⟩
    | cons b l' =>
      obtain ⟨m, hm⟩ : ∃ m, (b :: l').length = m := ⟨_, rfl⟩
      have hm1 : 1 ≤ m := by rw [← hm]; simp
      refine (CL.out.mono (R' := fun e w' => W3 = w' ∧ e = .returned (.int .i64 (m : Int))) (fun e w' h => by rw [← hm]; exact h)).mono ?_
      rintro e w3 ⟨rfl, rfl⟩
      have k1 : ((m : Int) == 0) = false := by simp; omega
      have k2 : decide ((m : Int) = 0) = false := decide_eq_false (by omega)
      clear q3 CL HTH hm
      go_wp2_with fail
      refine (is_false _).mono ?_
      rintro e w3 ⟨rfl, rfl⟩
      have hbad : ∀ y, dOp B ≠ some (y, []) := fun y hy => by rw [HD.out] at hy; cases hy
      have q := cell_blk HE3.out 0 _ rfl
      have fz := frozen_at HE3.out 0
      obtain ⟨W6, hW6, hw6, _, hbl6, hot6⟩ := own_store HE3.out (by decide) 0 (.int .i64 11)
      have HE6 := Lib.hid (show W6.heap[w.heap.size + 1]? = some (.cells #[.int .i64 11] 39 (0, 0)) from hw6)
      have HX6 := Lib.hid ((hot6 w.heap.size (by omega)).trans HX3.out)
      have HW6 := Lib.hid hW6
      have HB6 := Lib.hid (B3.out.trans (hbl6 w.heap.size (by omega)))
      have HBAD := Lib.hid hbad
      have Q2 := Lib.hid q
      have F2 := Lib.hid fz
      clear hW6 hw6 hbl6 hot6 q fz hbad
      simp only [thrown]
      refine leaves_cons (f := 21) (args := #[.pointer (some ⟨w.heap.size + 1, 0, none⟩)]) (by simp) (by simp [go_sem]) ?_
      refine (caught_thrown ⟨w.heap.size + 1, 0, none⟩ 0 11 _ Q2.out F2.out).mono ?_
      rintro e u' w'' ⟨rfl, rfl, rfl⟩
      rw [HW6.out]
      refine leaves_cons (f := 68) (args := #[.pointer (some ⟨w.heap.size + 1, 0, none⟩), .pointer (some ⟨w.heap.size, 0, none⟩)]) (by simp [settle]) (by simp [go_sem]) ?_
      refine (getOp_drop (w.heap.size + 1) w.heap.size 11 cs _ _ (by omega) (by decide) HE6.out HX6.out HLN.out).mono ?_
      rintro e u' w'' ⟨rfl, rfl, k1, k2, k3⟩
      refine ⟨_, results_cell2 rfl _ _ w.heap.size (w.heap.size + 1) 69 #[.int .i64 0, .int .i64 0, .int .i64 0, .int .i64 0, .string ⟨#[]⟩, .string ⟨#[]⟩, .string ⟨#[]⟩, .string ⟨#[]⟩, .string ⟨#[]⟩, .slice none 0 0, .string ⟨#[]⟩, .int .i64 0, .slice none 0 0, .int .i64 0, .int .i64 0, .string ⟨#[]⟩, .string ⟨#[]⟩, .string ⟨#[]⟩, .int .i64 0, .bool false, .int .i64 0, .int .i64 0, .int .i64 0] (0, 0) _ (.int .i64 11) rfl k1 Tryz.underlying69 rfl (by kernel_rfl) rfl (load_errno k2), ?_⟩
      exact ⟨(0, 0, 0, (0, (⟨#[]⟩ : ByteArray), (⟨#[]⟩ : ByteArray), (⟨#[]⟩ : ByteArray), (⟨#[]⟩ : ByteArray), (⟨#[]⟩ : ByteArray), [], ((⟨#[]⟩ : ByteArray), 0, [], 0, 0, (⟨#[]⟩ : ByteArray), (⟨#[]⟩ : ByteArray), (⟨#[]⟩ : ByteArray)), 0, false), 0, 0, 0), [.int .i64 0, .int .i64 0, .int .i64 0, .int .i64 0, .string ⟨#[]⟩, .string ⟨#[]⟩, .string ⟨#[]⟩, .string ⟨#[]⟩, .string ⟨#[]⟩, .slice none 0 0, .string ⟨#[]⟩, .int .i64 0, .slice none 0 0, .int .i64 0, .int .i64 0, .string ⟨#[]⟩, .string ⟨#[]⟩, .string ⟨#[]⟩, .int .i64 0, .bool false, .int .i64 0, .int .i64 0, .int .i64 0], 11, rfl, (mkMOp (0, 0, 0, (0, (⟨#[]⟩ : ByteArray), (⟨#[]⟩ : ByteArray), (⟨#[]⟩ : ByteArray), (⟨#[]⟩ : ByteArray), (⟨#[]⟩ : ByteArray), [], ((⟨#[]⟩ : ByteArray), 0, [], 0, 0, (⟨#[]⟩ : ByteArray), (⟨#[]⟩ : ByteArray), (⟨#[]⟩ : ByteArray)), 0, false), 0, 0, 0) (Kd.R_nil _ _ _ _ _) (Kd.R_nil _ _ _ _ _)), HB6.out.trans (k3 _ (Nat.le_refl _) HB6.out.size), .inr ⟨rfl, rfl, HBAD.out⟩⟩
  · have hbad : ∀ y, dOp B ≠ some (y, []) := fun y hy => by rw [hd] at hy; cases hy
    have HX2 := Lib.hid (T'.keep HX1.out (by decide))
    have HE2 := Lib.hid (T'.keep HE1.out (by decide))
    have B2 := Lib.hid hbe
    clear T' hd hbe C2 HX1 HE1
    have q := cell_blk HE2.out 0 _ rfl
    have fz := frozen_at HE2.out 0
    obtain ⟨W6, hW6, hw6, _, hbl6, hot6⟩ := own_store HE2.out (by decide) 0 (.int .i64 11)
    have HE6 := Lib.hid (show W6.heap[w.heap.size + 1]? = some (.cells #[.int .i64 11] 39 (0, 0)) from hw6)
    have HX6 := Lib.hid ((hot6 w.heap.size (by omega)).trans HX2.out)
    have HW6 := Lib.hid hW6
    have HB6 := Lib.hid (B2.out.trans (hbl6 w.heap.size (by omega)))
    have HBAD := Lib.hid hbad
    have Q2 := Lib.hid q
    have F2 := Lib.hid fz
    clear hW6 hw6 hbl6 hot6 q fz hbad
    simp only [thrown]
    refine leaves_cons (f := 21) (args := #[.pointer (some ⟨w.heap.size + 1, 0, none⟩)]) (by simp) (by simp [go_sem]) ?_
    refine (caught_thrown ⟨w.heap.size + 1, 0, none⟩ 0 11 _ Q2.out F2.out).mono ?_
    rintro e u' w'' ⟨rfl, rfl, rfl⟩
    rw [HW6.out]
    refine leaves_cons (f := 68) (args := #[.pointer (some ⟨w.heap.size + 1, 0, none⟩), .pointer (some ⟨w.heap.size, 0, none⟩)]) (by simp [settle]) (by simp [go_sem]) ?_
    refine (getOp_drop (w.heap.size + 1) w.heap.size 11 [.int .i64 0, .int .i64 0, .int .i64 0, .int .i64 0, .string ⟨#[]⟩, .string ⟨#[]⟩, .string ⟨#[]⟩, .string ⟨#[]⟩, .string ⟨#[]⟩, .slice none 0 0, .string ⟨#[]⟩, .int .i64 0, .slice none 0 0, .int .i64 0, .int .i64 0, .string ⟨#[]⟩, .string ⟨#[]⟩, .string ⟨#[]⟩, .int .i64 0, .bool false, .int .i64 0, .int .i64 0, .int .i64 0] _ _ (by omega) (by decide) HE6.out HX6.out rfl).mono ?_
    rintro e u' w'' ⟨rfl, rfl, k1, k2, k3⟩
    refine ⟨_, results_cell2 rfl _ _ w.heap.size (w.heap.size + 1) 69 #[.int .i64 0, .int .i64 0, .int .i64 0, .int .i64 0, .string ⟨#[]⟩, .string ⟨#[]⟩, .string ⟨#[]⟩, .string ⟨#[]⟩, .string ⟨#[]⟩, .slice none 0 0, .string ⟨#[]⟩, .int .i64 0, .slice none 0 0, .int .i64 0, .int .i64 0, .string ⟨#[]⟩, .string ⟨#[]⟩, .string ⟨#[]⟩, .int .i64 0, .bool false, .int .i64 0, .int .i64 0, .int .i64 0] (0, 0) _ (.int .i64 11) rfl k1 Tryz.underlying69 rfl (by kernel_rfl) rfl (load_errno k2), ?_⟩
    exact ⟨(0, 0, 0, (0, (⟨#[]⟩ : ByteArray), (⟨#[]⟩ : ByteArray), (⟨#[]⟩ : ByteArray), (⟨#[]⟩ : ByteArray), (⟨#[]⟩ : ByteArray), [], ((⟨#[]⟩ : ByteArray), 0, [], 0, 0, (⟨#[]⟩ : ByteArray), (⟨#[]⟩ : ByteArray), (⟨#[]⟩ : ByteArray)), 0, false), 0, 0, 0), [.int .i64 0, .int .i64 0, .int .i64 0, .int .i64 0, .string ⟨#[]⟩, .string ⟨#[]⟩, .string ⟨#[]⟩, .string ⟨#[]⟩, .string ⟨#[]⟩, .slice none 0 0, .string ⟨#[]⟩, .int .i64 0, .slice none 0 0, .int .i64 0, .int .i64 0, .string ⟨#[]⟩, .string ⟨#[]⟩, .string ⟨#[]⟩, .int .i64 0, .bool false, .int .i64 0, .int .i64 0, .int .i64 0], 11, rfl, (mkMOp (0, 0, 0, (0, (⟨#[]⟩ : ByteArray), (⟨#[]⟩ : ByteArray), (⟨#[]⟩ : ByteArray), (⟨#[]⟩ : ByteArray), (⟨#[]⟩ : ByteArray), [], ((⟨#[]⟩ : ByteArray), 0, [], 0, 0, (⟨#[]⟩ : ByteArray), (⟨#[]⟩ : ByteArray), (⟨#[]⟩ : ByteArray)), 0, false), 0, 0, 0) (Kd.R_nil _ _ _ _ _) (Kd.R_nil _ _ _ _ _)), HB6.out.trans (k3 _ (Nat.le_refl _) HB6.out.size), .inr ⟨rfl, rfl, HBAD.out⟩⟩
set_option maxRecDepth 100000 in
set_option maxHeartbeats 16000000 in
theorem wire_GetOp (A : Option Addr) (c : Nat) {B : Bs} (w : World) (hA : (Kd.int .u8).C w A B.length B) (hc : B.length ≤ c) (hB : IsB B) (hl : B.length < 140737488355328) :
    Calls Tryz.prog 18 #[.slice A B.length c] w (GetTold dOp kOp (0, 0, 0, (0, (⟨#[]⟩ : ByteArray), (⟨#[]⟩ : ByteArray), (⟨#[]⟩ : ByteArray), (⟨#[]⟩ : ByteArray), (⟨#[]⟩ : ByteArray), [], ((⟨#[]⟩ : ByteArray), 0, [], 0, 0, (⟨#[]⟩ : ByteArray), (⟨#[]⟩ : ByteArray), (⟨#[]⟩ : ByteArray)), 0, false), 0, 0, 0) w B) := by
  have hb0 : Below w.heap.size w (w.alloc (.cells #[.int .i64 0, .int .i64 0, .int .i64 0, .int .i64 0, .string ⟨#[]⟩, .string ⟨#[]⟩, .string ⟨#[]⟩, .string ⟨#[]⟩, .string ⟨#[]⟩, .slice none 0 0, .string ⟨#[]⟩, .int .i64 0, .slice none 0 0, .int .i64 0, .int .i64 0, .string ⟨#[]⟩, .string ⟨#[]⟩, .string ⟨#[]⟩, .int .i64 0, .bool false, .int .i64 0, .int .i64 0, .int .i64 0] 69)) := (Below.refl _ _).alloc (Nat.le_refl _) _
  have hx0 := blk_new w (.cells #[.int .i64 0, .int .i64 0, .int .i64 0, .int .i64 0, .string ⟨#[]⟩, .string ⟨#[]⟩, .string ⟨#[]⟩, .string ⟨#[]⟩, .string ⟨#[]⟩, .slice none 0 0, .string ⟨#[]⟩, .int .i64 0, .slice none 0 0, .int .i64 0, .int .i64 0, .string ⟨#[]⟩, .string ⟨#[]⟩, .string ⟨#[]⟩, .int .i64 0, .bool false, .int .i64 0, .int .i64 0, .int .i64 0] 69)
  obtain ⟨W0, hW0⟩ : ∃ W0, w.alloc (.cells #[.int .i64 0, .int .i64 0, .int .i64 0, .int .i64 0, .string ⟨#[]⟩, .string ⟨#[]⟩, .string ⟨#[]⟩, .string ⟨#[]⟩, .string ⟨#[]⟩, .slice none 0 0, .string ⟨#[]⟩, .int .i64 0, .slice none 0 0, .int .i64 0, .int .i64 0, .string ⟨#[]⟩, .string ⟨#[]⟩, .string ⟨#[]⟩, .int .i64 0, .bool false, .int .i64 0, .int .i64 0, .int .i64 0] 69) = W0 := ⟨_, rfl⟩
  rw [hW0] at hb0 hx0
  have C1 := Lib.hid (getOp A c W0 (Kd.C_below hA hb0) hc hB hl)
  have HW := Lib.hid hW0
  have HB0 := Lib.hid hb0
  have HX0 := Lib.hid hx0
  clear hA hB hb0 hx0 hW0
  go_enter Tryz.func18, Tryz.ntmps18
  go_wp2_with fail
  rw [HW.out]
  refine C1.out.mono ?_
  rintro e w1 ⟨x, cs, k, rfl, hM, hb, hh⟩
  have hln : cs.length = 23 := kOp.K_len (kOp.K_of_M hM)
  have h9 : cs.toArray.size = 23 := by simpa using hln
  have hx1 := (hb.block _ (blk_lt HX0.out)).trans HX0.out
  obtain ⟨W3, hW3, hx3, _, hbl, hot⟩ := own_stores [] [.int .i64 0, .int .i64 0, .int .i64 0, .int .i64 0, .string ⟨#[]⟩, .string ⟨#[]⟩, .string ⟨#[]⟩, .string ⟨#[]⟩, .string ⟨#[]⟩, .slice none 0 0, .string ⟨#[]⟩, .int .i64 0, .slice none 0 0, .int .i64 0, .int .i64 0, .string ⟨#[]⟩, .string ⟨#[]⟩, .string ⟨#[]⟩, .int .i64 0, .bool false, .int .i64 0, .int .i64 0, .int .i64 0] cs [] hx1 (by decide) (by rw [hln]; rfl)
  have HTH := Lib.hid (show w1.there w.heap.size 0 cs.toArray.size from by rw [h9]; exact there_blk [] [.int .i64 0, .int .i64 0, .int .i64 0, .int .i64 0, .string ⟨#[]⟩, .string ⟨#[]⟩, .string ⟨#[]⟩, .string ⟨#[]⟩, .string ⟨#[]⟩, .slice none 0 0, .string ⟨#[]⟩, .int .i64 0, .slice none 0 0, .int .i64 0, .int .i64 0, .string ⟨#[]⟩, .string ⟨#[]⟩, .string ⟨#[]⟩, .int .i64 0, .bool false, .int .i64 0, .int .i64 0, .int .i64 0] [] hx1)
  have HINF := Lib.hid (show (Tryz.prog.info? 69).map (·.size) = some cs.toArray.size from by rw [h9]; kernel_rfl)
  have HON := Lib.hid (all_oneCell_toArray (kOp.K_one (kOp.K_of_M hM)))
  have HM := Lib.hid (M_only (kOp.M_lower HB0.out.size hM) hx1 (by decide) hot)
  have HB := Lib.hid ((HB0.out.trans (hb.mono HB0.out.size)).trans (hbl w.heap.size (Nat.le_refl _)))
  have HX3 := Lib.hid (show W3.heap[w.heap.size]? = some (.cells cs.toArray 69 (0, 0)) from by simpa using hx3)
  have HV := Lib.hid hW3
  have HH := Lib.hid hh
  clear hM hb hh C1 hln h9 hx1 hW3 hx3 hbl hot HW
  go_wp2_with ((with_reducible refine gate_store (t := 69) rfl ?_); refine wpList_store_mid rfl 69 _ _ rfl w.heap.size 0 cs.toArray rfl rfl HTH.out HINF.out HON.out ?_; rw [show w1.setCells w.heap.size 0 cs.toArray.toList = W3 from HV.out])
  refine bodyPost_ret (v := .tuple #[.agg cs.toArray, .int .i64 k]) (results_ct (p := 2) (u := 3) rfl _ _ w.heap.size 69 cs.toArray (0, 0) _ rfl HX3.out Tryz.underlying69 rfl HINF.out) rfl ?_
  exact ⟨x, cs, k, rfl, HM.out, HB.out, HH.out⟩
end Go.Proofs.YtoomcdgnnibjlaaGreat.Wr
/- The document's examples: awake answers true. -/
namespace Go.Proofs.YtoomcdgnnibjlaaGreat.Wr
open Go.RowKit Go.Proofs.YtoomcdgnnibjlaaGreatW.PrintWords Go.Proofs.YtoomcdgnnibjlaaGreatW.PrintLast
set_option linter.unusedVariables false
set_option linter.unusedSimpArgs false

def op7 : TOp := (4, 0, 0, (0, (⟨#[]⟩ : ByteArray), (⟨#[]⟩ : ByteArray), (⟨#[]⟩ : ByteArray), (⟨#[]⟩ : ByteArray), (⟨#[]⟩ : ByteArray), [], ((⟨#[]⟩ : ByteArray), 0, [], 0, 0, (⟨#[]⟩ : ByteArray), (⟨#[]⟩ : ByteArray), (⟨#[]⟩ : ByteArray)), 0, false), 0, 0, 7)
def rec1 : TRecord := (0, 0, -1, (0, 0, 0, ([], []), (⟨#[]⟩ : ByteArray)), 0, (0, 0, ([], []), (⟨#[]⟩ : ByteArray)))
theorem op7_bytes : ∃ b, eOp op7 = .ok b ∧ b.length = 97 ∧ b[0]? = some 4 ∧ b[93]? = some 7 := ⟨_, rfl, rfl, rfl, rfl⟩
theorem rec1_err : eRecord rec1 = .error 1 := rfl
theorem nil_none : dOp [] = none := rfl
theorem op7_V : VOp op7 := by
  unfold VOp op7 VCommand VRule
  simp
theorem get_yes {α : Type} {e : α → Er} {d : Dc α} {w : α → Nat} {V : α → Prop} (h : Cod e d w V) {x : α} {b : Bs} (hV : V x) (he : e x = .ok b) : d b = some (x, []) := by
  have := h.there x b [] hV he
  rwa [List.append_nil] at this
/-- A copy of what was read, in a box of the caller's own. -/
theorem box_put {w : World} {t n : Nat} {zs cs : List Value} (hz : zs.length = n) (hc : cs.length = n) (ht : t ≠ 90 ∧ t ≠ 125 ∧ t ≠ 5) :
    ∃ W0, w.alloc (.cells zs.toArray t) = W0 ∧ W0.there w.heap.size 0 cs.toArray.size ∧ ∃ W1, W0.setCells w.heap.size 0 cs.toArray.toList = W1 ∧ W1.heap[w.heap.size]? = some (.cells cs.toArray t (0, 0)) ∧ Below w.heap.size w W1 := by
  have hb := blk_new w (.cells zs.toArray t)
  have hb' : (w.alloc (.cells zs.toArray t)).heap[w.heap.size]? = some (.cells ([] ++ (zs ++ [])).toArray t (0, 0)) := by simpa using hb
  obtain ⟨W1, h1, h2, _, h3, _⟩ := own_stores [] zs cs [] hb' ht (by rw [hz, hc])
  refine ⟨_, rfl, ?_, W1, by simpa using h1, by simpa using h2, ((Below.refl _ _).alloc (Nat.le_refl _) _).trans (h3 _ (Nat.le_refl _))⟩
  have hs : cs.toArray.size = zs.length := by simp [hz, hc]
  rw [hs]
  exact there_blk [] zs [] hb'
set_option maxRecDepth 100000 in
set_option maxHeartbeats 16000000 in
theorem awake_true (w : World) : Calls Tryz.prog 9 #[] w fun e w' => e = .returned (.bool true) ∧ Below w.heap.size w w' := by
  obtain ⟨b, hb, hl, h0, h93⟩ := op7_bytes
  have C1 := wire_PutOp op7 none 0 none 0 w (Kd.C_nil _ _) (Kd.C_nil _ _) (by decide)
  rw [hb] at C1
  have C1 := Lib.hid C1
  have HB := Lib.hid hb
  have HL := Lib.hid hl
  have H0 := Lib.hid h0
  have H93 := Lib.hid h93
  clear hb hl h0 h93
  go_enter Tryz.func9, Tryz.ntmps9
  go_wp2_with fail
  refine (show Calls Tryz.prog 17 #[.agg #[.int .i64 4, .int .i64 0, .int .i64 0, .int .i64 0, .string ⟨#[]⟩, .string ⟨#[]⟩, .string ⟨#[]⟩, .string ⟨#[]⟩, .string ⟨#[]⟩, .slice none 0 0, .string ⟨#[]⟩, .int .i64 0, .slice none 0 0, .int .i64 0, .int .i64 0, .string ⟨#[]⟩, .string ⟨#[]⟩, .string ⟨#[]⟩, .int .i64 0, .bool false, .int .i64 0, .int .i64 0, .int .i64 7]] w (PutTold w (.ok b)) from C1.out).mono ?_
  rintro e w1 ⟨v, rfl, hR, hb1⟩
  have hR1 : (Kd.int .u8).R 5 w1 w.heap.size (fun _ => True) v b := hR
  obtain ⟨A, c, rfl, hle, hC⟩ := Kd.R_reads hR1
  have hlen : b.length = 97 := HL.out
  obtain ⟨ad, e0, g0⟩ := at_byte hC 0 (by omega)
  obtain ⟨ad', e1, g93⟩ := at_byte hC 93 (by omega)
  cases e0
  cases e1
  have e3 : b[0] = 4 := by have := H0.out; rw [List.getElem?_eq_getElem (by omega)] at this; exact Option.some.inj this
  have e4 : b[93] = 7 := by have := H93.out; rw [List.getElem?_eq_getElem (by omega)] at this; exact Option.some.inj this
  rw [e3] at g0
  rw [e4] at g93
  simp [Go.Addr.add] at g0 g93
  have hIB : IsB b := codOp.isB _ _ HB.out
  have C2 := Lib.hid (wire_GetOp (some ad) c w1 hC hle hIB (by omega))
  rw [hlen] at C2
  have HB1 := Lib.hid hb1
  rw [hlen]
  clear hR hR1 hC hle e3 e4 hIB hb1 C1
  have hl97 : b.length ≤ 97 := by omega
  clear hlen
  go_wp2_with fail
  refine C2.out.mono ?_
  rintro e w2 ⟨x, cs, k, rfl, hM, hb2, hh⟩
  have hx : k = 0 ∧ x = op7 := by
    have hd := get_yes codOp op7_V HB.out
    rcases hh with ⟨rfl, h1⟩ | ⟨_, _, h1⟩
    · rw [hd] at h1; cases h1; exact ⟨rfl, rfl⟩
    · exact absurd hd (h1 _)
  obtain ⟨rfl, rfl⟩ := hx
  have hln : cs.length = 23 := kOp.K_len (kOp.K_of_M hM)
  obtain ⟨W0, hW0, hth, W1, hW1, hx1, hbx⟩ := box_put (w := w2) (t := 69) (zs := [.int .i64 0, .int .i64 0, .int .i64 0, .int .i64 0, .string ⟨#[]⟩, .string ⟨#[]⟩, .string ⟨#[]⟩, .string ⟨#[]⟩, .string ⟨#[]⟩, .slice none 0 0, .string ⟨#[]⟩, .int .i64 0, .slice none 0 0, .int .i64 0, .int .i64 0, .string ⟨#[]⟩, .string ⟨#[]⟩, .string ⟨#[]⟩, .int .i64 0, .bool false, .int .i64 0, .int .i64 0, .int .i64 0]) (n := 23) rfl hln (by decide)
  have HINF := Lib.hid (show (Tryz.prog.info? 69).map (·.size) = some cs.toArray.size from by rw [List.size_toArray, hln]; kernel_rfl)
  have HON := Lib.hid (all_oneCell_toArray (kOp.K_one (kOp.K_of_M hM)))
  obtain ⟨v9, v12, hcs, _⟩ := openMOp hM
  have q0 : W1.cell? ⟨w2.heap.size, 0, none⟩ = some (.int .i64 4) := cell_blk hx1 0 _ (by rw [hcs]; rfl)
  have q22 : W1.cell? ⟨w2.heap.size, 22, none⟩ = some (.int .i64 7) := cell_blk hx1 22 _ (by rw [hcs]; rfl)
  have HW0 := Lib.hid hW0
  have HW1 := Lib.hid hW1
  have HTH := Lib.hid hth
  have Q0 := Lib.hid q0
  have Q22 := Lib.hid q22
  have HBX := Lib.hid (hb2.trans (hbx.mono hb2.size))
  have HLT := Lib.hid (show w2.heap.size < W1.heap.size from blk_lt hx1)
  clear hcs hM hb2 hh hln hW0 hth hW1 hx1 hbx q0 q22 C2 g0 g93
  go_upto_region 5 with ((with_reducible refine gate_store (t := 69) rfl ?_); refine wpList_store_mid rfl 69 _ _ rfl w2.heap.size 0 cs.toArray rfl rfl (by rw [show w2.alloc (.cells #[.int .i64 0, .int .i64 0, .int .i64 0, .int .i64 0, .string ⟨#[]⟩, .string ⟨#[]⟩, .string ⟨#[]⟩, .string ⟨#[]⟩, .string ⟨#[]⟩, .slice none 0 0, .string ⟨#[]⟩, .int .i64 0, .slice none 0 0, .int .i64 0, .int .i64 0, .string ⟨#[]⟩, .string ⟨#[]⟩, .string ⟨#[]⟩, .int .i64 0, .bool false, .int .i64 0, .int .i64 0, .int .i64 0] 69) = W0 from HW0.out]; exact HTH.out) HINF.out HON.out ?_; rw [show w2.alloc (.cells #[.int .i64 0, .int .i64 0, .int .i64 0, .int .i64 0, .string ⟨#[]⟩, .string ⟨#[]⟩, .string ⟨#[]⟩, .string ⟨#[]⟩, .string ⟨#[]⟩, .slice none 0 0, .string ⟨#[]⟩, .int .i64 0, .slice none 0 0, .int .i64 0, .int .i64 0, .string ⟨#[]⟩, .string ⟨#[]⟩, .string ⟨#[]⟩, .int .i64 0, .bool false, .int .i64 0, .int .i64 0, .int .i64 0] 69) = W0 from HW0.out, show W0.setCells w2.heap.size 0 cs.toArray.toList = W1 from HW1.out])
  have C3 := Lib.hid (wire_GetOp none 0 W1 (Kd.C_nil _ _) (Nat.le_refl _) (show IsB [] from fun _ h => nomatch h) (by decide))
  clear HINF HON HW0 HW1 HTH W0
  go_wp2_with fail
  refine C3.out.mono ?_
  rintro e w3 ⟨x, cs, k, rfl, hM, hb3, hh⟩
  have hx : k = 11 := by
    rcases hh with ⟨_, h1⟩ | ⟨h, _, _⟩
    · rw [nil_none] at h1; cases h1
    · exact h
  subst hx
  have hln : cs.length = 23 := kOp.K_len (kOp.K_of_M hM)
  obtain ⟨W0, hW0, hth, W3, hW3, hx3, hbx⟩ := box_put (w := w3) (t := 69) (zs := [.int .i64 0, .int .i64 0, .int .i64 0, .int .i64 0, .string ⟨#[]⟩, .string ⟨#[]⟩, .string ⟨#[]⟩, .string ⟨#[]⟩, .string ⟨#[]⟩, .slice none 0 0, .string ⟨#[]⟩, .int .i64 0, .slice none 0 0, .int .i64 0, .int .i64 0, .string ⟨#[]⟩, .string ⟨#[]⟩, .string ⟨#[]⟩, .int .i64 0, .bool false, .int .i64 0, .int .i64 0, .int .i64 0]) (n := 23) rfl hln (by decide)
  have HINF := Lib.hid (show (Tryz.prog.info? 69).map (·.size) = some cs.toArray.size from by rw [List.size_toArray, hln]; kernel_rfl)
  have HON := Lib.hid (all_oneCell_toArray (kOp.K_one (kOp.K_of_M hM)))
  have hb4 : Below W1.heap.size W1 W3 := hb3.trans (hbx.mono hb3.size)
  have q0 : W3.cell? ⟨w2.heap.size, 0, none⟩ = some (.int .i64 4) := (hb4.cell HLT.out).trans Q0.out
  have q22 : W3.cell? ⟨w2.heap.size, 22, none⟩ = some (.int .i64 7) := (hb4.cell HLT.out).trans Q22.out
  have HW0 := Lib.hid hW0
  have HW3 := Lib.hid hW3
  have HTH := Lib.hid hth
  have Q0 := Lib.hid q0
  have Q22 := Lib.hid q22
  have HBX := Lib.hid (HBX.out.trans (hb4.mono HBX.out.size))
  have HLT := Lib.hid (show w2.heap.size < W3.heap.size from Nat.lt_of_lt_of_le HLT.out hb4.size)
  clear hM hb3 hh hln hW0 hth hW3 hx3 hbx q0 q22 C3 hb4
  go_upto_region 6 with ((with_reducible refine gate_store (t := 69) rfl ?_); refine wpList_store_mid rfl 69 _ _ rfl w3.heap.size 0 cs.toArray rfl rfl (by rw [show w3.alloc (.cells #[.int .i64 0, .int .i64 0, .int .i64 0, .int .i64 0, .string ⟨#[]⟩, .string ⟨#[]⟩, .string ⟨#[]⟩, .string ⟨#[]⟩, .string ⟨#[]⟩, .slice none 0 0, .string ⟨#[]⟩, .int .i64 0, .slice none 0 0, .int .i64 0, .int .i64 0, .string ⟨#[]⟩, .string ⟨#[]⟩, .string ⟨#[]⟩, .int .i64 0, .bool false, .int .i64 0, .int .i64 0, .int .i64 0] 69) = W0 from HW0.out]; exact HTH.out) HINF.out HON.out ?_; rw [show w3.alloc (.cells #[.int .i64 0, .int .i64 0, .int .i64 0, .int .i64 0, .string ⟨#[]⟩, .string ⟨#[]⟩, .string ⟨#[]⟩, .string ⟨#[]⟩, .string ⟨#[]⟩, .slice none 0 0, .string ⟨#[]⟩, .int .i64 0, .slice none 0 0, .int .i64 0, .int .i64 0, .string ⟨#[]⟩, .string ⟨#[]⟩, .string ⟨#[]⟩, .int .i64 0, .bool false, .int .i64 0, .int .i64 0, .int .i64 0] 69) = W0 from HW0.out, show W0.setCells w3.heap.size 0 cs.toArray.toList = W3 from HW3.out])
  have C4 := Lib.hid (wire_PutRecord rec1 none 0 none 0 none 0 none 0 W3 (Kd.C_nil _ _) (Kd.C_nil _ _) (Kd.C_nil _ _) (Kd.C_nil _ _) (by decide))
  clear HINF HON HW0 HW3 HTH W0
  go_wp2_with fail
  refine (show Calls Tryz.prog 19 #[.agg #[.int .i64 0, .int .i64 0, .int .i64 (-1), .int .i64 0, .int .i64 0, .int .i64 0, .slice none 0 0, .slice none 0 0, .string ⟨#[]⟩, .int .i64 0, .int .i64 0, .int .i64 0, .slice none 0 0, .slice none 0 0, .string ⟨#[]⟩]] W3 (PutTold W3 (.error 1)) from C4.out).mono ?_
  rintro e w4 ⟨v, rfl, hR, hb4⟩
  have q0 : w4.cell? ⟨w2.heap.size, 0, none⟩ = some (.int .i64 4) := (hb4.cell HLT.out).trans Q0.out
  have q22 : w4.cell? ⟨w2.heap.size, 22, none⟩ = some (.int .i64 7) := (hb4.cell HLT.out).trans Q22.out
  have hfin : Below w.heap.size w w4 := HB1.out.trans ((HBX.out.trans (hb4.mono HBX.out.size)).mono HB1.out.size)
  clear hR C4 Q0 Q22 hb4 HBX HB1
  go_wp2
  refine bodyPost_ret (v := .bool true) ?_ rfl ⟨rfl, hfin⟩
  rw [results_tmp Tryz.results9]
  rfl
end Go.Proofs.YtoomcdgnnibjlaaGreat.Wr
/- The document's writer: structs. -/
namespace Go.Proofs.YtoomcdgnnibjlaaGreat.Wr
open Go.RowKit Go.Proofs.YtoomcdgnnibjlaaGreatW.PrintWords Go.Proofs.YtoomcdgnnibjlaaGreatW.PrintLast
set_option linter.unusedVariables false
set_option linter.unusedSimpArgs false

set_option maxRecDepth 100000 in
set_option maxHeartbeats 16000000 in
theorem lay_rule (x : TRule) (A2 : Option Addr) (c2 : Nat) {w0 w : World} {g : Nat} {v : Value} {s0 : LSt} (h2 : Kd.string.C w0 A2 x.2.2.1.length x.2.2.1) (hS : LayAt w0 w g v s0) (hm : s0.1.length + wRule x < 140737488355328) :
    Calls Tryz.prog 98 #[.pointer (some ⟨g, 0, none⟩), .agg #[.string x.1, .int .i64 x.2.1, .slice A2 x.2.2.1.length c2, .int .i64 x.2.2.2.1, .int .i64 x.2.2.2.2.1, .string x.2.2.2.2.2.1, .string x.2.2.2.2.2.2.1, .string x.2.2.2.2.2.2.2]] w (LDone w0 g w (eRule x) (wRule x) s0) := by
  have hm' : s0.1.length + (wText x.1 + (4 + ((wList wText) x.2.2.1 + (8 + (8 + (wText x.2.2.2.2.2.1 + (wText x.2.2.2.2.2.2.1 + (wText x.2.2.2.2.2.2.2)))))))) < 140737488355328 := hm
  clear hm
  have hb0 : Below w.heap.size w (w.alloc (.cells #[.string x.1, .int .i64 x.2.1, .slice A2 x.2.2.1.length c2, .int .i64 x.2.2.2.1, .int .i64 x.2.2.2.2.1, .string x.2.2.2.2.2.1, .string x.2.2.2.2.2.2.1, .string x.2.2.2.2.2.2.2] 64)) := (Below.refl _ _).alloc (Nat.le_refl _) _
  have hx0 := blk_new w (.cells #[.string x.1, .int .i64 x.2.1, .slice A2 x.2.2.1.length c2, .int .i64 x.2.2.2.1, .int .i64 x.2.2.2.2.1, .string x.2.2.2.2.2.1, .string x.2.2.2.2.2.2.1, .string x.2.2.2.2.2.2.2] 64)
  obtain ⟨W0, hW0⟩ : ∃ W0, w.alloc (.cells #[.string x.1, .int .i64 x.2.1, .slice A2 x.2.2.1.length c2, .int .i64 x.2.2.2.1, .int .i64 x.2.2.2.2.1, .string x.2.2.2.2.2.1, .string x.2.2.2.2.2.2.1, .string x.2.2.2.2.2.2.2] 64) = W0 := ⟨_, rfl⟩
  rw [hW0] at hb0 hx0
  have S0 := Lib.hid (hS.stays hb0)
  have HB := Lib.hid hx0
  have T0 := Lib.hid (Stp.refl SL W0)
  have TW := Lib.hid (Stp.below (S := SL) hb0)
  have HW := Lib.hid hW0
  clear hb0 hx0 hW0 hS
  go_enter Tryz.func98, Tryz.ntmps98
  have q0 := cell_blk (T0.out.keep HB.out (by decide)) 0 _ rfl
  go_wp2_with fail
  rw [HW.out]
  clear HW
  clear q0
  refine (lay_text (x.1)   S0.out (by omega)).mono ?_
  rintro e w1 ⟨rfl, v1, s1, S1', T1', L1'⟩
  have hl1 : s1.1.length ≤ s0.1.length + (wText x.1) := by have := L1'.len; omega
  have S1 := Lib.hid S1'
  have T1 := Lib.hid (T0.out.trans T1')
  have L1 := Lib.hid L1'
  clear S1' T1' L1' S0 T0
  have q1 := cell_blk (T1.out.keep HB.out (by decide)) 1 _ rfl
  go_wp2_with fail
  clear q1
  refine (lay_number (x.2.1)   S1.out (by have := hl1; omega)).mono ?_
  rintro e w2 ⟨rfl, v2, s2, S2', T2', L2'⟩
  have hl2 : s2.1.length ≤ s0.1.length + (wText x.1 + (4)) := by have := L2'.len; have := hl1; omega
  clear hl1
  have S2 := Lib.hid S2'
  have T2 := Lib.hid (T1.out.trans T2')
  have L2 := Lib.hid L2'
  clear S2' T2' L2' S1 T1
  have q2 := cell_blk (T2.out.keep HB.out (by decide)) 2 _ rfl
  go_wp2_with fail
  clear q2
  refine (lay_texts A2 c2 (l := x.2.2.1) h2 S2.out (by have := hl2; omega)).mono ?_
  rintro e w3 ⟨rfl, v3, s3, S3', T3', L3'⟩
  have hl3 : s3.1.length ≤ s0.1.length + (wText x.1 + (4 + ((wList wText) x.2.2.1))) := by have := L3'.len; have := hl2; omega
  clear hl2
  have S3 := Lib.hid S3'
  have T3 := Lib.hid (T2.out.trans T3')
  have L3 := Lib.hid L3'
  clear S3' T3' L3' S2 T2
  have q3 := cell_blk (T3.out.keep HB.out (by decide)) 3 _ rfl
  go_wp2_with fail
  clear q3
  refine (lay_whole (x.2.2.2.1)   S3.out (by have := hl3; omega)).mono ?_
  rintro e w4 ⟨rfl, v4, s4, S4', T4', L4'⟩
  have hl4 : s4.1.length ≤ s0.1.length + (wText x.1 + (4 + ((wList wText) x.2.2.1 + (8)))) := by have := L4'.len; have := hl3; omega
  clear hl3
  have S4 := Lib.hid S4'
  have T4 := Lib.hid (T3.out.trans T4')
  have L4 := Lib.hid L4'
  clear S4' T4' L4' S3 T3
  have q4 := cell_blk (T4.out.keep HB.out (by decide)) 4 _ rfl
  go_wp2_with fail
  clear q4
  refine (lay_whole (x.2.2.2.2.1)   S4.out (by have := hl4; omega)).mono ?_
  rintro e w5 ⟨rfl, v5, s5, S5', T5', L5'⟩
  have hl5 : s5.1.length ≤ s0.1.length + (wText x.1 + (4 + ((wList wText) x.2.2.1 + (8 + (8))))) := by have := L5'.len; have := hl4; omega
  clear hl4
  have S5 := Lib.hid S5'
  have T5 := Lib.hid (T4.out.trans T5')
  have L5 := Lib.hid L5'
  clear S5' T5' L5' S4 T4
  have q5 := cell_blk (T5.out.keep HB.out (by decide)) 5 _ rfl
  go_wp2_with fail
  clear q5
  refine (lay_text (x.2.2.2.2.2.1)   S5.out (by have := hl5; omega)).mono ?_
  rintro e w6 ⟨rfl, v6, s6, S6', T6', L6'⟩
  have hl6 : s6.1.length ≤ s0.1.length + (wText x.1 + (4 + ((wList wText) x.2.2.1 + (8 + (8 + (wText x.2.2.2.2.2.1)))))) := by have := L6'.len; have := hl5; omega
  clear hl5
  have S6 := Lib.hid S6'
  have T6 := Lib.hid (T5.out.trans T6')
  have L6 := Lib.hid L6'
  clear S6' T6' L6' S5 T5
  have q6 := cell_blk (T6.out.keep HB.out (by decide)) 6 _ rfl
  go_wp2_with fail
  clear q6
  refine (lay_text (x.2.2.2.2.2.2.1)   S6.out (by have := hl6; omega)).mono ?_
  rintro e w7 ⟨rfl, v7, s7, S7', T7', L7'⟩
  have hl7 : s7.1.length ≤ s0.1.length + (wText x.1 + (4 + ((wList wText) x.2.2.1 + (8 + (8 + (wText x.2.2.2.2.2.1 + (wText x.2.2.2.2.2.2.1))))))) := by have := L7'.len; have := hl6; omega
  clear hl6
  have S7 := Lib.hid S7'
  have T7 := Lib.hid (T6.out.trans T7')
  have L7 := Lib.hid L7'
  clear S7' T7' L7' S6 T6
  have q7 := cell_blk (T7.out.keep HB.out (by decide)) 7 _ rfl
  go_wp2_with fail
  clear q7
  refine (lay_text (x.2.2.2.2.2.2.2)   S7.out (by have := hl7; omega)).mono ?_
  rintro e w8 ⟨rfl, v8, s8, S8', T8', L8'⟩
  have hl8 : s8.1.length ≤ s0.1.length + (wText x.1 + (4 + ((wList wText) x.2.2.1 + (8 + (8 + (wText x.2.2.2.2.2.1 + (wText x.2.2.2.2.2.2.1 + (wText x.2.2.2.2.2.2.2)))))))) := by have := L8'.len; have := hl7; omega
  clear hl7
  have S8 := Lib.hid S8'
  have T8 := Lib.hid (T7.out.trans T8')
  have L8 := Lib.hid L8'
  clear S8' T8' L8' S7 T7
  try go_wp2
  go_end0
  exact ⟨rfl, _, _, S8.out, TW.out.trans T8.out, LRel.seq L1.out (LRel.seq L2.out (LRel.seq L3.out (LRel.seq L4.out (LRel.seq L5.out (LRel.seq L6.out (LRel.seq L7.out L8.out))))))⟩
end Go.Proofs.YtoomcdgnnibjlaaGreat.Wr
/- The document's writer: structs with rows of structs. -/
namespace Go.Proofs.YtoomcdgnnibjlaaGreat.Wr
open Go.RowKit Go.Proofs.YtoomcdgnnibjlaaGreatW.PrintWords Go.Proofs.YtoomcdgnnibjlaaGreatW.PrintLast
set_option linter.unusedVariables false
set_option linter.unusedSimpArgs false

set_option maxRecDepth 100000 in
set_option maxHeartbeats 16000000 in
theorem lay_table (x : TTable) (A3 : Option Addr) (c3 : Nat) (A4 : Option Addr) (c4 : Nat) {w0 w : World} {g : Nat} {v : Value} {s0 : LSt} (h3 : kColumn.C w0 A3 x.2.2.2.1.length x.2.2.2.1) (h4 : kRule.C w0 A4 x.2.2.2.2.length x.2.2.2.2) (hS : LayAt w0 w g v s0) (hm : s0.1.length + wTable x < 140737488355328) :
    Calls Tryz.prog 83 #[.pointer (some ⟨g, 0, none⟩), .agg #[.string x.1, .string x.2.1, .string x.2.2.1, .slice A3 x.2.2.2.1.length c3, .slice A4 x.2.2.2.2.length c4]] w (LDone w0 g w (eTable x) (wTable x) s0) := by
  have hm' : s0.1.length + (wText x.1 + (wText x.2.1 + (wText x.2.2.1 + ((wList wColumn) x.2.2.2.1 + ((wList wRule) x.2.2.2.2))))) < 140737488355328 := hm
  clear hm
  have hb0 : Below w.heap.size w (w.alloc (.cells #[.string x.1, .string x.2.1, .string x.2.2.1, .slice A3 x.2.2.2.1.length c3, .slice A4 x.2.2.2.2.length c4] 134)) := (Below.refl _ _).alloc (Nat.le_refl _) _
  have hx0 := blk_new w (.cells #[.string x.1, .string x.2.1, .string x.2.2.1, .slice A3 x.2.2.2.1.length c3, .slice A4 x.2.2.2.2.length c4] 134)
  obtain ⟨W0, hW0⟩ : ∃ W0, w.alloc (.cells #[.string x.1, .string x.2.1, .string x.2.2.1, .slice A3 x.2.2.2.1.length c3, .slice A4 x.2.2.2.2.length c4] 134) = W0 := ⟨_, rfl⟩
  rw [hW0] at hb0 hx0
  have S0 := Lib.hid (hS.stays hb0)
  have HB := Lib.hid hx0
  have T0 := Lib.hid (Stp.refl SL W0)
  have TW := Lib.hid (Stp.below (S := SL) hb0)
  have HW := Lib.hid hW0
  clear hb0 hx0 hW0 hS
  go_enter Tryz.func83, Tryz.ntmps83
  have q0 := cell_blk (T0.out.keep HB.out (by decide)) 0 _ rfl
  go_wp2_with fail
  rw [HW.out]
  clear HW
  clear q0
  refine (lay_text (x.1)   S0.out (by omega)).mono ?_
  rintro e w1 ⟨rfl, v1, s1, S1', T1', L1'⟩
  have hl1 : s1.1.length ≤ s0.1.length + (wText x.1) := by have := L1'.len; omega
  have S1 := Lib.hid S1'
  have T1 := Lib.hid (T0.out.trans T1')
  have L1 := Lib.hid L1'
  clear S1' T1' L1' S0 T0
  have q1 := cell_blk (T1.out.keep HB.out (by decide)) 1 _ rfl
  go_wp2_with fail
  clear q1
  refine (lay_text (x.2.1)   S1.out (by have := hl1; omega)).mono ?_
  rintro e w2 ⟨rfl, v2, s2, S2', T2', L2'⟩
  have hl2 : s2.1.length ≤ s0.1.length + (wText x.1 + (wText x.2.1)) := by have := L2'.len; have := hl1; omega
  clear hl1
  have S2 := Lib.hid S2'
  have T2 := Lib.hid (T1.out.trans T2')
  have L2 := Lib.hid L2'
  clear S2' T2' L2' S1 T1
  have q2 := cell_blk (T2.out.keep HB.out (by decide)) 2 _ rfl
  go_wp2_with fail
  clear q2
  refine (lay_text (x.2.2.1)   S2.out (by have := hl2; omega)).mono ?_
  rintro e w3 ⟨rfl, v3, s3, S3', T3', L3'⟩
  have hl3 : s3.1.length ≤ s0.1.length + (wText x.1 + (wText x.2.1 + (wText x.2.2.1))) := by have := L3'.len; have := hl2; omega
  clear hl2
  have S3 := Lib.hid S3'
  have T3 := Lib.hid (T2.out.trans T3')
  have L3 := Lib.hid L3'
  clear S3' T3' L3' S2 T2
  have q3 := cell_blk (T3.out.keep HB.out (by decide)) 3 _ rfl
  go_wp2_with fail
  clear q3
  refine (lay_columns A3 c3 (l := x.2.2.2.1) h3 S3.out (by have := hl3; omega)).mono ?_
  rintro e w4 ⟨rfl, v4, s4, S4', T4', L4'⟩
  have hl4 : s4.1.length ≤ s0.1.length + (wText x.1 + (wText x.2.1 + (wText x.2.2.1 + ((wList wColumn) x.2.2.2.1)))) := by have := L4'.len; have := hl3; omega
  clear hl3
  have S4 := Lib.hid S4'
  have T4 := Lib.hid (T3.out.trans T4')
  have L4 := Lib.hid L4'
  clear S4' T4' L4' S3 T3
  have hr5 : s4.1.length + (wList wRule) x.2.2.2.2 < 140737488355328 := by have := hl4; omega
  have q4 := cell_blk (T4.out.keep HB.out (by decide)) 4 _ rfl
  have hx5 : x.2.2.2.2.length ≤ 9223372036854775807 := h4.2.1
  go_wp2_with fail
  clear q4
  refine (lay_many (x.2.2.2.2.length : Int) S4.out (many_room hr5)).mono ?_
  rintro e w5 ⟨b, rfl, v5, t5, S5', T5', hyes, hno⟩
  cases b with
  | false =>
    obtain ⟨L5, hne⟩ := LRel.list_no (e := eRule) (w := wRule) (hno rfl)
    have S5 := Lib.hid S5'
    have T5 := Lib.hid (T4.out.trans T5')
    have HN := Lib.hid hne
    have LN := Lib.hid L5
    clear S5' T5' hyes hno hne L5
    go_wp2
    first | go_end0 | refine bodyPost_ret (results_none rfl _ _ _) rfl ?_
    exact ⟨rfl, _, _, S5.out, TW.out.trans T5.out, LRel.seq L1.out (LRel.seq L2.out (LRel.seq L3.out (LRel.seq L4.out LN.out)))⟩
  | true =>
    obtain ⟨_, h45, L5'⟩ := hyes rfl
    have n45 : ¬ 4096 < x.2.2.2.2.length := by omega
    have S5 := Lib.hid S5'
    have T5 := Lib.hid (T4.out.trans T5')
    have L5s := Lib.hid (LRel.list_start (e := eRule) (w := wRule) L5')
    clear S5' T5' L5' hyes hno S4
    have q4 := cell_blk (T5.out.keep HB.out (by decide)) 4 _ rfl
    go_wp2
    go_loopw [4] (fun i wr => ∃ k : Nat, k ≤ x.2.2.2.2.length ∧ i = .int .i64 k ∧ ∃ vr sr, LayAt w0 wr g vr sr ∧ Stp SL W0 wr ∧ LRel (cat (eNum x.2.2.2.2.length) (cats ((x.2.2.2.2.take k).map eRule))) (4 + wSum wRule (x.2.2.2.2.take k)) s4 sr) (fun i _ => x.2.2.2.2.length - (intOf i).toNat)
    case atStart => exact ⟨0, Nat.zero_le _, rfl, _, _, S5.out, T5.out, L5s.out⟩
    case round =>
      obtain ⟨k, hk, rfl, vr, s5, hS, hT, hL⟩ := hrel
      have SR := Lib.hid hS
      have TR := Lib.hid hT
      have LR := Lib.hid hL
      clear hS hT hL S5 T5 L5s q4
      have qb := cell_blk (TR.out.keep HB.out (by decide)) 4 _ rfl
      by_cases hlt : k < x.2.2.2.2.length
      · skip
        have hroom := LRel.list_room hlt n45 hr5 LR.out
        obtain ⟨ad, B2, d2, e0, g0, g1, g2, g3, g4, g5, g6, g7, _, m2⟩ := atRule h4 k hlt
        cases e0
        have g0' := pw_cell_below SR.out.below g0
        clear g0
        have g1' := pw_cell_below SR.out.below g1
        clear g1
        have g2' := pw_cell_below SR.out.below g2
        clear g2
        have g3' := pw_cell_below SR.out.below g3
        clear g3
        have g4' := pw_cell_below SR.out.below g4
        clear g4
        have g5' := pw_cell_below SR.out.below g5
        clear g5
        have g6' := pw_cell_below SR.out.below g6
        clear g6
        have g7' := pw_cell_below SR.out.below g7
        clear g7
        go_wp2_with fail
        clear qb g0' g1' g2' g3' g4' g5' g6' g7'
        refine (lay_rule (x.2.2.2.2[k]) B2 d2 m2 SR.out hroom).mono ?_
        rintro e w' ⟨rfl, v', s', S', T', L'⟩
        have S1 := Lib.hid S'
        have T1 := Lib.hid (TR.out.trans T')
        have LL := Lib.hid (LRel.list_step hlt LR.out L')
        clear S' T' L' SR TR LR
        go_wp2
        go_roundw
        case rel => exact ⟨k + 1, by omega, by simp, _, _, S1.out, T1.out, LL.out⟩
        case measure => simp [intOf]; omega
      · have hke : k = x.2.2.2.2.length := by omega
        have S5 := Lib.hid SR.out
        have T5 := Lib.hid TR.out
        have L5' := LRel.list_yes hke n45 LR.out
        have hl5 : s5.1.length ≤ s0.1.length + (wText x.1 + (wText x.2.1 + (wText x.2.2.1 + ((wList wColumn) x.2.2.2.1 + ((wList wRule) x.2.2.2.2))))) := by have := L5'.len; have := hl4; omega
        have L5 := Lib.hid L5'
        clear L5' SR TR LR
        clear hl4
        go_wp2
        clear qb
        try go_wp2
        go_end0
        exact ⟨rfl, _, _, S5.out, TW.out.trans T5.out, LRel.seq L1.out (LRel.seq L2.out (LRel.seq L3.out (LRel.seq L4.out L5.out)))⟩
end Go.Proofs.YtoomcdgnnibjlaaGreat.Wr
/- The document's writer: structs with rows of structs. -/
namespace Go.Proofs.YtoomcdgnnibjlaaGreat.Wr
open Go.RowKit Go.Proofs.YtoomcdgnnibjlaaGreatW.PrintWords Go.Proofs.YtoomcdgnnibjlaaGreatW.PrintLast
set_option linter.unusedVariables false
set_option linter.unusedSimpArgs false

set_option maxRecDepth 100000 in
set_option maxHeartbeats 16000000 in
theorem lay_objects (x : TObjects) (A0 : Option Addr) (c0 : Nat) (A1 : Option Addr) (c1 : Nat) {w0 w : World} {g : Nat} {v : Value} {s0 : LSt} (h0 : kSchema.C w0 A0 x.1.length x.1) (h1 : kTable.C w0 A1 x.2.length x.2) (hS : LayAt w0 w g v s0) (hm : s0.1.length + wObjects x < 140737488355328) :
    Calls Tryz.prog 60 #[.pointer (some ⟨g, 0, none⟩), .agg #[.slice A0 x.1.length c0, .slice A1 x.2.length c1]] w (LDone w0 g w (eObjects x) (wObjects x) s0) := by
  have hm' : s0.1.length + ((wList wSchema) x.1 + ((wList wTable) x.2)) < 140737488355328 := hm
  clear hm
  have hb0 : Below w.heap.size w (w.alloc (.cells #[.slice A0 x.1.length c0, .slice A1 x.2.length c1] 27)) := (Below.refl _ _).alloc (Nat.le_refl _) _
  have hx0 := blk_new w (.cells #[.slice A0 x.1.length c0, .slice A1 x.2.length c1] 27)
  obtain ⟨W0, hW0⟩ : ∃ W0, w.alloc (.cells #[.slice A0 x.1.length c0, .slice A1 x.2.length c1] 27) = W0 := ⟨_, rfl⟩
  rw [hW0] at hb0 hx0
  have S0 := Lib.hid (hS.stays hb0)
  have HB := Lib.hid hx0
  have T0 := Lib.hid (Stp.refl SL W0)
  have TW := Lib.hid (Stp.below (S := SL) hb0)
  have HW := Lib.hid hW0
  clear hb0 hx0 hW0 hS
  go_enter Tryz.func60, Tryz.ntmps60
  have hr1 : s0.1.length + (wList wSchema) x.1 < 140737488355328 := by omega
  have q0 := cell_blk (T0.out.keep HB.out (by decide)) 0 _ rfl
  have hx1 : x.1.length ≤ 9223372036854775807 := h0.2.1
  go_wp2_with fail
  rw [HW.out]
  clear HW
  clear q0
  refine (lay_many (x.1.length : Int) S0.out (many_room hr1)).mono ?_
  rintro e w1 ⟨b, rfl, v1, t1, S1', T1', hyes, hno⟩
  cases b with
  | false =>
    obtain ⟨L1, hne⟩ := LRel.list_no (e := eSchema) (w := wSchema) (hno rfl)
    have S1 := Lib.hid S1'
    have T1 := Lib.hid (T0.out.trans T1')
    have HN := Lib.hid hne
    have LN := Lib.hid L1
    clear S1' T1' hyes hno hne L1
    go_wp2
    first | go_end0 | refine bodyPost_ret (results_none rfl _ _ _) rfl ?_
    exact ⟨rfl, _, _, S1.out, TW.out.trans T1.out, LRel.seq LN.out ((LRel.skip _ _ _ HN.out))⟩
  | true =>
    obtain ⟨_, h41, L1'⟩ := hyes rfl
    have n41 : ¬ 4096 < x.1.length := by omega
    have S1 := Lib.hid S1'
    have T1 := Lib.hid (T0.out.trans T1')
    have L1s := Lib.hid (LRel.list_start (e := eSchema) (w := wSchema) L1')
    clear S1' T1' L1' hyes hno S0
    have q0 := cell_blk (T1.out.keep HB.out (by decide)) 0 _ rfl
    go_wp2
    go_loopw [4] (fun i wr => ∃ k : Nat, k ≤ x.1.length ∧ i = .int .i64 k ∧ ∃ vr sr, LayAt w0 wr g vr sr ∧ Stp SL W0 wr ∧ LRel (cat (eNum x.1.length) (cats ((x.1.take k).map eSchema))) (4 + wSum wSchema (x.1.take k)) s0 sr) (fun i _ => x.1.length - (intOf i).toNat)
    case atStart => exact ⟨0, Nat.zero_le _, rfl, _, _, S1.out, T1.out, L1s.out⟩
    case round =>
      obtain ⟨k, hk, rfl, vr, s1, hS, hT, hL⟩ := hrel
      have SR := Lib.hid hS
      have TR := Lib.hid hT
      have LR := Lib.hid hL
      clear hS hT hL S1 T1 L1s q0
      have qb := cell_blk (TR.out.keep HB.out (by decide)) 0 _ rfl
      by_cases hlt : k < x.1.length
      · skip
        have hroom := LRel.list_room hlt n41 hr1 LR.out
        obtain ⟨ad, e0, g0, g1⟩ := atSchema h0 k hlt
        cases e0
        have hroom' : s1.1.length + (wText x.1[k].1 + (wText x.1[k].2)) < 140737488355328 := hroom
        clear hroom
        have Z0 := Lib.hid SR.out
        have Y0 := Lib.hid TR.out
        have g0' := pw_cell_below Z0.out.below g0
        have qc := cell_blk (Y0.out.keep HB.out (by decide)) 0 _ rfl
        go_wp2_with fail
        clear g0' qc qb
        refine (lay_text (x.1[k].1) Z0.out (by omega)).mono ?_
        rintro e w' ⟨rfl, u1, z1, Z1', Y1', X1'⟩
        have y1 : z1.1.length ≤ s1.1.length + (wText x.1[k].1) := by have := X1'.len; omega
        have Z1 := Lib.hid Z1'
        have Y1 := Lib.hid (Y0.out.trans Y1')
        have X1 := Lib.hid X1'
        clear Z1' Y1' X1' Z0 Y0
        have g1' := pw_cell_below Z1.out.below g1
        have qc := cell_blk (Y1.out.keep HB.out (by decide)) 0 _ rfl
        go_wp2_with fail
        clear g1' qc
        refine (lay_text (x.1[k].2) Z1.out (by have := y1; omega)).mono ?_
        rintro e w' ⟨rfl, u2, z2, Z2', Y2', X2'⟩
        have y2 : z2.1.length ≤ s1.1.length + (wText x.1[k].1 + (wText x.1[k].2)) := by have := X2'.len; have := y1; omega
        have Z2 := Lib.hid Z2'
        have Y2 := Lib.hid (Y1.out.trans Y2')
        have X2 := Lib.hid X2'
        clear Z2' Y2' X2' Z1 Y1
        have LL := Lib.hid (LRel.list_step (e := eSchema) (w := wSchema) hlt LR.out (show LRel (eSchema x.1[k]) (wSchema x.1[k]) s1 z2 from LRel.seq X1.out (X2.out)))
        have S1 := Lib.hid Z2.out
        have T1 := Lib.hid Y2.out
        clear Z2 Y2 SR TR LR X1 y1 X2 y2
        go_wp2
        go_roundw
        case rel => exact ⟨k + 1, by omega, by simp, _, _, S1.out, T1.out, LL.out⟩
        case measure => simp [intOf]; omega
      · have hke : k = x.1.length := by omega
        have S1 := Lib.hid SR.out
        have T1 := Lib.hid TR.out
        have L1' := LRel.list_yes hke n41 LR.out
        have hl1 : s1.1.length ≤ s0.1.length + ((wList wSchema) x.1) := by have := L1'.len; omega
        have L1 := Lib.hid L1'
        clear L1' SR TR LR
        have hr2 : s1.1.length + (wList wTable) x.2 < 140737488355328 := by have := hl1; omega
        have q1 := cell_blk (T1.out.keep HB.out (by decide)) 1 _ rfl
        have hx2 : x.2.length ≤ 9223372036854775807 := h1.2.1
        go_wp2_with fail
        clear qb
        clear q1
        refine (lay_many (x.2.length : Int) S1.out (many_room hr2)).mono ?_
        rintro e w2 ⟨b, rfl, v2, t2, S2', T2', hyes, hno⟩
        cases b with
        | false =>
          obtain ⟨L2, hne⟩ := LRel.list_no (e := eTable) (w := wTable) (hno rfl)
          have S2 := Lib.hid S2'
          have T2 := Lib.hid (T1.out.trans T2')
          have HN := Lib.hid hne
          have LN := Lib.hid L2
          clear S2' T2' hyes hno hne L2
          go_wp2
          first | go_end0 | refine bodyPost_ret (results_none rfl _ _ _) rfl ?_
          exact ⟨rfl, _, _, S2.out, TW.out.trans T2.out, LRel.seq L1.out LN.out⟩
        | true =>
          obtain ⟨_, h42, L2'⟩ := hyes rfl
          have n42 : ¬ 4096 < x.2.length := by omega
          have S2 := Lib.hid S2'
          have T2 := Lib.hid (T1.out.trans T2')
          have L2s := Lib.hid (LRel.list_start (e := eTable) (w := wTable) L2')
          clear S2' T2' L2' hyes hno S1
          have q1 := cell_blk (T2.out.keep HB.out (by decide)) 1 _ rfl
          go_wp2
          go_loopw [5] (fun i wr => ∃ k : Nat, k ≤ x.2.length ∧ i = .int .i64 k ∧ ∃ vr sr, LayAt w0 wr g vr sr ∧ Stp SL W0 wr ∧ LRel (cat (eNum x.2.length) (cats ((x.2.take k).map eTable))) (4 + wSum wTable (x.2.take k)) s1 sr) (fun i _ => x.2.length - (intOf i).toNat)
          case atStart => exact ⟨0, Nat.zero_le _, rfl, _, _, S2.out, T2.out, L2s.out⟩
          case round =>
            obtain ⟨k, hk, rfl, vr, s2, hS, hT, hL⟩ := hrel
            have SR := Lib.hid hS
            have TR := Lib.hid hT
            have LR := Lib.hid hL
            clear hS hT hL S2 T2 L2s q1
            have qb := cell_blk (TR.out.keep HB.out (by decide)) 1 _ rfl
            by_cases hlt : k < x.2.length
            · skip
              have hroom := LRel.list_room hlt n42 hr2 LR.out
              obtain ⟨ad, B3, d3, B4, d4, e0, g0, g1, g2, g3, g4, _, m3, _, m4⟩ := atTable h1 k hlt
              cases e0
              have g0' := pw_cell_below SR.out.below g0
              clear g0
              have g1' := pw_cell_below SR.out.below g1
              clear g1
              have g2' := pw_cell_below SR.out.below g2
              clear g2
              have g3' := pw_cell_below SR.out.below g3
              clear g3
              have g4' := pw_cell_below SR.out.below g4
              clear g4
              go_wp2_with fail
              clear qb g0' g1' g2' g3' g4'
              refine (lay_table (x.2[k]) B3 d3 B4 d4 m3 m4 SR.out hroom).mono ?_
              rintro e w' ⟨rfl, v', s', S', T', L'⟩
              have S1 := Lib.hid S'
              have T1 := Lib.hid (TR.out.trans T')
              have LL := Lib.hid (LRel.list_step hlt LR.out L')
              clear S' T' L' SR TR LR
              go_wp2
              go_roundw
              case rel => exact ⟨k + 1, by omega, by simp, _, _, S1.out, T1.out, LL.out⟩
              case measure => simp [intOf]; omega
            · have hke : k = x.2.length := by omega
              have S2 := Lib.hid SR.out
              have T2 := Lib.hid TR.out
              have L2' := LRel.list_yes hke n42 LR.out
              have hl2 : s2.1.length ≤ s0.1.length + ((wList wSchema) x.1 + ((wList wTable) x.2)) := by have := L2'.len; have := hl1; omega
              have L2 := Lib.hid L2'
              clear L2' SR TR LR
              clear hl1
              go_wp2
              clear qb
              try go_wp2
              go_end0
              exact ⟨rfl, _, _, S2.out, TW.out.trans T2.out, LRel.seq L1.out L2.out⟩
end Go.Proofs.YtoomcdgnnibjlaaGreat.Wr
/- The document's writer: structs with rows of structs. -/
namespace Go.Proofs.YtoomcdgnnibjlaaGreat.Wr
open Go.RowKit Go.Proofs.YtoomcdgnnibjlaaGreatW.PrintWords Go.Proofs.YtoomcdgnnibjlaaGreatW.PrintLast
set_option linter.unusedVariables false
set_option linter.unusedSimpArgs false

set_option maxRecDepth 100000 in
set_option maxHeartbeats 16000000 in
theorem lay_Catalog (x : TCatalog) (A2 : Option Addr) (c2 : Nat) (A3 : Option Addr) (c3 : Nat) (A4 : Option Addr) (c4 : Nat) (A5 : Option Addr) (c5 : Nat) (A6 : Option Addr) (c6 : Nat) {w0 w : World} {g : Nat} {v : Value} {s0 : LSt} (h2 : kSchema.C w0 A2 x.2.2.1.1.length x.2.2.1.1) (h3 : kTable.C w0 A3 x.2.2.1.2.length x.2.2.1.2) (h4 : Kd.string.C w0 A4 x.2.2.2.1.1.length x.2.2.2.1.1) (h5 : kMember.C w0 A5 x.2.2.2.1.2.length x.2.2.2.1.2) (h6 : kGrant.C w0 A6 x.2.2.2.2.length x.2.2.2.2) (hS : LayAt w0 w g v s0) (hm : s0.1.length + wCatalog x < 140737488355328) :
    Calls Tryz.prog 35 #[.pointer (some ⟨g, 0, none⟩), .agg #[.int .i64 x.1, .int .i64 x.2.1, .slice A2 x.2.2.1.1.length c2, .slice A3 x.2.2.1.2.length c3, .slice A4 x.2.2.2.1.1.length c4, .slice A5 x.2.2.2.1.2.length c5, .slice A6 x.2.2.2.2.length c6]] w (LDone w0 g w (eCatalog x) (wCatalog x) s0) := by
  have hm' : s0.1.length + (4 + (4 + (wObjects x.2.2.1 + (((wList wText) x.2.2.2.1.1 + ((wList wMember) x.2.2.2.1.2)) + ((wList wGrant) x.2.2.2.2))))) < 140737488355328 := hm
  clear hm
  have hb0 : Below w.heap.size w (w.alloc (.cells #[.int .i64 x.1, .int .i64 x.2.1, .slice A2 x.2.2.1.1.length c2, .slice A3 x.2.2.1.2.length c3, .slice A4 x.2.2.2.1.1.length c4, .slice A5 x.2.2.2.1.2.length c5, .slice A6 x.2.2.2.2.length c6] 34)) := (Below.refl _ _).alloc (Nat.le_refl _) _
  have hx0 := blk_new w (.cells #[.int .i64 x.1, .int .i64 x.2.1, .slice A2 x.2.2.1.1.length c2, .slice A3 x.2.2.1.2.length c3, .slice A4 x.2.2.2.1.1.length c4, .slice A5 x.2.2.2.1.2.length c5, .slice A6 x.2.2.2.2.length c6] 34)
  obtain ⟨W0, hW0⟩ : ∃ W0, w.alloc (.cells #[.int .i64 x.1, .int .i64 x.2.1, .slice A2 x.2.2.1.1.length c2, .slice A3 x.2.2.1.2.length c3, .slice A4 x.2.2.2.1.1.length c4, .slice A5 x.2.2.2.1.2.length c5, .slice A6 x.2.2.2.2.length c6] 34) = W0 := ⟨_, rfl⟩
  rw [hW0] at hb0 hx0
  have S0 := Lib.hid (hS.stays hb0)
  have HB := Lib.hid hx0
  have T0 := Lib.hid (Stp.refl SL W0)
  have TW := Lib.hid (Stp.below (S := SL) hb0)
  have HW := Lib.hid hW0
  clear hb0 hx0 hW0 hS
  go_enter Tryz.func35, Tryz.ntmps35
  have q0 := cell_blk (T0.out.keep HB.out (by decide)) 0 _ rfl
  go_wp2_with fail
  rw [HW.out]
  clear HW
  clear q0
  refine (lay_number (x.1)   S0.out (by omega)).mono ?_
  rintro e w1 ⟨rfl, v1, s1, S1', T1', L1'⟩
  have hl1 : s1.1.length ≤ s0.1.length + (4) := by have := L1'.len; omega
  have S1 := Lib.hid S1'
  have T1 := Lib.hid (T0.out.trans T1')
  have L1 := Lib.hid L1'
  clear S1' T1' L1' S0 T0
  have q1 := cell_blk (T1.out.keep HB.out (by decide)) 1 _ rfl
  go_wp2_with fail
  clear q1
  refine (lay_number (x.2.1)   S1.out (by have := hl1; omega)).mono ?_
  rintro e w2 ⟨rfl, v2, s2, S2', T2', L2'⟩
  have hl2 : s2.1.length ≤ s0.1.length + (4 + (4)) := by have := L2'.len; have := hl1; omega
  clear hl1
  have S2 := Lib.hid S2'
  have T2 := Lib.hid (T1.out.trans T2')
  have L2 := Lib.hid L2'
  clear S2' T2' L2' S1 T1
  have q2 := cell_blk (T2.out.keep HB.out (by decide)) 2 _ rfl
  have q3 := cell_blk (T2.out.keep HB.out (by decide)) 3 _ rfl
  go_wp2_with fail
  clear q2 q3
  refine (lay_objects (x.2.2.1) A2 c2 A3 c3 h2 h3 S2.out (by have := hl2; omega)).mono ?_
  rintro e w3 ⟨rfl, v3, s3, S3', T3', L3'⟩
  have hl3 : s3.1.length ≤ s0.1.length + (4 + (4 + (wObjects x.2.2.1))) := by have := L3'.len; have := hl2; omega
  clear hl2
  have S3 := Lib.hid S3'
  have T3 := Lib.hid (T2.out.trans T3')
  have L3 := Lib.hid L3'
  clear S3' T3' L3' S2 T2
  have q4 := cell_blk (T3.out.keep HB.out (by decide)) 4 _ rfl
  go_wp2_with fail
  clear q4
  refine (lay_texts A4 c4 (l := x.2.2.2.1.1) h4 S3.out (by have := hl3; omega)).mono ?_
  rintro e w4 ⟨rfl, v4, s4, S4', T4', L4'⟩
  have hl4 : s4.1.length ≤ s0.1.length + (4 + (4 + (wObjects x.2.2.1 + ((wList wText) x.2.2.2.1.1)))) := by have := L4'.len; have := hl3; omega
  clear hl3
  have S4 := Lib.hid S4'
  have T4 := Lib.hid (T3.out.trans T4')
  have L4 := Lib.hid L4'
  clear S4' T4' L4' S3 T3
  have hr5 : s4.1.length + (wList wMember) x.2.2.2.1.2 < 140737488355328 := by have := hl4; omega
  have q5 := cell_blk (T4.out.keep HB.out (by decide)) 5 _ rfl
  have hx5 : x.2.2.2.1.2.length ≤ 9223372036854775807 := h5.2.1
  go_wp2_with fail
  clear q5
  refine (lay_many (x.2.2.2.1.2.length : Int) S4.out (many_room hr5)).mono ?_
  rintro e w5 ⟨b, rfl, v5, t5, S5', T5', hyes, hno⟩
  cases b with
  | false =>
    obtain ⟨L5, hne⟩ := LRel.list_no (e := eMember) (w := wMember) (hno rfl)
    have S5 := Lib.hid S5'
    have T5 := Lib.hid (T4.out.trans T5')
    have HN := Lib.hid hne
    have LN := Lib.hid L5
    clear S5' T5' hyes hno hne L5
    go_wp2
    first | go_end0 | refine bodyPost_ret (results_none rfl _ _ _) rfl ?_
    exact ⟨rfl, _, _, S5.out, TW.out.trans T5.out, LRel.seq L1.out (LRel.seq L2.out (LRel.seq L3.out (LRel.seq (LRel.seq L4.out LN.out) ((LRel.skip _ _ _ HN.out)))))⟩
  | true =>
    obtain ⟨_, h45, L5'⟩ := hyes rfl
    have n45 : ¬ 4096 < x.2.2.2.1.2.length := by omega
    have S5 := Lib.hid S5'
    have T5 := Lib.hid (T4.out.trans T5')
    have L5s := Lib.hid (LRel.list_start (e := eMember) (w := wMember) L5')
    clear S5' T5' L5' hyes hno S4
    have q5 := cell_blk (T5.out.keep HB.out (by decide)) 5 _ rfl
    go_wp2
    go_loopw [4] (fun i wr => ∃ k : Nat, k ≤ x.2.2.2.1.2.length ∧ i = .int .i64 k ∧ ∃ vr sr, LayAt w0 wr g vr sr ∧ Stp SL W0 wr ∧ LRel (cat (eNum x.2.2.2.1.2.length) (cats ((x.2.2.2.1.2.take k).map eMember))) (4 + wSum wMember (x.2.2.2.1.2.take k)) s4 sr) (fun i _ => x.2.2.2.1.2.length - (intOf i).toNat)
    case atStart => exact ⟨0, Nat.zero_le _, rfl, _, _, S5.out, T5.out, L5s.out⟩
    case round =>
      obtain ⟨k, hk, rfl, vr, s5, hS, hT, hL⟩ := hrel
      have SR := Lib.hid hS
      have TR := Lib.hid hT
      have LR := Lib.hid hL
      clear hS hT hL S5 T5 L5s q5
      have qb := cell_blk (TR.out.keep HB.out (by decide)) 5 _ rfl
      by_cases hlt : k < x.2.2.2.1.2.length
      · skip
        have hroom := LRel.list_room hlt n45 hr5 LR.out
        obtain ⟨ad, e0, g0, g1⟩ := atMember h5 k hlt
        cases e0
        have hroom' : s5.1.length + (wText x.2.2.2.1.2[k].1 + (wText x.2.2.2.1.2[k].2)) < 140737488355328 := hroom
        clear hroom
        have Z0 := Lib.hid SR.out
        have Y0 := Lib.hid TR.out
        have g0' := pw_cell_below Z0.out.below g0
        have qc := cell_blk (Y0.out.keep HB.out (by decide)) 5 _ rfl
        go_wp2_with fail
        clear g0' qc qb
        refine (lay_text (x.2.2.2.1.2[k].1) Z0.out (by omega)).mono ?_
        rintro e w' ⟨rfl, u1, z1, Z1', Y1', X1'⟩
        have y1 : z1.1.length ≤ s5.1.length + (wText x.2.2.2.1.2[k].1) := by have := X1'.len; omega
        have Z1 := Lib.hid Z1'
        have Y1 := Lib.hid (Y0.out.trans Y1')
        have X1 := Lib.hid X1'
        clear Z1' Y1' X1' Z0 Y0
        have g1' := pw_cell_below Z1.out.below g1
        have qc := cell_blk (Y1.out.keep HB.out (by decide)) 5 _ rfl
        go_wp2_with fail
        clear g1' qc
        refine (lay_text (x.2.2.2.1.2[k].2) Z1.out (by have := y1; omega)).mono ?_
        rintro e w' ⟨rfl, u2, z2, Z2', Y2', X2'⟩
        have y2 : z2.1.length ≤ s5.1.length + (wText x.2.2.2.1.2[k].1 + (wText x.2.2.2.1.2[k].2)) := by have := X2'.len; have := y1; omega
        have Z2 := Lib.hid Z2'
        have Y2 := Lib.hid (Y1.out.trans Y2')
        have X2 := Lib.hid X2'
        clear Z2' Y2' X2' Z1 Y1
        have LL := Lib.hid (LRel.list_step (e := eMember) (w := wMember) hlt LR.out (show LRel (eMember x.2.2.2.1.2[k]) (wMember x.2.2.2.1.2[k]) s5 z2 from LRel.seq X1.out (X2.out)))
        have S1 := Lib.hid Z2.out
        have T1 := Lib.hid Y2.out
        clear Z2 Y2 SR TR LR X1 y1 X2 y2
        go_wp2
        go_roundw
        case rel => exact ⟨k + 1, by omega, by simp, _, _, S1.out, T1.out, LL.out⟩
        case measure => simp [intOf]; omega
      · have hke : k = x.2.2.2.1.2.length := by omega
        have S5 := Lib.hid SR.out
        have T5 := Lib.hid TR.out
        have L5' := LRel.list_yes hke n45 LR.out
        have hl5 : s5.1.length ≤ s0.1.length + (4 + (4 + (wObjects x.2.2.1 + ((wList wText) x.2.2.2.1.1 + ((wList wMember) x.2.2.2.1.2))))) := by have := L5'.len; have := hl4; omega
        have L5 := Lib.hid L5'
        clear L5' SR TR LR
        clear hl4
        have hr6 : s5.1.length + (wList wGrant) x.2.2.2.2 < 140737488355328 := by have := hl5; omega
        have q6 := cell_blk (T5.out.keep HB.out (by decide)) 6 _ rfl
        have hx6 : x.2.2.2.2.length ≤ 9223372036854775807 := h6.2.1
        go_wp2_with fail
        clear qb
        clear q6
        refine (lay_many (x.2.2.2.2.length : Int) S5.out (many_room hr6)).mono ?_
        rintro e w6 ⟨b, rfl, v6, t6, S6', T6', hyes, hno⟩
        cases b with
        | false =>
          obtain ⟨L6, hne⟩ := LRel.list_no (e := eGrant) (w := wGrant) (hno rfl)
          have S6 := Lib.hid S6'
          have T6 := Lib.hid (T5.out.trans T6')
          have HN := Lib.hid hne
          have LN := Lib.hid L6
          clear S6' T6' hyes hno hne L6
          go_wp2
          first | go_end0 | refine bodyPost_ret (results_none rfl _ _ _) rfl ?_
          exact ⟨rfl, _, _, S6.out, TW.out.trans T6.out, LRel.seq L1.out (LRel.seq L2.out (LRel.seq L3.out (LRel.seq (LRel.seq L4.out L5.out) LN.out)))⟩
        | true =>
          obtain ⟨_, h46, L6'⟩ := hyes rfl
          have n46 : ¬ 4096 < x.2.2.2.2.length := by omega
          have S6 := Lib.hid S6'
          have T6 := Lib.hid (T5.out.trans T6')
          have L6s := Lib.hid (LRel.list_start (e := eGrant) (w := wGrant) L6')
          clear S6' T6' L6' hyes hno S5
          have q6 := cell_blk (T6.out.keep HB.out (by decide)) 6 _ rfl
          go_wp2
          go_loopw [5] (fun i wr => ∃ k : Nat, k ≤ x.2.2.2.2.length ∧ i = .int .i64 k ∧ ∃ vr sr, LayAt w0 wr g vr sr ∧ Stp SL W0 wr ∧ LRel (cat (eNum x.2.2.2.2.length) (cats ((x.2.2.2.2.take k).map eGrant))) (4 + wSum wGrant (x.2.2.2.2.take k)) s5 sr) (fun i _ => x.2.2.2.2.length - (intOf i).toNat)
          case atStart => exact ⟨0, Nat.zero_le _, rfl, _, _, S6.out, T6.out, L6s.out⟩
          case round =>
            obtain ⟨k, hk, rfl, vr, s6, hS, hT, hL⟩ := hrel
            have SR := Lib.hid hS
            have TR := Lib.hid hT
            have LR := Lib.hid hL
            clear hS hT hL S6 T6 L6s q6
            have qb := cell_blk (TR.out.keep HB.out (by decide)) 6 _ rfl
            by_cases hlt : k < x.2.2.2.2.length
            · skip
              have hroom := LRel.list_room hlt n46 hr6 LR.out
              obtain ⟨ad, e0, g0, g1, g2, g3, g4, g5⟩ := atGrant h6 k hlt
              cases e0
              have hroom' : s6.1.length + (wText x.2.2.2.2[k].1 + (wText x.2.2.2.2[k].2.1 + (4 + (wText x.2.2.2.2[k].2.2.2.1 + (wText x.2.2.2.2[k].2.2.2.2.1 + (1)))))) < 140737488355328 := hroom
              clear hroom
              have g0' := pw_cell_below SR.out.below g0
              clear g0
              have g1' := pw_cell_below SR.out.below g1
              clear g1
              have g2' := pw_cell_below SR.out.below g2
              clear g2
              have g3' := pw_cell_below SR.out.below g3
              clear g3
              have g4' := pw_cell_below SR.out.below g4
              clear g4
              have g5' := pw_cell_below SR.out.below g5
              clear g5
              obtain ⟨W1, hW1, Z0', TB', hz'⟩ := lay_box SR.out TR.out #[.string x.2.2.2.2[k].1, .string x.2.2.2.2[k].2.1, .int .i64 x.2.2.2.2[k].2.2.1, .string x.2.2.2.2[k].2.2.2.1, .string x.2.2.2.2[k].2.2.2.2.1, .bool x.2.2.2.2[k].2.2.2.2.2] 147
              have Z0 := Lib.hid Z0'
              have Y0 := Lib.hid (Stp.refl SL W1)
              have TB := Lib.hid TB'
              have HZ := Lib.hid hz'
              have HW1 := Lib.hid hW1
              clear Z0' TB' hz' hW1
              go_wp2_with fail
              rw [HW1.out]
              clear HW1 qb g0' g1' g2' g3' g4' g5'
              refine (lay_text (x.2.2.2.2[k].1) Z0.out (by omega)).mono ?_
              rintro e w' ⟨rfl, u1, z1, Z1', Y1', X1'⟩
              have y1 : z1.1.length ≤ s6.1.length + (wText x.2.2.2.2[k].1) := by have := X1'.len; omega
              have Z1 := Lib.hid Z1'
              have Y1 := Lib.hid (Y0.out.trans Y1')
              have X1 := Lib.hid X1'
              clear Z1' Y1' X1' Z0 Y0
              have q' := cell_blk (Y1.out.keep HZ.out (by decide)) 1 _ rfl
              go_wp2_with fail
              clear q'
              refine (lay_text (x.2.2.2.2[k].2.1) Z1.out (by have := y1; omega)).mono ?_
              rintro e w' ⟨rfl, u2, z2, Z2', Y2', X2'⟩
              have y2 : z2.1.length ≤ s6.1.length + (wText x.2.2.2.2[k].1 + (wText x.2.2.2.2[k].2.1)) := by have := X2'.len; have := y1; omega
              have Z2 := Lib.hid Z2'
              have Y2 := Lib.hid (Y1.out.trans Y2')
              have X2 := Lib.hid X2'
              clear Z2' Y2' X2' Z1 Y1
              have q' := cell_blk (Y2.out.keep HZ.out (by decide)) 2 _ rfl
              go_wp2_with fail
              clear q'
              refine (lay_number (x.2.2.2.2[k].2.2.1) Z2.out (by have := y2; omega)).mono ?_
              rintro e w' ⟨rfl, u3, z3, Z3', Y3', X3'⟩
              have y3 : z3.1.length ≤ s6.1.length + (wText x.2.2.2.2[k].1 + (wText x.2.2.2.2[k].2.1 + (4))) := by have := X3'.len; have := y2; omega
              have Z3 := Lib.hid Z3'
              have Y3 := Lib.hid (Y2.out.trans Y3')
              have X3 := Lib.hid X3'
              clear Z3' Y3' X3' Z2 Y2
              have q' := cell_blk (Y3.out.keep HZ.out (by decide)) 3 _ rfl
              go_wp2_with fail
              clear q'
              refine (lay_text (x.2.2.2.2[k].2.2.2.1) Z3.out (by have := y3; omega)).mono ?_
              rintro e w' ⟨rfl, u4, z4, Z4', Y4', X4'⟩
              have y4 : z4.1.length ≤ s6.1.length + (wText x.2.2.2.2[k].1 + (wText x.2.2.2.2[k].2.1 + (4 + (wText x.2.2.2.2[k].2.2.2.1)))) := by have := X4'.len; have := y3; omega
              have Z4 := Lib.hid Z4'
              have Y4 := Lib.hid (Y3.out.trans Y4')
              have X4 := Lib.hid X4'
              clear Z4' Y4' X4' Z3 Y3
              have q' := cell_blk (Y4.out.keep HZ.out (by decide)) 4 _ rfl
              go_wp2_with fail
              clear q'
              refine (lay_text (x.2.2.2.2[k].2.2.2.2.1) Z4.out (by have := y4; omega)).mono ?_
              rintro e w' ⟨rfl, u5, z5, Z5', Y5', X5'⟩
              have y5 : z5.1.length ≤ s6.1.length + (wText x.2.2.2.2[k].1 + (wText x.2.2.2.2[k].2.1 + (4 + (wText x.2.2.2.2[k].2.2.2.1 + (wText x.2.2.2.2[k].2.2.2.2.1))))) := by have := X5'.len; have := y4; omega
              have Z5 := Lib.hid Z5'
              have Y5 := Lib.hid (Y4.out.trans Y5')
              have X5 := Lib.hid X5'
              clear Z5' Y5' X5' Z4 Y4
              have q' := cell_blk (Y5.out.keep HZ.out (by decide)) 5 _ rfl
              go_wp2_with fail
              clear q'
              refine (lay_flag (x.2.2.2.2[k].2.2.2.2.2) Z5.out (by have := y5; omega)).mono ?_
              rintro e w' ⟨rfl, u6, z6, Z6', Y6', X6'⟩
              have y6 : z6.1.length ≤ s6.1.length + (wText x.2.2.2.2[k].1 + (wText x.2.2.2.2[k].2.1 + (4 + (wText x.2.2.2.2[k].2.2.2.1 + (wText x.2.2.2.2[k].2.2.2.2.1 + (1)))))) := by have := X6'.len; have := y5; omega
              have Z6 := Lib.hid Z6'
              have Y6 := Lib.hid (Y5.out.trans Y6')
              have X6 := Lib.hid X6'
              clear Z6' Y6' X6' Z5 Y5
              have LL := Lib.hid (LRel.list_step (e := eGrant) (w := wGrant) hlt LR.out (show LRel (eGrant x.2.2.2.2[k]) (wGrant x.2.2.2.2[k]) s6 z6 from LRel.seq X1.out (LRel.seq X2.out (LRel.seq X3.out (LRel.seq X4.out (LRel.seq X5.out (X6.out)))))))
              have S1 := Lib.hid Z6.out
              have T1 := Lib.hid (TB.out.trans Y6.out)
              clear Z6 Y6 SR TR LR X1 y1 X2 y2 X3 y3 X4 y4 X5 y5 X6 y6
              go_wp2
              go_roundw
              case rel => exact ⟨k + 1, by omega, by simp, _, _, S1.out, T1.out, LL.out⟩
              case measure => simp [intOf]; omega
            · have hke : k = x.2.2.2.2.length := by omega
              have S6 := Lib.hid SR.out
              have T6 := Lib.hid TR.out
              have L6' := LRel.list_yes hke n46 LR.out
              have hl6 : s6.1.length ≤ s0.1.length + (4 + (4 + (wObjects x.2.2.1 + ((wList wText) x.2.2.2.1.1 + ((wList wMember) x.2.2.2.1.2 + ((wList wGrant) x.2.2.2.2)))))) := by have := L6'.len; have := hl5; omega
              have L6 := Lib.hid L6'
              clear L6' SR TR LR
              clear hl5
              go_wp2
              clear qb
              try go_wp2
              go_end0
              exact ⟨rfl, _, _, S6.out, TW.out.trans T6.out, LRel.seq L1.out (LRel.seq L2.out (LRel.seq L3.out (LRel.seq (LRel.seq L4.out L5.out) L6.out)))⟩
end Go.Proofs.YtoomcdgnnibjlaaGreat.Wr
/- The document's writer: structs with rows of structs. -/
namespace Go.Proofs.YtoomcdgnnibjlaaGreat.Wr
open Go.RowKit Go.Proofs.YtoomcdgnnibjlaaGreatW.PrintWords Go.Proofs.YtoomcdgnnibjlaaGreatW.PrintLast
set_option linter.unusedVariables false
set_option linter.unusedSimpArgs false

set_option maxRecDepth 100000 in
set_option maxHeartbeats 16000000 in
theorem lay_Machine (x : TMachine) (A2 : Option Addr) (c2 : Nat) (A3 : Option Addr) (c3 : Nat) (A4 : Option Addr) (c4 : Nat) (A5 : Option Addr) (c5 : Nat) (A6 : Option Addr) (c6 : Nat) (A7 : Option Addr) (c7 : Nat) (A8 : Option Addr) (c8 : Nat) {w0 w : World} {g : Nat} {v : Value} {s0 : LSt} (h2 : kSchema.C w0 A2 x.1.2.2.1.1.length x.1.2.2.1.1) (h3 : kTable.C w0 A3 x.1.2.2.1.2.length x.1.2.2.1.2) (h4 : Kd.string.C w0 A4 x.1.2.2.2.1.1.length x.1.2.2.2.1.1) (h5 : kMember.C w0 A5 x.1.2.2.2.1.2.length x.1.2.2.2.1.2) (h6 : kGrant.C w0 A6 x.1.2.2.2.2.length x.1.2.2.2.2) (h7 : kDone.C w0 A7 x.2.1.length x.2.1) (h8 : kLease.C w0 A8 x.2.2.1.length x.2.2.1) (hS : LayAt w0 w g v s0) (hm : s0.1.length + wMachine x < 140737488355328) :
    Calls Tryz.prog 15 #[.pointer (some ⟨g, 0, none⟩), .agg #[.int .i64 x.1.1, .int .i64 x.1.2.1, .slice A2 x.1.2.2.1.1.length c2, .slice A3 x.1.2.2.1.2.length c3, .slice A4 x.1.2.2.2.1.1.length c4, .slice A5 x.1.2.2.2.1.2.length c5, .slice A6 x.1.2.2.2.2.length c6, .slice A7 x.2.1.length c7, .slice A8 x.2.2.1.length c8, .int .i64 x.2.2.2]] w (LDone w0 g w (eMachine x) (wMachine x) s0) := by
  have hm' : s0.1.length + (wCatalog x.1 + ((wList wDone) x.2.1 + ((wList wLease) x.2.2.1 + (4)))) < 140737488355328 := hm
  clear hm
  have hb0 : Below w.heap.size w (w.alloc (.cells #[.int .i64 x.1.1, .int .i64 x.1.2.1, .slice A2 x.1.2.2.1.1.length c2, .slice A3 x.1.2.2.1.2.length c3, .slice A4 x.1.2.2.2.1.1.length c4, .slice A5 x.1.2.2.2.1.2.length c5, .slice A6 x.1.2.2.2.2.length c6, .slice A7 x.2.1.length c7, .slice A8 x.2.2.1.length c8, .int .i64 x.2.2.2] 38)) := (Below.refl _ _).alloc (Nat.le_refl _) _
  have hx0 := blk_new w (.cells #[.int .i64 x.1.1, .int .i64 x.1.2.1, .slice A2 x.1.2.2.1.1.length c2, .slice A3 x.1.2.2.1.2.length c3, .slice A4 x.1.2.2.2.1.1.length c4, .slice A5 x.1.2.2.2.1.2.length c5, .slice A6 x.1.2.2.2.2.length c6, .slice A7 x.2.1.length c7, .slice A8 x.2.2.1.length c8, .int .i64 x.2.2.2] 38)
  obtain ⟨W0, hW0⟩ : ∃ W0, w.alloc (.cells #[.int .i64 x.1.1, .int .i64 x.1.2.1, .slice A2 x.1.2.2.1.1.length c2, .slice A3 x.1.2.2.1.2.length c3, .slice A4 x.1.2.2.2.1.1.length c4, .slice A5 x.1.2.2.2.1.2.length c5, .slice A6 x.1.2.2.2.2.length c6, .slice A7 x.2.1.length c7, .slice A8 x.2.2.1.length c8, .int .i64 x.2.2.2] 38) = W0 := ⟨_, rfl⟩
  rw [hW0] at hb0 hx0
  have S0 := Lib.hid (hS.stays hb0)
  have HB := Lib.hid hx0
  have T0 := Lib.hid (Stp.refl SL W0)
  have TW := Lib.hid (Stp.below (S := SL) hb0)
  have HW := Lib.hid hW0
  clear hb0 hx0 hW0 hS
  go_enter Tryz.func15, Tryz.ntmps15
  have HR0 := Lib.hid (range_blk [] [.int .i64 x.1.1, .int .i64 x.1.2.1, .slice A2 x.1.2.2.1.1.length c2, .slice A3 x.1.2.2.1.2.length c3, .slice A4 x.1.2.2.2.1.1.length c4, .slice A5 x.1.2.2.2.1.2.length c5, .slice A6 x.1.2.2.2.2.length c6] [.slice A7 x.2.1.length c7, .slice A8 x.2.2.1.length c8, .int .i64 x.2.2.2] (T0.out.keep HB.out (by decide)))
  go_wp2_with (((with_reducible refine gate_load (t := 34) rfl ?_); refine wpList_load_mid rfl 34 _ rfl w.heap.size 0 rfl [.int .i64 x.1.1, .int .i64 x.1.2.1, .slice A2 x.1.2.2.1.1.length c2, .slice A3 x.1.2.2.1.2.length c3, .slice A4 x.1.2.2.2.1.1.length c4, .slice A5 x.1.2.2.2.1.2.length c5, .slice A6 x.1.2.2.2.2.length c6] _ HR0.out Tryz.underlying34 rfl (by kernel_rfl) ?_))
  rw [HW.out]
  clear HW
  clear HR0
  refine (lay_Catalog (x.1) A2 c2 A3 c3 A4 c4 A5 c5 A6 c6 h2 h3 h4 h5 h6 S0.out (by omega)).mono ?_
  rintro e w1 ⟨rfl, v1, s1, S1', T1', L1'⟩
  have hl1 : s1.1.length ≤ s0.1.length + (wCatalog x.1) := by have := L1'.len; omega
  have S1 := Lib.hid S1'
  have T1 := Lib.hid (T0.out.trans T1')
  have L1 := Lib.hid L1'
  clear S1' T1' L1' S0 T0
  have hr2 : s1.1.length + (wList wDone) x.2.1 < 140737488355328 := by have := hl1; omega
  have q7 := cell_blk (T1.out.keep HB.out (by decide)) 7 _ rfl
  have hx2 : x.2.1.length ≤ 9223372036854775807 := h7.2.1
  go_wp2_with fail
  clear q7
  refine (lay_many (x.2.1.length : Int) S1.out (many_room hr2)).mono ?_
  rintro e w2 ⟨b, rfl, v2, t2, S2', T2', hyes, hno⟩
  cases b with
  | false =>
    obtain ⟨L2, hne⟩ := LRel.list_no (e := eDone) (w := wDone) (hno rfl)
    have S2 := Lib.hid S2'
    have T2 := Lib.hid (T1.out.trans T2')
    have HN := Lib.hid hne
    have LN := Lib.hid L2
    clear S2' T2' hyes hno hne L2
    go_wp2
    first | go_end0 | refine bodyPost_ret (results_none rfl _ _ _) rfl ?_
    exact ⟨rfl, _, _, S2.out, TW.out.trans T2.out, LRel.seq L1.out (LRel.seq LN.out (LRel.seq (LRel.skip _ _ _ HN.out) ((LRel.skip _ _ _ HN.out))))⟩
  | true =>
    obtain ⟨_, h42, L2'⟩ := hyes rfl
    have n42 : ¬ 4096 < x.2.1.length := by omega
    have S2 := Lib.hid S2'
    have T2 := Lib.hid (T1.out.trans T2')
    have L2s := Lib.hid (LRel.list_start (e := eDone) (w := wDone) L2')
    clear S2' T2' L2' hyes hno S1
    have q7 := cell_blk (T2.out.keep HB.out (by decide)) 7 _ rfl
    go_wp2
    go_loopw [4] (fun i wr => ∃ k : Nat, k ≤ x.2.1.length ∧ i = .int .i64 k ∧ ∃ vr sr, LayAt w0 wr g vr sr ∧ Stp SL W0 wr ∧ LRel (cat (eNum x.2.1.length) (cats ((x.2.1.take k).map eDone))) (4 + wSum wDone (x.2.1.take k)) s1 sr) (fun i _ => x.2.1.length - (intOf i).toNat)
    case atStart => exact ⟨0, Nat.zero_le _, rfl, _, _, S2.out, T2.out, L2s.out⟩
    case round =>
      obtain ⟨k, hk, rfl, vr, s2, hS, hT, hL⟩ := hrel
      have SR := Lib.hid hS
      have TR := Lib.hid hT
      have LR := Lib.hid hL
      clear hS hT hL S2 T2 L2s q7
      have qb := cell_blk (TR.out.keep HB.out (by decide)) 7 _ rfl
      by_cases hlt : k < x.2.1.length
      · skip
        have hroom := LRel.list_room hlt n42 hr2 LR.out
        obtain ⟨ad, e0, g0, g1, g2, g3, g4⟩ := atDone h7 k hlt
        cases e0
        have hroom' : s2.1.length + (4 + (4 + (4 + (4 + (4))))) < 140737488355328 := hroom
        clear hroom
        have g0' := pw_cell_below SR.out.below g0
        clear g0
        have g1' := pw_cell_below SR.out.below g1
        clear g1
        have g2' := pw_cell_below SR.out.below g2
        clear g2
        have g3' := pw_cell_below SR.out.below g3
        clear g3
        have g4' := pw_cell_below SR.out.below g4
        clear g4
        obtain ⟨W1, hW1, Z0', TB', hz'⟩ := lay_box SR.out TR.out #[.int .i64 x.2.1[k].1, .int .i64 x.2.1[k].2.1, .int .i64 x.2.1[k].2.2.1, .int .i64 x.2.1[k].2.2.2.1, .int .i64 x.2.1[k].2.2.2.2] 96
        have Z0 := Lib.hid Z0'
        have Y0 := Lib.hid (Stp.refl SL W1)
        have TB := Lib.hid TB'
        have HZ := Lib.hid hz'
        have HW1 := Lib.hid hW1
        clear Z0' TB' hz' hW1
        go_wp2_with fail
        rw [HW1.out]
        clear HW1 qb g0' g1' g2' g3' g4'
        refine (lay_number (x.2.1[k].1) Z0.out (by omega)).mono ?_
        rintro e w' ⟨rfl, u1, z1, Z1', Y1', X1'⟩
        have y1 : z1.1.length ≤ s2.1.length + (4) := by have := X1'.len; omega
        have Z1 := Lib.hid Z1'
        have Y1 := Lib.hid (Y0.out.trans Y1')
        have X1 := Lib.hid X1'
        clear Z1' Y1' X1' Z0 Y0
        have q' := cell_blk (Y1.out.keep HZ.out (by decide)) 1 _ rfl
        go_wp2_with fail
        clear q'
        refine (lay_number (x.2.1[k].2.1) Z1.out (by have := y1; omega)).mono ?_
        rintro e w' ⟨rfl, u2, z2, Z2', Y2', X2'⟩
        have y2 : z2.1.length ≤ s2.1.length + (4 + (4)) := by have := X2'.len; have := y1; omega
        have Z2 := Lib.hid Z2'
        have Y2 := Lib.hid (Y1.out.trans Y2')
        have X2 := Lib.hid X2'
        clear Z2' Y2' X2' Z1 Y1
        have q' := cell_blk (Y2.out.keep HZ.out (by decide)) 2 _ rfl
        go_wp2_with fail
        clear q'
        refine (lay_number (x.2.1[k].2.2.1) Z2.out (by have := y2; omega)).mono ?_
        rintro e w' ⟨rfl, u3, z3, Z3', Y3', X3'⟩
        have y3 : z3.1.length ≤ s2.1.length + (4 + (4 + (4))) := by have := X3'.len; have := y2; omega
        have Z3 := Lib.hid Z3'
        have Y3 := Lib.hid (Y2.out.trans Y3')
        have X3 := Lib.hid X3'
        clear Z3' Y3' X3' Z2 Y2
        have q' := cell_blk (Y3.out.keep HZ.out (by decide)) 3 _ rfl
        go_wp2_with fail
        clear q'
        refine (lay_number (x.2.1[k].2.2.2.1) Z3.out (by have := y3; omega)).mono ?_
        rintro e w' ⟨rfl, u4, z4, Z4', Y4', X4'⟩
        have y4 : z4.1.length ≤ s2.1.length + (4 + (4 + (4 + (4)))) := by have := X4'.len; have := y3; omega
        have Z4 := Lib.hid Z4'
        have Y4 := Lib.hid (Y3.out.trans Y4')
        have X4 := Lib.hid X4'
        clear Z4' Y4' X4' Z3 Y3
        have q' := cell_blk (Y4.out.keep HZ.out (by decide)) 4 _ rfl
        go_wp2_with fail
        clear q'
        refine (lay_number (x.2.1[k].2.2.2.2) Z4.out (by have := y4; omega)).mono ?_
        rintro e w' ⟨rfl, u5, z5, Z5', Y5', X5'⟩
        have y5 : z5.1.length ≤ s2.1.length + (4 + (4 + (4 + (4 + (4))))) := by have := X5'.len; have := y4; omega
        have Z5 := Lib.hid Z5'
        have Y5 := Lib.hid (Y4.out.trans Y5')
        have X5 := Lib.hid X5'
        clear Z5' Y5' X5' Z4 Y4
        have LL := Lib.hid (LRel.list_step (e := eDone) (w := wDone) hlt LR.out (show LRel (eDone x.2.1[k]) (wDone x.2.1[k]) s2 z5 from LRel.seq X1.out (LRel.seq X2.out (LRel.seq X3.out (LRel.seq X4.out (X5.out))))))
        have S1 := Lib.hid Z5.out
        have T1 := Lib.hid (TB.out.trans Y5.out)
        clear Z5 Y5 SR TR LR X1 y1 X2 y2 X3 y3 X4 y4 X5 y5
        go_wp2
        go_roundw
        case rel => exact ⟨k + 1, by omega, by simp, _, _, S1.out, T1.out, LL.out⟩
        case measure => simp [intOf]; omega
      · have hke : k = x.2.1.length := by omega
        have S2 := Lib.hid SR.out
        have T2 := Lib.hid TR.out
        have L2' := LRel.list_yes hke n42 LR.out
        have hl2 : s2.1.length ≤ s0.1.length + (wCatalog x.1 + ((wList wDone) x.2.1)) := by have := L2'.len; have := hl1; omega
        have L2 := Lib.hid L2'
        clear L2' SR TR LR
        clear hl1
        have hr3 : s2.1.length + (wList wLease) x.2.2.1 < 140737488355328 := by have := hl2; omega
        have q8 := cell_blk (T2.out.keep HB.out (by decide)) 8 _ rfl
        have hx3 : x.2.2.1.length ≤ 9223372036854775807 := h8.2.1
        go_wp2_with fail
        clear qb
        clear q8
        refine (lay_many (x.2.2.1.length : Int) S2.out (many_room hr3)).mono ?_
        rintro e w3 ⟨b, rfl, v3, t3, S3', T3', hyes, hno⟩
        cases b with
        | false =>
          obtain ⟨L3, hne⟩ := LRel.list_no (e := eLease) (w := wLease) (hno rfl)
          have S3 := Lib.hid S3'
          have T3 := Lib.hid (T2.out.trans T3')
          have HN := Lib.hid hne
          have LN := Lib.hid L3
          clear S3' T3' hyes hno hne L3
          go_wp2
          first | go_end0 | refine bodyPost_ret (results_none rfl _ _ _) rfl ?_
          exact ⟨rfl, _, _, S3.out, TW.out.trans T3.out, LRel.seq L1.out (LRel.seq L2.out (LRel.seq LN.out ((LRel.skip _ _ _ HN.out))))⟩
        | true =>
          obtain ⟨_, h43, L3'⟩ := hyes rfl
          have n43 : ¬ 4096 < x.2.2.1.length := by omega
          have S3 := Lib.hid S3'
          have T3 := Lib.hid (T2.out.trans T3')
          have L3s := Lib.hid (LRel.list_start (e := eLease) (w := wLease) L3')
          clear S3' T3' L3' hyes hno S2
          have q8 := cell_blk (T3.out.keep HB.out (by decide)) 8 _ rfl
          go_wp2
          go_loopw [6] (fun i wr => ∃ k : Nat, k ≤ x.2.2.1.length ∧ i = .int .i64 k ∧ ∃ vr sr, LayAt w0 wr g vr sr ∧ Stp SL W0 wr ∧ LRel (cat (eNum x.2.2.1.length) (cats ((x.2.2.1.take k).map eLease))) (4 + wSum wLease (x.2.2.1.take k)) s2 sr) (fun i _ => x.2.2.1.length - (intOf i).toNat)
          case atStart => exact ⟨0, Nat.zero_le _, rfl, _, _, S3.out, T3.out, L3s.out⟩
          case round =>
            obtain ⟨k, hk, rfl, vr, s3, hS, hT, hL⟩ := hrel
            have SR := Lib.hid hS
            have TR := Lib.hid hT
            have LR := Lib.hid hL
            clear hS hT hL S3 T3 L3s q8
            have qb := cell_blk (TR.out.keep HB.out (by decide)) 8 _ rfl
            by_cases hlt : k < x.2.2.1.length
            · skip
              have hroom := LRel.list_room hlt n43 hr3 LR.out
              obtain ⟨ad, e0, g0, g1, g2, g3⟩ := atLease h8 k hlt
              cases e0
              have hroom' : s3.1.length + (4 + (4 + (4 + (4)))) < 140737488355328 := hroom
              clear hroom
              have g0' := pw_cell_below SR.out.below g0
              clear g0
              have g1' := pw_cell_below SR.out.below g1
              clear g1
              have g2' := pw_cell_below SR.out.below g2
              clear g2
              have g3' := pw_cell_below SR.out.below g3
              clear g3
              obtain ⟨W1, hW1, Z0', TB', hz'⟩ := lay_box SR.out TR.out #[.int .i64 x.2.2.1[k].1, .int .i64 x.2.2.1[k].2.1, .int .i64 x.2.2.1[k].2.2.1, .int .i64 x.2.2.1[k].2.2.2] 101
              have Z0 := Lib.hid Z0'
              have Y0 := Lib.hid (Stp.refl SL W1)
              have TB := Lib.hid TB'
              have HZ := Lib.hid hz'
              have HW1 := Lib.hid hW1
              clear Z0' TB' hz' hW1
              go_wp2_with fail
              rw [HW1.out]
              clear HW1 qb g0' g1' g2' g3'
              refine (lay_number (x.2.2.1[k].1) Z0.out (by omega)).mono ?_
              rintro e w' ⟨rfl, u1, z1, Z1', Y1', X1'⟩
              have y1 : z1.1.length ≤ s3.1.length + (4) := by have := X1'.len; omega
              have Z1 := Lib.hid Z1'
              have Y1 := Lib.hid (Y0.out.trans Y1')
              have X1 := Lib.hid X1'
              clear Z1' Y1' X1' Z0 Y0
              have q' := cell_blk (Y1.out.keep HZ.out (by decide)) 1 _ rfl
              go_wp2_with fail
              clear q'
              refine (lay_number (x.2.2.1[k].2.1) Z1.out (by have := y1; omega)).mono ?_
              rintro e w' ⟨rfl, u2, z2, Z2', Y2', X2'⟩
              have y2 : z2.1.length ≤ s3.1.length + (4 + (4)) := by have := X2'.len; have := y1; omega
              have Z2 := Lib.hid Z2'
              have Y2 := Lib.hid (Y1.out.trans Y2')
              have X2 := Lib.hid X2'
              clear Z2' Y2' X2' Z1 Y1
              have q' := cell_blk (Y2.out.keep HZ.out (by decide)) 2 _ rfl
              go_wp2_with fail
              clear q'
              refine (lay_number (x.2.2.1[k].2.2.1) Z2.out (by have := y2; omega)).mono ?_
              rintro e w' ⟨rfl, u3, z3, Z3', Y3', X3'⟩
              have y3 : z3.1.length ≤ s3.1.length + (4 + (4 + (4))) := by have := X3'.len; have := y2; omega
              have Z3 := Lib.hid Z3'
              have Y3 := Lib.hid (Y2.out.trans Y3')
              have X3 := Lib.hid X3'
              clear Z3' Y3' X3' Z2 Y2
              have q' := cell_blk (Y3.out.keep HZ.out (by decide)) 3 _ rfl
              go_wp2_with fail
              clear q'
              refine (lay_number (x.2.2.1[k].2.2.2) Z3.out (by have := y3; omega)).mono ?_
              rintro e w' ⟨rfl, u4, z4, Z4', Y4', X4'⟩
              have y4 : z4.1.length ≤ s3.1.length + (4 + (4 + (4 + (4)))) := by have := X4'.len; have := y3; omega
              have Z4 := Lib.hid Z4'
              have Y4 := Lib.hid (Y3.out.trans Y4')
              have X4 := Lib.hid X4'
              clear Z4' Y4' X4' Z3 Y3
              have LL := Lib.hid (LRel.list_step (e := eLease) (w := wLease) hlt LR.out (show LRel (eLease x.2.2.1[k]) (wLease x.2.2.1[k]) s3 z4 from LRel.seq X1.out (LRel.seq X2.out (LRel.seq X3.out (X4.out)))))
              have S1 := Lib.hid Z4.out
              have T1 := Lib.hid (TB.out.trans Y4.out)
              clear Z4 Y4 SR TR LR X1 y1 X2 y2 X3 y3 X4 y4
              go_wp2
              go_roundw
              case rel => exact ⟨k + 1, by omega, by simp, _, _, S1.out, T1.out, LL.out⟩
              case measure => simp [intOf]; omega
            · have hke : k = x.2.2.1.length := by omega
              have S3 := Lib.hid SR.out
              have T3 := Lib.hid TR.out
              have L3' := LRel.list_yes hke n43 LR.out
              have hl3 : s3.1.length ≤ s0.1.length + (wCatalog x.1 + ((wList wDone) x.2.1 + ((wList wLease) x.2.2.1))) := by have := L3'.len; have := hl2; omega
              have L3 := Lib.hid L3'
              clear L3' SR TR LR
              clear hl2
              have q9 := cell_blk (T3.out.keep HB.out (by decide)) 9 _ rfl
              go_wp2_with fail
              clear qb
              clear q9
              refine (lay_number (x.2.2.2)   S3.out (by have := hl3; omega)).mono ?_
              rintro e w4 ⟨rfl, v4, s4, S4', T4', L4'⟩
              have hl4 : s4.1.length ≤ s0.1.length + (wCatalog x.1 + ((wList wDone) x.2.1 + ((wList wLease) x.2.2.1 + (4)))) := by have := L4'.len; have := hl3; omega
              clear hl3
              have S4 := Lib.hid S4'
              have T4 := Lib.hid (T3.out.trans T4')
              have L4 := Lib.hid L4'
              clear S4' T4' L4' S3 T3
              try go_wp2
              go_end0
              exact ⟨rfl, _, _, S4.out, TW.out.trans T4.out, LRel.seq L1.out (LRel.seq L2.out (LRel.seq L3.out L4.out))⟩
end Go.Proofs.YtoomcdgnnibjlaaGreat.Wr
/- The document's bytes of a machine, or the first fault. -/
namespace Go.Proofs.YtoomcdgnnibjlaaGreat.Wr
open Go.RowKit Go.Proofs.YtoomcdgnnibjlaaGreatW.PrintWords Go.Proofs.YtoomcdgnnibjlaaGreatW.PrintLast
set_option linter.unusedVariables false
set_option linter.unusedSimpArgs false


set_option maxRecDepth 100000 in
set_option maxHeartbeats 16000000 in
theorem ref_PutMachine (x : TMachine) (A2 : Option Addr) (c2 : Nat) (A3 : Option Addr) (c3 : Nat) (A4 : Option Addr) (c4 : Nat) (A5 : Option Addr) (c5 : Nat) (A6 : Option Addr) (c6 : Nat) (A7 : Option Addr) (c7 : Nat) (A8 : Option Addr) (c8 : Nat) (w : World) (h2 : kSchema.C w A2 x.1.2.2.1.1.length x.1.2.2.1.1) (h3 : kTable.C w A3 x.1.2.2.1.2.length x.1.2.2.1.2) (h4 : Kd.string.C w A4 x.1.2.2.2.1.1.length x.1.2.2.2.1.1) (h5 : kMember.C w A5 x.1.2.2.2.1.2.length x.1.2.2.2.1.2) (h6 : kGrant.C w A6 x.1.2.2.2.2.length x.1.2.2.2.2) (h7 : kDone.C w A7 x.2.1.length x.2.1) (h8 : kLease.C w A8 x.2.2.1.length x.2.2.1) (hm : wMachine x < 140737488355328) : Calls Tryz.prog 8 #[.agg #[.int .i64 x.1.1, .int .i64 x.1.2.1, .slice A2 x.1.2.2.1.1.length c2, .slice A3 x.1.2.2.1.2.length c3, .slice A4 x.1.2.2.2.1.1.length c4, .slice A5 x.1.2.2.2.1.2.length c5, .slice A6 x.1.2.2.2.2.length c6, .slice A7 x.2.1.length c7, .slice A8 x.2.2.1.length c8, .int .i64 x.2.2.2]] w (PutTold w (eMachine x)) := by
  obtain ⟨W, hW⟩ : ∃ W, (w.alloc (.cells #[.int .i64 x.1.1, .int .i64 x.1.2.1, .slice A2 x.1.2.2.1.1.length c2, .slice A3 x.1.2.2.1.2.length c3, .slice A4 x.1.2.2.2.1.1.length c4, .slice A5 x.1.2.2.2.1.2.length c5, .slice A6 x.1.2.2.2.2.length c6, .slice A7 x.2.1.length c7, .slice A8 x.2.2.1.length c8, .int .i64 x.2.2.2] 38)).alloc (.cells #[.slice none 0 0, .int .i64 0] 55) = W := ⟨_, rfl⟩
  have hb : Below w.heap.size w W := by rw [← hW]; exact ((Below.refl _ _).alloc (Nat.le_refl _) _).alloc (by simp) _
  have hg : W.heap[w.heap.size + 1]? = some (.cells #[.slice none 0 0, .int .i64 0] 55) := by
    rw [← hW]; have := blk_new (w.alloc (.cells #[.int .i64 x.1.1, .int .i64 x.1.2.1, .slice A2 x.1.2.2.1.1.length c2, .slice A3 x.1.2.2.1.2.length c3, .slice A4 x.1.2.2.2.1.1.length c4, .slice A5 x.1.2.2.2.1.2.length c5, .slice A6 x.1.2.2.2.2.length c6, .slice A7 x.2.1.length c7, .slice A8 x.2.2.1.length c8, .int .i64 x.2.2.2] 38)) (.cells #[.slice none 0 0, .int .i64 0] 55); rwa [World.size_alloc] at this
  have hL : LayAt w W (w.heap.size + 1) (.slice none 0 0) ([], 0) := ⟨by omega, hb, hg, Kd.R_nil _ _ _ _ _⟩
  have C1 := Lib.hid (lay_Machine x A2 c2 A3 c3 A4 c4 A5 c5 A6 c6 A7 c7 A8 c8 h2 h3 h4 h5 h6 h7 h8 hL (by simpa using hm))
  have hx0 : ((w.alloc (.cells #[.int .i64 x.1.1, .int .i64 x.1.2.1, .slice A2 x.1.2.2.1.1.length c2, .slice A3 x.1.2.2.1.2.length c3, .slice A4 x.1.2.2.2.1.1.length c4, .slice A5 x.1.2.2.2.1.2.length c5, .slice A6 x.1.2.2.2.2.length c6, .slice A7 x.2.1.length c7, .slice A8 x.2.2.1.length c8, .int .i64 x.2.2.2] 38)).alloc (.cells #[.slice none 0 0, .int .i64 0] 55)).heap[w.heap.size]? = some (.cells #[.int .i64 x.1.1, .int .i64 x.1.2.1, .slice A2 x.1.2.2.1.1.length c2, .slice A3 x.1.2.2.1.2.length c3, .slice A4 x.1.2.2.2.1.1.length c4, .slice A5 x.1.2.2.2.1.2.length c5, .slice A6 x.1.2.2.2.2.length c6, .slice A7 x.2.1.length c7, .slice A8 x.2.2.1.length c8, .int .i64 x.2.2.2] 38 (0, 0)) :=
    (Below.heap_alloc _ _ _ (by simp)).trans (blk_new w _)
  have HR := Lib.hid (range_blk [] [.int .i64 x.1.1, .int .i64 x.1.2.1, .slice A2 x.1.2.2.1.1.length c2, .slice A3 x.1.2.2.1.2.length c3, .slice A4 x.1.2.2.2.1.1.length c4, .slice A5 x.1.2.2.2.1.2.length c5, .slice A6 x.1.2.2.2.2.length c6, .slice A7 x.2.1.length c7, .slice A8 x.2.2.1.length c8, .int .i64 x.2.2.2] [] hx0)
  have HW := Lib.hid hW
  clear hb hg hL hW hx0 h2 h3 h4 h5 h6 h7 h8
  go_enter Tryz.func8, Tryz.ntmps8
  go_wp2_with (((with_reducible refine gate_load (t := 38) rfl ?_); refine wpList_load_mid rfl 38 _ rfl w.heap.size 0 rfl [.int .i64 x.1.1, .int .i64 x.1.2.1, .slice A2 x.1.2.2.1.1.length c2, .slice A3 x.1.2.2.1.2.length c3, .slice A4 x.1.2.2.2.1.1.length c4, .slice A5 x.1.2.2.2.1.2.length c5, .slice A6 x.1.2.2.2.2.length c6, .slice A7 x.2.1.length c7, .slice A8 x.2.2.1.length c8, .int .i64 x.2.2.2] _ HR.out Tryz.underlying38 rfl (by kernel_rfl) ?_))
  rw [HW.out]
  refine C1.out.mono ?_
  rintro e w1 ⟨rfl, v1, s1, S1, T1, L1⟩
  have C2 := Lib.hid (told_out S1 L1)
  have B1 := S1.below
  clear C1 HW S1 T1 L1
  go_wp2_with fail
  refine C2.out.mono ?_
  rintro e w2 ⟨v2, rfl, R2, hb2⟩
  clear C2
  go_wp2
  go_ret2
  exact ⟨v2, rfl, R2, B1.trans (hb2.mono B1.size)⟩
end Go.Proofs.YtoomcdgnnibjlaaGreat.Wr
