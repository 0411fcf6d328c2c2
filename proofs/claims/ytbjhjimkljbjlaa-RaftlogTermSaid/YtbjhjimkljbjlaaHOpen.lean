/- A log, read as data. -/
import Derived.Test.YtbjhjimkljbjlaaOpen
import Derived.Test.YtbjhjimkljbjlaaHBox
namespace Go.Proofs.Ytbjhjimkljbjlaa.PA
open Go.RowKit Go.Proofs.YtbjhjimkljbjlaaW.PrintWords Go.Proofs.YtbjhjimkljbjlaaW.PrintLast Go.Proofs.YtbjhjimkljbjlaaOpen

theorem cells3 : Try.prog.cellsOf 3 = 1 := by kernel_rfl
theorem cells9 : Try.prog.cellsOf 9 = 1 := by kernel_rfl
theorem cells23 : Try.prog.cellsOf 23 = 1 := by kernel_rfl
theorem cells25 : Try.prog.cellsOf 25 = 2 := by kernel_rfl
theorem cells27 : Try.prog.cellsOf 27 = 5 := by kernel_rfl
theorem cells28 : Try.prog.cellsOf 28 = 1 := by kernel_rfl
theorem cells30 : Try.prog.cellsOf 30 = 8 := by kernel_rfl
theorem cells52 : Try.prog.cellsOf 52 = 1 := by kernel_rfl
theorem cells54 : Try.prog.cellsOf 54 = 6 := by kernel_rfl

theorem op3 : Opens Try.prog 3 (Kd.int .i64) (fun n => (Lit.int .i64 n).wf = true) := opens_int Try.underlying3
theorem op52 : Opens Try.prog 52 (Kd.int .i64) (fun n => (Lit.int .i64 n).wf = true) := opens_int Try.underlying52
theorem op9 : Opens Try.prog 9 Kd.string (fun s => s.size ≤ maxLen) := opens_string Try.underlying9
theorem op23 : Opens Try.prog 23 (Kd.slice 3 (Kd.int .i64)) (fun xs => ∀ x ∈ xs, (Lit.int .i64 x).wf = true) := opens_slice Try.underlying23 cells3 op3
theorem op25 : Opens Try.prog 25 k25 (fun _ => True) :=
  opens_imp (opens_struct (fun x : S25 => (x.f0, x.f1)) (fun a => ⟨a.1, a.2⟩) (fun _ => rfl) Try.underlying25 cells25
    (opensFs_cons rfl cells23 op23 (opensFs_one rfl cells23 op23))) (fun _ _ => trivial)
/-- An entry's numbers are of their kind. -/
def entWf (x : S54) : Prop := (Lit.int .i64 x.f0).wf = true ∧ (Lit.int .i64 x.f1).wf = true ∧ (Lit.int .i64 x.f2).wf = true
theorem op54 : Opens Try.prog 54 k54 entWf :=
  opens_imp (opens_struct (fun x : S54 => (x.f0, x.f1, x.f2, x.f3, x.f4)) (fun a => ⟨a.1, a.2.1, a.2.2.1, a.2.2.2.1, a.2.2.2.2⟩) (fun _ => rfl) Try.underlying54 cells54
    (opensFs_cons rfl cells3 op3 (opensFs_cons rfl cells3 op3 (opensFs_cons rfl cells52 op52 (opensFs_cons rfl cells25 op25 (opensFs_one rfl cells9 op9)))))) (fun _ h => ⟨h.1, h.2.1, h.2.2.1⟩)
theorem op28 : Opens Try.prog 28 (Kd.slice 54 k54) (fun xs => ∀ x ∈ xs, entWf x) := opens_slice Try.underlying28 cells54 op54
def wf64 (n : Int) : Prop := (Lit.int .i64 n).wf = true
def k27' : Kd (Int × Int × S25 × ByteArray) := Kd.iso (Kd.pair (Kd.int .i64) (Kd.pair (Kd.int .i64) (Kd.pair k25 Kd.string))) id
def k30' : Kd (Int × Int × (Int × Int × S25 × ByteArray) × List S54) := Kd.iso (Kd.pair (Kd.int .i64) (Kd.pair (Kd.int .i64) (Kd.pair k27' (Kd.slice 54 k54)))) id
theorem op27 : Opens Try.prog 27 k27' (fun x => wf64 x.1 ∧ wf64 x.2.1 ∧ True ∧ x.2.2.2.size ≤ maxLen) :=
  opens_struct id id (fun _ => rfl) Try.underlying27 cells27
    (opensFs_cons rfl cells3 op3 (opensFs_cons rfl cells3 op3 (opensFs_cons rfl cells25 op25 (opensFs_one rfl cells9 op9))))
theorem op30 : Opens Try.prog 30 k30' (fun x => wf64 x.1 ∧ wf64 x.2.1 ∧ (wf64 x.2.2.1.1 ∧ wf64 x.2.2.1.2.1 ∧ True ∧ x.2.2.1.2.2.2.size ≤ maxLen) ∧ ∀ e ∈ x.2.2.2, entWf e) :=
  opens_struct id id (fun _ => rfl) Try.underlying30 cells30
    (opensFs_cons rfl cells3 op3 (opensFs_cons rfl cells3 op3 (opensFs_cons rfl cells27 op27 (opensFs_one rfl cells28 op28))))

set_option maxRecDepth 100000 in
theorem open_log {H : Type} {enc : TypeId × Value → H} {w : World} {base : Nat} {v : Value} {x : DataW H} {ps : List MemPlace} (hv : Value.okWide Try.prog w .any base 30 v)
    (h : DataW.Trod enc Try.prog w 0 (fun _ => true) true 30 v x ps) : ∃ t vt si st A4 c4 l4 A5 c5 l5 da A7 c7 l7,
      v = .agg #[.int .i64 t, .int .i64 vt, .int .i64 si, .int .i64 st, .slice A4 l4.length c4, .slice A5 l5.length c5, .string da, .slice A7 l7.length c7] ∧ LogIs w A4 c4 l4 A5 c5 l5 A7 c7 l7 ∧
      (Lit.int .i64 si).wf = true ∧ (Lit.int .i64 st).wf = true ∧ ∀ e ∈ l7, entWf e := by
  obtain ⟨cs, rfl, _⟩ : ∃ cs, v = .agg cs ∧ cs.size = Try.prog.cellsOf 30 := by
    unfold Value.okWide at hv
    rw [Try.underlying30] at hv
    obtain ⟨cs, h1, h2, _⟩ := hv
    exact ⟨cs, h1, h2⟩
  obtain ⟨fuel, hf⟩ := h
  obtain ⟨a, ⟨_, _, e, rfl, ⟨_, _, rfl, rfl, ⟨_, _, rfl, ⟨_, _, rfl, rfl, ⟨_, _, rfl, rfl, ⟨_, _, rfl, hk25, rfl⟩⟩⟩, ⟨A7, c7, rfl, h7, r7⟩⟩⟩⟩, hV⟩ := op30.out H enc w fuel _ x ps hf
  obtain ⟨A4, c4, A5, c5, rfl, h4, r4, h5, r5⟩ := k25_open hk25
  obtain ⟨_, _, ⟨v1, v2, _, _⟩, v3⟩ := hV
  obtain ⟨t, vt, ⟨si, st, cfg, da⟩, l7⟩ := a
  simp only [id_eq] at e h4 r4 h5 r5 h7 r7 v1 v2 v3
  refine ⟨t, vt, si, st, A4, c4, cfg.f0, A5, c5, cfg.f1, da, A7, c7, l7, ?_, ⟨r4, h4, r5, h5, r7, h7⟩, v1, v2, v3⟩
  have h2 : cs.toList = _ := e
  rw [show cs = cs.toList.toArray from by simp, h2]
  simp
end Go.Proofs.Ytbjhjimkljbjlaa.PA
