/- What the rows of this seat share: how their arguments are opened, what their list of variables gives; by program (row.py). -/
import Derived.Test.YtfeleiepnifbcaaGreatDoorRa
import Derived.Test.YtfeleiepnifbcaaGreatDoorLib
import Derived.Test.YtfeleiepnifbcaaGreatDoorCards
import Derived.Test.YtfeleiepnifbcaaGreatDoorTie
import Derived.Lay
import Derived.ProofKit
import Derived.MakeChecks
import Derived.Deep.DeepHandedRow
import Derived.Deep.DeepWitnessRowRef
import Derived.SevenTiedAt
import Derived.Stop.Joined
set_option linter.unusedVariables false
set_option linter.unusedSimpArgs false
namespace Go.Proofs.YtfeleiepnifbcaaGreatDoor
open Go.V Go.C Go.ChangeShapes Go.WideShapes Go.ChangeAt Go.RowKit

theorem own : ownKnob Tryz.prog.godebug = none := by kernel_rfl
theorem laidOut : laidOutB Tryz.prog = true := by kernel_rfl
theorem mapsRow : mapsRowed Tryz.prog = true := by kernel_rfl
theorem slicesOk1 : slicesOkB Tryz.prog = true := by kernel_rfl

theorem wf_i64 {n : Int} (h : (Lit.int .i64 n).wf = true) : okI_i64 n := by
  simp only [Lit.wf, Bool.and_eq_true, decide_eq_true_eq, IntKind.min, IntKind.max] at h
  unfold okI_i64
  constructor <;> (have h1 := h.1; have h2 := h.2; revert h1 h2; simp [IntKind.bits, IntKind.signed] <;> omega)

theorem wf_i32 {n : Int} (h : (Lit.int .i32 n).wf = true) : okI_i32 n := by
  simp only [Lit.wf, Bool.and_eq_true, decide_eq_true_eq, IntKind.min, IntKind.max] at h
  unfold okI_i32
  constructor <;> (have h1 := h.1; have h2 := h.2; revert h1 h2; simp [IntKind.bits, IntKind.signed] <;> omega)

theorem wf_u8 {n : Int} (h : (Lit.int .u8 n).wf = true) : okI_u8 n := by
  simp only [Lit.wf, Bool.and_eq_true, decide_eq_true_eq, IntKind.min, IntKind.max] at h
  unfold okI_u8
  constructor <;> (have h1 := h.1; have h2 := h.2; revert h1 h2; simp [IntKind.bits, IntKind.signed] <;> omega)

theorem wf_u64 {n : Int} (h : (Lit.int .u64 n).wf = true) : okI_u64 n := by
  simp only [Lit.wf, Bool.and_eq_true, decide_eq_true_eq, IntKind.min, IntKind.max] at h
  unfold okI_u64
  constructor <;> (have h1 := h.1; have h2 := h.2; revert h1 h2; simp [IntKind.bits, IntKind.signed] <;> omega)

theorem wf_u32 {n : Int} (h : (Lit.int .u32 n).wf = true) : okI_u32 n := by
  simp only [Lit.wf, Bool.and_eq_true, decide_eq_true_eq, IntKind.min, IntKind.max] at h
  unfold okI_u32
  constructor <;> (have h1 := h.1; have h2 := h.2; revert h1 h2; simp [IntKind.bits, IntKind.signed] <;> omega)

theorem open_9 {H : Type} {enc : TypeId × Value → H} {W : World} {X : Nat → Prop} (hX : ∀ b, X b → W.heap.size ≤ b) : Opens enc Tryz.prog W X 9 (fun l => ∃ a : Str, l = eStr a ∧ a.length ≤ 9223372036854775807) := by
  intro base sp held fuel cs x h
  obtain ⟨l, ⟨n, rfl, hn⟩, hr⟩ := op_str Tryz.underlying9 _ _ _ _ _ _ h
  exact ⟨_, ⟨n, rfl, hn⟩, hr⟩

theorem open_3 {H : Type} {enc : TypeId × Value → H} {W : World} {X : Nat → Prop} (hX : ∀ b, X b → W.heap.size ≤ b) : Opens enc Tryz.prog W X 3 (fun l => ∃ a : Int, l = eInt_i64 a ∧ okI_i64 a) := by
  intro base sp held fuel cs x h
  obtain ⟨l, ⟨n, rfl, hn⟩, hr⟩ := op_int Tryz.underlying3 _ _ _ _ _ _ h
  exact ⟨_, ⟨n, rfl, wf_i64 hn⟩, hr⟩

theorem open_4 {H : Type} {enc : TypeId × Value → H} {W : World} {X : Nat → Prop} (hX : ∀ b, X b → W.heap.size ≤ b) : Opens enc Tryz.prog W X 4 (fun l => ∃ a : Bool, l = eBool a ∧ True) := by
  intro base sp held fuel cs x h
  obtain ⟨l, ⟨n, rfl⟩, hr⟩ := op_bool Tryz.underlying4 _ _ _ _ _ _ h
  exact ⟨_, ⟨n, rfl, trivial⟩, hr⟩

theorem open_22 {H : Type} {enc : TypeId × Value → H} {W : World} {X : Nat → Prop} (hX : ∀ b, X b → W.heap.size ≤ b) : Opens enc Tryz.prog W X 22 (fun l => ∃ a : (List Str), l = [.sl 1 (a.map eStr)] ∧ (a.length ≤ 9223372036854775807 ∧ ∀ x, x ∈ a → x.length ≤ 9223372036854775807)) := by
  intro base sp held fuel cs x h
  obtain ⟨l, ⟨es, rfl, hl, he⟩, hr⟩ := op_slice Tryz.underlying22 (z := 1) (by kernel_rfl) (by decide) hX (open_9 hX) _ _ _ _ _ _ h
  obtain ⟨xs, rfl, hx⟩ := list_map he
  exact ⟨_, ⟨xs, rfl, by simpa [maxLen] using hl, hx⟩, hr⟩

theorem open_28 {H : Type} {enc : TypeId × Value → H} {W : World} {X : Nat → Prop} (hX : ∀ b, X b → W.heap.size ≤ b) : Opens enc Tryz.prog W X 28 (fun l => ∃ a : ApiInput, l = eApiInput a ∧ okApiInput a) := by
  intro base sp held fuel cs x h
  obtain ⟨l, ⟨ls, rfl, hl⟩, hr⟩ := op_struct laidOut mapsRow (of_decide_eq_true (by kernel_rfl)) Tryz.underlying28 [_, _, _] ⟨open_9 hX, open_3 hX, open_4 hX, trivial⟩ _ _ _ _ _ _ h
  simp only [All2] at hl
  obtain ⟨_, _, rfl, ⟨a0, rfl, h0⟩, _, _, rfl, ⟨a1, rfl, h1⟩, _, _, rfl, ⟨a2, rfl, h2⟩, rfl⟩ := hl
  exact ⟨_, ⟨⟨a0, a1, a2⟩, rfl, ⟨h0, h1⟩⟩, by simpa [eApiInput, eBool, eInt_i64, eStr] using hr⟩

theorem open_23 {H : Type} {enc : TypeId × Value → H} {W : World} {X : Nat → Prop} (hX : ∀ b, X b → W.heap.size ≤ b) : Opens enc Tryz.prog W X 23 (fun l => ∃ a : (List ApiInput), l = [.sl 3 (a.map eApiInput)] ∧ (a.length ≤ 9223372036854775807 ∧ ∀ x, x ∈ a → okApiInput x)) := by
  intro base sp held fuel cs x h
  obtain ⟨l, ⟨es, rfl, hl, he⟩, hr⟩ := op_slice Tryz.underlying23 (z := 3) (by kernel_rfl) (by decide) hX (open_28 hX) _ _ _ _ _ _ h
  obtain ⟨xs, rfl, hx⟩ := list_map he
  exact ⟨_, ⟨xs, rfl, by simpa [maxLen] using hl, hx⟩, hr⟩

theorem open_25 {H : Type} {enc : TypeId × Value → H} {W : World} {X : Nat → Prop} (hX : ∀ b, X b → W.heap.size ≤ b) : Opens enc Tryz.prog W X 25 (fun l => ∃ a : ApiCase, l = eApiCase a ∧ okApiCase a) := by
  intro base sp held fuel cs x h
  obtain ⟨l, ⟨ls, rfl, hl⟩, hr⟩ := op_struct laidOut mapsRow (of_decide_eq_true (by kernel_rfl)) Tryz.underlying25 [_, _, _, _, _] ⟨open_9 hX, open_3 hX, open_4 hX, open_22 hX, open_23 hX, trivial⟩ _ _ _ _ _ _ h
  simp only [All2] at hl
  obtain ⟨_, _, rfl, ⟨a0, rfl, h0⟩, _, _, rfl, ⟨a1, rfl, h1⟩, _, _, rfl, ⟨a2, rfl, h2⟩, _, _, rfl, ⟨a3, rfl, h3⟩, _, _, rfl, ⟨a4, rfl, h4⟩, rfl⟩ := hl
  exact ⟨_, ⟨⟨a0, a1, a2, a3, a4⟩, rfl, ⟨h0, h1, h3, h4⟩⟩, by simpa [eApiCase, eBool, eInt_i64, eStr] using hr⟩

theorem open_26 {H : Type} {enc : TypeId × Value → H} {W : World} {X : Nat → Prop} (hX : ∀ b, X b → W.heap.size ≤ b) : Opens enc Tryz.prog W X 26 (fun l => ∃ a : (List Int), l = [.sl 1 (a.map eInt_i64)] ∧ (a.length ≤ 9223372036854775807 ∧ ∀ x, x ∈ a → okI_i64 x)) := by
  intro base sp held fuel cs x h
  obtain ⟨l, ⟨es, rfl, hl, he⟩, hr⟩ := op_slice Tryz.underlying26 (z := 1) (by kernel_rfl) (by decide) hX (open_3 hX) _ _ _ _ _ _ h
  obtain ⟨xs, rfl, hx⟩ := list_map he
  exact ⟨_, ⟨xs, rfl, by simpa [maxLen] using hl, hx⟩, hr⟩

theorem wg_of {W : World} (hL : laidMetH Tryz.prog Rows.ruleHoldsRow.laid W) (hsh : W.ShapedOpen Tryz.prog) : WG W := by
  rw [MakeChecks.laidMetH_plain _ _ _ (by kernel_rfl)] at hL
  refine ⟨?_, ?_, ?_, ?_, ?_, ?_, ?_⟩
  · exact glob_tab (name := "customs/nomenclature.lengths") (k := .i64) (zs := [2, 4, 6, 8]) (laid_tab hL (List.mem_cons_of_mem _ (List.mem_cons_of_mem _ (List.mem_cons_of_mem _ (List.mem_cons_of_mem _ (List.mem_cons_of_mem _ (List.mem_cons_of_mem _ (List.mem_cons_of_mem _ (List.mem_cons_of_mem _ (List.mem_cons.2 (.inl (by kernel_rfl))))))))))) (g := 0) (by kernel_rfl) (t := 93) (by kernel_rfl) Tryz.underlying93 Tryz.underlying3 (by kernel_rfl) (by kernel_rfl)) (by kernel_rfl)
  · have hlen : Tryz.prog.globals.size = 12 := by kernel_rfl
    obtain ⟨⟨z, t⟩, hz⟩ := Option.isSome_iff_exists.1 (show (((begin Tryz.prog (fun _ _ => 0) default).world.heap[11]?).bind Obj.row?).isSome = true by kernel_rfl)
    obtain ⟨cs, hh, _⟩ := hsh.1 11 _ _ (by omega) hz
    have := (Array.getElem?_eq_some_iff.1 hh).1
    omega
  · exact cell_of_shapedOpen_int hsh (of_decide_eq_true (by kernel_rfl)) (zero := #[.int .i64 0]) (t := 3) (by kernel_rfl) (by kernel_rfl) (by kernel_rfl) (by kernel_rfl) (by kernel_rfl)
  · exact laid_iface (nm := "*errors.errorString") (d := .ptr (.agg [.lit (.string [105, 110, 118, 97, 108, 105, 100, 32, 115, 121, 110, 116, 97, 120])])) hL (by simp [Rows.ruleHoldsRow, Rows.laid_strconv_ErrSyntax]) (show Tryz.prog.globalNamed "strconv.ErrSyntax" = some 7 by kernel_rfl) (t := 117) (by kernel_rfl) Tryz.underlying117
  · exact laid_iface (nm := "*errors.errorString") (d := .ptr (.agg [.lit (.string [118, 97, 108, 117, 101, 32, 111, 117, 116, 32, 111, 102, 32, 114, 97, 110, 103, 101])])) hL (by simp [Rows.ruleHoldsRow, Rows.laid_strconv_ErrRange]) (show Tryz.prog.globalNamed "strconv.ErrRange" = some 8 by kernel_rfl) (t := 117) (by kernel_rfl) Tryz.underlying117
  · exact laid_tab hL (List.mem_cons_of_mem _ (List.mem_cons_of_mem _ (List.mem_cons.2 (.inl (by kernel_rfl))))) (g := 6) (by kernel_rfl) (t := 169) (by kernel_rfl) Tryz.underlying169 Tryz.underlying88 (by kernel_rfl) (by kernel_rfl)
  · exact laid_tab hL (List.mem_cons_of_mem _ (List.mem_cons_of_mem _ (List.mem_cons_of_mem _ (List.mem_cons_of_mem _ (List.mem_cons_of_mem _ (List.mem_cons_of_mem _ (List.mem_cons_of_mem _ (List.mem_cons.2 (.inl (by kernel_rfl)))))))))) (g := 1) (by kernel_rfl) (t := 109) (by kernel_rfl) Tryz.underlying109 Tryz.underlying5 (by kernel_rfl) (by kernel_rfl)

end Go.Proofs.YtfeleiepnifbcaaGreatDoor
