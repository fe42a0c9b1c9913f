/- Row and card of the law RuleCase; by program (row.py). -/
import Derived.Test.YtfeleiepnifbcaaGreatDoorRw
import Derived.Test.YtfeleiepnifbcaaGreatDoorCv
import Derived.Test.YtfeleiepnifbcaaGreatDoorXl
set_option linter.unusedVariables false
namespace Go.Proofs.YtfeleiepnifbcaaGreatDoor.ruleCase
open Go.V Go.C Go.ChangeShapes Go.WideShapes Go.ChangeAt Go.RowKit

set_option maxRecDepth 100000 in
theorem contract (H : Type) (enc : TypeId × Value → H) (W : World) (base : Nat) (args : Array Value) (ds gs : List (DataW H)) (before : List MemPlace)
    (hval : ∀ (j : Nat) t v, Tryz.f3.params[j]? = some t → args[j]? = some v → Value.okWide Tryz.prog W .any base t v)
    (hW : DataW.Whole enc Tryz.prog Tryz.f3.params.toList Rows.ruleCaseSpec.vars false W args.toList ds gs before) (hL : laidMetH Tryz.prog Rows.ruleCaseRow.laid W) (hsh : W.ShapedOpen Tryz.prog) :
    Calls Tryz.prog 3 args W fun e W' => ∃ v, e = .returned v ∧ Rows.ruleCaseSpec.post enc Tryz.prog Tryz.f3 false true false false W args v W' := by
  have hW' := hW
  obtain ⟨p, q, hA0, hV, rfl, hfz, hnd⟩ := hW
  have hA : DataW.TrodAll enc Tryz.prog W 0 (fun _ => true) true Tryz.f3.params.toList args.toList ds p := hA0
  rw [Tryz.params3] at hA hval
  obtain ⟨v0, vs0, d0, ds0, p0, q0, hargs, rfl, rfl, h0, r0⟩ := trodAll_cons hA
  obtain ⟨v1, vs1, d1, ds1, p1, q1, rfl, rfl, rfl, h1, r1⟩ := trodAll_cons r0
  obtain ⟨v2, vs2, d2, ds2, p2, q2, rfl, rfl, rfl, h2, r2⟩ := trodAll_cons r1
  obtain ⟨v3, vs3, d3, ds3, p3, q3, rfl, rfl, rfl, h3, r3⟩ := trodAll_cons r2
  obtain ⟨v4, vs4, d4, ds4, p4, q4, rfl, rfl, rfl, h4, r4⟩ := trodAll_cons r3
  obtain ⟨rfl, rfl, rfl⟩ := trodAll_nil r4
  obtain rfl : args = #[v0, v1, v2, v3, v4] := by cases args; simp_all
  obtain ⟨rfl, rfl⟩ := trodVars_none hV
  obtain ⟨l0, ⟨a0, rfl, w0⟩, e0⟩ := arg_struct (X := fun _ => False) Tryz.underlying25 (hval 0 25 v0 (by kernel_rfl) (by kernel_rfl)) h0 (open_25 (fun b h => h.elim))
  obtain ⟨l1, ⟨a1, rfl, w1⟩, e1⟩ := arg_slice (X := fun _ => False) Tryz.underlying26 (hval 1 26 v1 (by kernel_rfl) (by kernel_rfl)) h1 (open_26 (fun b h => h.elim))
  obtain ⟨_, _, hc1, e1, hn1⟩ := e1
  cases hc1
  obtain ⟨a2, rfl, w2⟩ := arg_int Tryz.underlying3 (hval 2 3 v2 (by kernel_rfl) (by kernel_rfl)) h2
  replace w2 := wf_i64 w2
  obtain ⟨l3, ⟨a3, rfl, w3⟩, e3⟩ := arg_struct (X := fun _ => False) Tryz.underlying28 (hval 3 28 v3 (by kernel_rfl) (by kernel_rfl)) h3 (open_28 (fun b h => h.elim))
  obtain ⟨a4, rfl, w4⟩ := arg_int Tryz.underlying3 (hval 4 3 v4 (by kernel_rfl) (by kernel_rfl)) h4
  replace w4 := wf_i64 w4
  have hw := wg_of hL hsh
  have hlaw : lawRuleCase a0 a1 a2 a3 a4 = some true := lawRuleCase_true w0 w1 w2 w3 w4
  have hrun := con_run (lawRuleCase_con hw hlaw) (vals := [v0, v1, .int .i64 a2, v3, .int .i64 a4]) hw.glob (fun N ρ => by
    simp only [VReps]
    exact ⟨_, _, rfl, (by simp only [VRep]; exact e0), _, _, rfl, (by simp only [VRep]; exact e1), _, _, rfl, (by simp only [VRep, Rep]), _, _, rfl, (by simp only [VRep]; exact e3), _, _, rfl, (by simp only [VRep, Rep]), rfl⟩)
  refine Calls.mono hrun ?_
  rintro e W' ⟨rfl, hb2⟩
  exact ⟨_, rfl, post_true laidOut mapsRow slicesOk1 (by rw [Tryz.params3]; decide) (by kernel_rfl) Tryz.underlying4 rfl ⟨rfl, rfl, rfl⟩ hW' hb2⟩

set_option maxRecDepth 100000 in
theorem lifted (os : Os) (started : os.Started) (H : Type) (enc : TypeId × Value → H) (F : Stop.Interp) :
    ReturnsInHanded {} Tryz.checked os 3 .any ((OpenSpec.ofChange Rows.ruleCaseSpec).preRow enc Tryz.prog Tryz.f3 Rows.ruleCaseRow.domain false Rows.ruleCaseRow.laid) (((OpenSpec.ofChange Rows.ruleCaseSpec).at F).post enc Tryz.prog Tryz.f3 false true false false) := by
  obtain ⟨places, hx⟩ : ∃ places, DataW.whole enc Tryz.prog ((World.laidAll Tryz.prog os Rows.ruleCaseRow.laid).forCall (fun _ _ => 0) ⟨#[], #[.agg #[.string ByteArray.empty, .int .i64 0, .bool false, .slice none 0 0, .slice none 0 0], .slice none 0 0, .int .i64 0, .agg #[.string ByteArray.empty, .int .i64 0, .bool false], .int .i64 0], []⟩).memory Tryz.f3.params.toList Rows.ruleCaseSpec.vars false (#[.agg #[.string ByteArray.empty, .int .i64 0, .bool false, .slice none 0 0, .slice none 0 0], .slice none 0 0, .int .i64 0, .agg #[.string ByteArray.empty, .int .i64 0, .bool false], .int .i64 0] : Array Value).toList 8 = some ([.agg [.lit (.string []), .lit (.int .i64 0), .lit (.bool false), .nil, .nil], .nil, .lit (.int .i64 0), .agg [.lit (.string []), .lit (.int .i64 0), .lit (.bool false)], .lit (.int .i64 0)], [], places) := ⟨[], by kernel_rfl⟩
  refine returnsInHanded_of_row (C := Tryz.checked) (s := OpenSpec.ofChange Rows.ruleCaseSpec) own started (by kernel_rfl) Tryz.func3
    (witness_row_atRef (enc := enc) (C := Tryz.checked) false (World.laidAll Tryz.prog os Rows.ruleCaseRow.laid) #[.agg #[.string ByteArray.empty, .int .i64 0, .bool false, .slice none 0 0, .slice none 0 0], .slice none 0 0, .int .i64 0, .agg #[.string ByteArray.empty, .int .i64 0, .bool false], .int .i64 0] (World.laidAll_os _ _ _) (by kernel_rfl) (by kernel_rfl) (by kernel_rfl)
      (OpenSpec.preRow_of_cond 8 hx (by kernel_rfl) (fun k hk => by cases hk) (by kernel_rfl) (laidMet_laidAll _ (by kernel_rfl) (by kernel_rfl)))) ?_
  intro W base args ds gs before hval hW _ _ _ hL hsh _
  exact contract H enc W base args ds gs before hval hW hL hsh

theorem said : Rows.RuleCaseSaid :=
  OpenClaim.holds_of_cond 3 Tryz.f3 rfl rfl rfl rfl rfl rfl rfl ⟨rfl, rfl, rfl, rfl, rfl⟩ rfl rfl rfl rfl rfl (by kernel_rfl) Tryz.func3 (by kernel_rfl)
    (of_decide_eq_true (by kernel_rfl)) (by unfold Func.isWrapper; first | (rw [if_pos (by decide +kernel)]; kernel_rfl) | (rw [if_neg (by decide +kernel)]; exact ⟨rfl, rfl⟩))
    (fun os started H enc _ F => by rw [OpenClaim.pre_eq_preRow]; exact lifted os started H enc F)

theorem plain (f : FuncId) (fn : Func) (hf : Tryz.pinned.checked.prog.funcNamed Rows.ruleCaseRow.func = some f) (hfn : Tryz.pinned.checked.prog.funcs[f]? = some fn) :
    true = Tryz.pinned.checked.prog.looks [] ∧ ∀ (j : Nat) t, fn.params[j]? = some t → Tryz.pinned.checked.prog.wantsStandIn t = false := by
  obtain rfl : f = 3 := Option.some.inj ((show Tryz.prog.funcNamed Rows.ruleCaseRow.func = some 3 by kernel_rfl).symm.trans hf) |>.symm
  obtain rfl : fn = Tryz.f3 := (Option.some.inj (Tryz.func3.symm.trans hfn)).symm
  refine ⟨by kernel_rfl, fun j t ht => ?_⟩
  rw [Tryz.params3] at ht
  have hm : t ∈ [25, 26, 3, 28, 3] := by simpa using Array.mem_of_getElem? ht
  have hall : ([25, 26, 3, 28, 3].all fun u => !Tryz.prog.wantsStandIn u) = true := by kernel_rfl
  have h1 := List.all_eq_true.1 hall t hm
  have h2 : Tryz.prog.wantsStandIn t = false := by simpa using h1
  exact h2

theorem card : Rows.RuleCaseCardSaid :=
  Claim7.holds_tied_plain_at .later [] _ _ _ _ said (fun _ h => by cases h) (by kernel_rfl) (fun _ h => by cases h) ruleCase_row_tie rfl ⟨rfl, rfl⟩ (by kernel_rfl) rfl plain (by kernel_rfl)
#print axioms card
end Go.Proofs.YtfeleiepnifbcaaGreatDoor.ruleCase
