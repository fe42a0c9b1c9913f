/- Row and card of the law RuleScaled; by program (row.py). -/
import Derived.Test.YtfeleiepnifbcaaGreatDoorRw
import Derived.Test.YtfeleiepnifbcaaGreatDoorCv
import Derived.Test.YtfeleiepnifbcaaGreatDoorXl
set_option linter.unusedVariables false
namespace Go.Proofs.YtfeleiepnifbcaaGreatDoor.ruleScaled
open Go.V Go.C Go.ChangeShapes Go.WideShapes Go.ChangeAt Go.RowKit

set_option maxRecDepth 100000 in
theorem contract (H : Type) (enc : TypeId × Value → H) (W : World) (base : Nat) (args : Array Value) (ds gs : List (DataW H)) (before : List MemPlace)
    (hval : ∀ (j : Nat) t v, Tryz.f8.params[j]? = some t → args[j]? = some v → Value.okWide Tryz.prog W .any base t v)
    (hW : DataW.Whole enc Tryz.prog Tryz.f8.params.toList Rows.ruleScaledSpec.vars false W args.toList ds gs before) (hL : laidMetH Tryz.prog Rows.ruleScaledRow.laid W) (hsh : W.ShapedOpen Tryz.prog) :
    Calls Tryz.prog 8 args W fun e W' => ∃ v, e = .returned v ∧ Rows.ruleScaledSpec.post enc Tryz.prog Tryz.f8 false true false false W args v W' := by
  have hW' := hW
  obtain ⟨p, q, hA0, hV, rfl, hfz, hnd⟩ := hW
  have hA : DataW.TrodAll enc Tryz.prog W 0 (fun _ => true) true Tryz.f8.params.toList args.toList ds p := hA0
  rw [Tryz.params8] at hA hval
  obtain ⟨v0, vs0, d0, ds0, p0, q0, hargs, rfl, rfl, h0, r0⟩ := trodAll_cons hA
  obtain ⟨v1, vs1, d1, ds1, p1, q1, rfl, rfl, rfl, h1, r1⟩ := trodAll_cons r0
  obtain ⟨v2, vs2, d2, ds2, p2, q2, rfl, rfl, rfl, h2, r2⟩ := trodAll_cons r1
  obtain ⟨rfl, rfl, rfl⟩ := trodAll_nil r2
  obtain rfl : args = #[v0, v1, v2] := by cases args; simp_all
  obtain ⟨rfl, rfl⟩ := trodVars_none hV
  obtain ⟨l0, ⟨a0, rfl, w0⟩, e0⟩ := arg_slice (X := fun _ => False) Tryz.underlying26 (hval 0 26 v0 (by kernel_rfl) (by kernel_rfl)) h0 (open_26 (fun b h => h.elim))
  obtain ⟨_, _, hc0, e0, hn0⟩ := e0
  cases hc0
  obtain ⟨l1, ⟨a1, rfl, w1⟩, e1⟩ := arg_slice (X := fun _ => False) Tryz.underlying26 (hval 1 26 v1 (by kernel_rfl) (by kernel_rfl)) h1 (open_26 (fun b h => h.elim))
  obtain ⟨_, _, hc1, e1, hn1⟩ := e1
  cases hc1
  obtain ⟨a2, rfl, w2⟩ := arg_int Tryz.underlying3 (hval 2 3 v2 (by kernel_rfl) (by kernel_rfl)) h2
  replace w2 := wf_i64 w2
  have hw := wg_of hL hsh
  have hlaw : lawRuleScaled a0 a1 a2 = some true := lawRuleScaled_true w0 w1 w2
  have hrun := con_run (lawRuleScaled_con hw hlaw) (vals := [v0, v1, .int .i64 a2]) hw.glob (fun N ρ => by
    simp only [VReps]
    exact ⟨_, _, rfl, (by simp only [VRep]; exact e0), _, _, rfl, (by simp only [VRep]; exact e1), _, _, rfl, (by simp only [VRep, Rep]), rfl⟩)
  refine Calls.mono hrun ?_
  rintro e W' ⟨rfl, hb2⟩
  exact ⟨_, rfl, post_true laidOut mapsRow slicesOk1 (by rw [Tryz.params8]; decide) (by kernel_rfl) Tryz.underlying4 rfl ⟨rfl, rfl, rfl⟩ hW' hb2⟩

set_option maxRecDepth 100000 in
theorem lifted (os : Os) (started : os.Started) (H : Type) (enc : TypeId × Value → H) (F : Stop.Interp) :
    ReturnsInHanded {} Tryz.checked os 8 .any ((OpenSpec.ofChange Rows.ruleScaledSpec).preRow enc Tryz.prog Tryz.f8 Rows.ruleScaledRow.domain false Rows.ruleScaledRow.laid) (((OpenSpec.ofChange Rows.ruleScaledSpec).at F).post enc Tryz.prog Tryz.f8 false true false false) := by
  obtain ⟨places, hx⟩ : ∃ places, DataW.whole enc Tryz.prog ((World.laidAll Tryz.prog os Rows.ruleScaledRow.laid).forCall (fun _ _ => 0) ⟨#[], #[.slice none 0 0, .slice none 0 0, .int .i64 0], []⟩).memory Tryz.f8.params.toList Rows.ruleScaledSpec.vars false (#[.slice none 0 0, .slice none 0 0, .int .i64 0] : Array Value).toList 8 = some ([.nil, .nil, .lit (.int .i64 0)], [], places) := ⟨[], by kernel_rfl⟩
  refine returnsInHanded_of_row (C := Tryz.checked) (s := OpenSpec.ofChange Rows.ruleScaledSpec) own started (by kernel_rfl) Tryz.func8
    (witness_row_atRef (enc := enc) (C := Tryz.checked) false (World.laidAll Tryz.prog os Rows.ruleScaledRow.laid) #[.slice none 0 0, .slice none 0 0, .int .i64 0] (World.laidAll_os _ _ _) (by kernel_rfl) (by kernel_rfl) (by kernel_rfl)
      (OpenSpec.preRow_of_cond 8 hx (by kernel_rfl) (fun k hk => by cases hk) (by kernel_rfl) (laidMet_laidAll _ (by kernel_rfl) (by kernel_rfl)))) ?_
  intro W base args ds gs before hval hW _ _ _ hL hsh _
  exact contract H enc W base args ds gs before hval hW hL hsh

theorem said : Rows.RuleScaledSaid :=
  OpenClaim.holds_of_cond 8 Tryz.f8 rfl rfl rfl rfl rfl rfl rfl ⟨rfl, rfl, rfl, rfl, rfl⟩ rfl rfl rfl rfl rfl (by kernel_rfl) Tryz.func8 (by kernel_rfl)
    (of_decide_eq_true (by kernel_rfl)) (by unfold Func.isWrapper; first | (rw [if_pos (by decide +kernel)]; kernel_rfl) | (rw [if_neg (by decide +kernel)]; exact ⟨rfl, rfl⟩))
    (fun os started H enc _ F => by rw [OpenClaim.pre_eq_preRow]; exact lifted os started H enc F)

theorem plain (f : FuncId) (fn : Func) (hf : Tryz.pinned.checked.prog.funcNamed Rows.ruleScaledRow.func = some f) (hfn : Tryz.pinned.checked.prog.funcs[f]? = some fn) :
    true = Tryz.pinned.checked.prog.looks [] ∧ ∀ (j : Nat) t, fn.params[j]? = some t → Tryz.pinned.checked.prog.wantsStandIn t = false := by
  obtain rfl : f = 8 := Option.some.inj ((show Tryz.prog.funcNamed Rows.ruleScaledRow.func = some 8 by kernel_rfl).symm.trans hf) |>.symm
  obtain rfl : fn = Tryz.f8 := (Option.some.inj (Tryz.func8.symm.trans hfn)).symm
  refine ⟨by kernel_rfl, fun j t ht => ?_⟩
  rw [Tryz.params8] at ht
  have hm : t ∈ [26, 26, 3] := by simpa using Array.mem_of_getElem? ht
  have hall : ([26, 26, 3].all fun u => !Tryz.prog.wantsStandIn u) = true := by kernel_rfl
  have h1 := List.all_eq_true.1 hall t hm
  have h2 : Tryz.prog.wantsStandIn t = false := by simpa using h1
  exact h2

theorem card : Rows.RuleScaledCardSaid :=
  Claim7.holds_tied_plain_at .later [] _ _ _ _ said (fun _ h => by cases h) (by kernel_rfl) (fun _ h => by cases h) ruleScaled_row_tie rfl ⟨rfl, rfl⟩ (by kernel_rfl) rfl plain (by kernel_rfl)
#print axioms card
end Go.Proofs.YtfeleiepnifbcaaGreatDoor.ruleScaled
