/- Row and card of the law CheckRaw; by program (row.py). -/
import Derived.Test.YtaeplfiaahkgpaaGreatDoorQc3
import Derived.Test.YtaeplfiaahkgpaaGreatDoorQc9
import Derived.Test.YtaeplfiaahkgpaaGreatDoorQc11
set_option linter.unusedVariables false
namespace Go.Proofs.YtaeplfiaahkgpaaGreatDoor.checkRaw
open Go.V Go.C Go.ChangeShapes Go.WideShapes Go.ChangeAt Go.RowKit
set_option maxRecDepth 100000 in
theorem contract (H : Type) (enc : TypeId × Value → H) (W : World) (base : Nat) (args : Array Value) (ds gs : List (DataW H)) (before : List MemPlace)
    (hval : ∀ (j : Nat) t v, Tryz.f5.params[j]? = some t → args[j]? = some v → Value.okWide Tryz.prog W .any base t v)
    (hW : DataW.Whole enc Tryz.prog Tryz.f5.params.toList Rows.checkRawSpec.vars false W args.toList ds gs before) (hL : laidMetH Tryz.prog Rows.checkRawRow.laid W) (hsh : W.ShapedOpen Tryz.prog) :
    Calls Tryz.prog 5 args W fun e W' => ∃ v, e = .returned v ∧ Rows.checkRawSpec.post enc Tryz.prog Tryz.f5 false true false false W args v W' := by
  have hW' := hW
  obtain ⟨p, q, hA0, hV, rfl, hfz, hnd⟩ := hW
  have hA : DataW.TrodAll enc Tryz.prog W 0 (fun _ => true) true Tryz.f5.params.toList args.toList ds p := hA0
  rw [Tryz.params5] at hA hval
  obtain ⟨v0, vs0, d0, ds0, p0, q0, hargs, rfl, rfl, h0, r0⟩ := trodAll_cons hA
  obtain ⟨v1, vs1, d1, ds1, p1, q1, rfl, rfl, rfl, h1, r1⟩ := trodAll_cons r0
  obtain ⟨v2, vs2, d2, ds2, p2, q2, rfl, rfl, rfl, h2, r2⟩ := trodAll_cons r1
  obtain ⟨v3, vs3, d3, ds3, p3, q3, rfl, rfl, rfl, h3, r3⟩ := trodAll_cons r2
  obtain ⟨v4, vs4, d4, ds4, p4, q4, rfl, rfl, rfl, h4, r4⟩ := trodAll_cons r3
  obtain ⟨v5, vs5, d5, ds5, p5, q5, rfl, rfl, rfl, h5, r5⟩ := trodAll_cons r4
  obtain ⟨v6, vs6, d6, ds6, p6, q6, rfl, rfl, rfl, h6, r6⟩ := trodAll_cons r5
  obtain ⟨v7, vs7, d7, ds7, p7, q7, rfl, rfl, rfl, h7, r7⟩ := trodAll_cons r6
  obtain ⟨rfl, rfl, rfl⟩ := trodAll_nil r7
  obtain rfl : args = #[v0, v1, v2, v3, v4, v5, v6, v7] := by cases args; simp_all
  obtain ⟨rfl, rfl⟩ := trodVars_none hV
  obtain ⟨l0, ⟨a0, rfl, w0⟩, e0⟩ := arg_struct (X := fun _ => False) Tryz.underlying26 (hval 0 26 v0 (by kernel_rfl) (by kernel_rfl)) h0 (open_26 (fun b h => h.elim))
  obtain ⟨l1, ⟨a1, rfl, w1⟩, e1⟩ := arg_struct (X := fun _ => False) Tryz.underlying32 (hval 1 32 v1 (by kernel_rfl) (by kernel_rfl)) h1 (open_32 (fun b h => h.elim))
  obtain ⟨l2, ⟨a2, rfl, w2⟩, e2⟩ := arg_slice (X := fun _ => False) Tryz.underlying22 (hval 2 22 v2 (by kernel_rfl) (by kernel_rfl)) h2 (open_22 (fun b h => h.elim))
  obtain ⟨_, _, hc2, e2, hn2⟩ := e2
  cases hc2
  obtain ⟨l3, ⟨a3, rfl, w3⟩, e3⟩ := arg_slice (X := fun _ => False) Tryz.underlying22 (hval 3 22 v3 (by kernel_rfl) (by kernel_rfl)) h3 (open_22 (fun b h => h.elim))
  obtain ⟨_, _, hc3, e3, hn3⟩ := e3
  cases hc3
  obtain ⟨a4, rfl, w4⟩ := arg_int Tryz.underlying3 (hval 4 3 v4 (by kernel_rfl) (by kernel_rfl)) h4
  replace w4 := wf_i64 w4
  obtain ⟨a5, rfl, w5⟩ := arg_int Tryz.underlying3 (hval 5 3 v5 (by kernel_rfl) (by kernel_rfl)) h5
  replace w5 := wf_i64 w5
  obtain ⟨a6, rfl, rfl, w6⟩ := arg_str Tryz.underlying9 (hval 6 9 v6 (by kernel_rfl) (by kernel_rfl)) h6
  obtain ⟨l7, ⟨a7, rfl, w7⟩, e7⟩ := arg_slice (X := fun _ => False) Tryz.underlying34 (hval 7 34 v7 (by kernel_rfl) (by kernel_rfl)) h7 (open_34 (fun b h => h.elim))
  obtain ⟨_, _, hc7, e7, hn7⟩ := e7
  cases hc7
  have hw := wg_of hL hsh
  have hlaw : lawCheckRaw a0 a1 a2 a3 a4 a5 a6 a7 = some true := lawCheckRaw_true w0 w1 w2 w3 w4 w5 w6 w7
  have hrun := con_run (lawCheckRaw_con hw hlaw) (vals := [v0, v1, v2, v3, .int .i64 a4, .int .i64 a5, .string ⟨⟨a6⟩⟩, v7]) hw.glob (fun N ρ => by
    simp only [VReps]
    exact ⟨_, _, rfl, (by simp only [VRep]; exact e0), _, _, rfl, (by simp only [VRep]; exact e1), _, _, rfl, (by simp only [VRep]; exact e2), _, _, rfl, (by simp only [VRep]; exact e3), _, _, rfl, (by simp only [VRep, Rep]), _, _, rfl, (by simp only [VRep, Rep]), _, _, rfl, (by simp only [VRep, Rep]), _, _, rfl, (by simp only [VRep]; exact e7), rfl⟩)
  refine Calls.mono hrun ?_
  rintro e W' ⟨rfl, hb2⟩
  exact ⟨_, rfl, post_true laidOut mapsRow slicesOk1 (by rw [Tryz.params5]; decide) (by kernel_rfl) Tryz.underlying4 rfl ⟨rfl, rfl, rfl⟩ hW' hb2⟩
set_option maxRecDepth 100000 in
theorem lifted (os : Os) (started : os.Started) (H : Type) (enc : TypeId × Value → H) (F : Stop.Interp) :
    ReturnsInHanded {} Tryz.checked os 5 .any ((OpenSpec.ofChange Rows.checkRawSpec).preRow enc Tryz.prog Tryz.f5 Rows.checkRawRow.domain false Rows.checkRawRow.laid) (((OpenSpec.ofChange Rows.checkRawSpec).at F).post enc Tryz.prog Tryz.f5 false true false false) := by
  obtain ⟨places, hx⟩ : ∃ places, DataW.whole enc Tryz.prog ((World.laidAll Tryz.prog os Rows.checkRawRow.laid).forCall (fun _ _ => 0) ⟨#[], #[.agg #[.slice none 0 0, .slice none 0 0], .agg #[.slice none 0 0, .slice none 0 0, .slice none 0 0, .bool false], .slice none 0 0, .slice none 0 0, .int .i64 0, .int .i64 0, .string ByteArray.empty, .slice none 0 0], []⟩).memory Tryz.f5.params.toList Rows.checkRawSpec.vars false (#[.agg #[.slice none 0 0, .slice none 0 0], .agg #[.slice none 0 0, .slice none 0 0, .slice none 0 0, .bool false], .slice none 0 0, .slice none 0 0, .int .i64 0, .int .i64 0, .string ByteArray.empty, .slice none 0 0] : Array Value).toList 8 = some ([.agg [.nil, .nil], .agg [.nil, .nil, .nil, .lit (.bool false)], .nil, .nil, .lit (.int .i64 0), .lit (.int .i64 0), .lit (.string []), .nil], [], places) := ⟨[], by kernel_rfl⟩
  refine returnsInHanded_of_row (C := Tryz.checked) (s := OpenSpec.ofChange Rows.checkRawSpec) own started (by kernel_rfl) Tryz.func5
    (witness_row_atRef (enc := enc) (C := Tryz.checked) false (World.laidAll Tryz.prog os Rows.checkRawRow.laid) #[.agg #[.slice none 0 0, .slice none 0 0], .agg #[.slice none 0 0, .slice none 0 0, .slice none 0 0, .bool false], .slice none 0 0, .slice none 0 0, .int .i64 0, .int .i64 0, .string ByteArray.empty, .slice none 0 0] (World.laidAll_os _ _ _) (by kernel_rfl) (by kernel_rfl) (by kernel_rfl)
      (OpenSpec.preRow_of_cond 8 hx (by kernel_rfl) (fun k hk => by cases hk) (by kernel_rfl) (laidMet_laidAll _ (by kernel_rfl) (by kernel_rfl)))) ?_
  intro W base args ds gs before hval hW _ _ _ hL hsh _
  exact contract H enc W base args ds gs before hval hW hL hsh
theorem said : Rows.CheckRawSaid :=
  OpenClaim.holds_of_cond 5 Tryz.f5 rfl rfl rfl rfl rfl rfl rfl ⟨rfl, rfl, rfl, rfl, rfl⟩ rfl rfl rfl rfl rfl (by kernel_rfl) Tryz.func5 (by kernel_rfl)
    (of_decide_eq_true (by kernel_rfl)) (by unfold Func.isWrapper; first | (rw [if_pos (by decide +kernel)]; kernel_rfl) | (rw [if_neg (by decide +kernel)]; exact ⟨rfl, rfl⟩))
    (fun os started H enc _ F => by rw [OpenClaim.pre_eq_preRow]; exact lifted os started H enc F)
theorem plain (f : FuncId) (fn : Func) (hf : Tryz.pinned.checked.prog.funcNamed Rows.checkRawRow.func = some f) (hfn : Tryz.pinned.checked.prog.funcs[f]? = some fn) :
    false = Tryz.pinned.checked.prog.looks [] ∧ ∀ (j : Nat) t, fn.params[j]? = some t → Tryz.pinned.checked.prog.wantsStandIn t = false := by
  obtain rfl : f = 5 := Option.some.inj ((show Tryz.prog.funcNamed Rows.checkRawRow.func = some 5 by kernel_rfl).symm.trans hf) |>.symm
  obtain rfl : fn = Tryz.f5 := (Option.some.inj (Tryz.func5.symm.trans hfn)).symm
  refine ⟨by kernel_rfl, fun j t ht => ?_⟩
  rw [Tryz.params5] at ht
  have hm : t ∈ [26, 32, 22, 22, 3, 3, 9, 34] := by simpa using Array.mem_of_getElem? ht
  have hall : ([26, 32, 22, 22, 3, 3, 9, 34].all fun u => !Tryz.prog.wantsStandIn u) = true := by kernel_rfl
  have h1 := List.all_eq_true.1 hall t hm
  have h2 : Tryz.prog.wantsStandIn t = false := by simpa using h1
  exact h2
theorem card : Rows.CheckRawCardSaid :=
  Claim7.holds_tied_plain_at .later [] _ _ _ _ said (fun _ h => by cases h) (by kernel_rfl) (fun _ h => by cases h) checkRaw_row_tie rfl ⟨rfl, rfl⟩ (by kernel_rfl) rfl plain (by kernel_rfl)
#print axioms card
end Go.Proofs.YtaeplfiaahkgpaaGreatDoor.checkRaw
