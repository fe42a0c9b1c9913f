/- Row and card of the law CheckUnique; by program (row.py). -/
import Derived.Test.YtaeplfiaahkgpaaGreatDoorQu3
import Derived.Test.YtaeplfiaahkgpaaGreatDoorQu9
import Derived.Test.YtaeplfiaahkgpaaGreatDoorQu11
set_option linter.unusedVariables false
namespace Go.Proofs.YtaeplfiaahkgpaaGreatDoor.checkUnique
open Go.V Go.C Go.ChangeShapes Go.WideShapes Go.ChangeAt Go.RowKit
set_option maxRecDepth 100000 in
theorem contract (H : Type) (enc : TypeId × Value → H) (W : World) (base : Nat) (args : Array Value) (ds gs : List (DataW H)) (before : List MemPlace)
    (hval : ∀ (j : Nat) t v, Tryz.f6.params[j]? = some t → args[j]? = some v → Value.okWide Tryz.prog W .any base t v)
    (hW : DataW.Whole enc Tryz.prog Tryz.f6.params.toList Rows.checkUniqueSpec.vars false W args.toList ds gs before) (hL : laidMetH Tryz.prog Rows.checkUniqueRow.laid W) (hsh : W.ShapedOpen Tryz.prog) (hz : (DataW.weightsEach Tryz.prog (Tryz.f6.params.toList ++ (OpenSpec.ofChange Rows.checkUniqueSpec).bare.plain.varTypes Tryz.prog) (ds ++ gs)).all (· ≤ reachBytes) = true) :
    Calls Tryz.prog 6 args W fun e W' => ∃ v, e = .returned v ∧ Rows.checkUniqueSpec.post enc Tryz.prog Tryz.f6 false true false false W args v W' := by
  have hW' := hW
  obtain ⟨p, q, hA0, hV, rfl, hfz, hnd⟩ := hW
  have hA : DataW.TrodAll enc Tryz.prog W 0 (fun _ => true) true Tryz.f6.params.toList args.toList ds p := hA0
  rw [Tryz.params6] at hA hval
  obtain ⟨v0, vs0, d0, ds0, p0, q0, hargs, rfl, rfl, h0, r0⟩ := trodAll_cons hA
  obtain ⟨v1, vs1, d1, ds1, p1, q1, rfl, rfl, rfl, h1, r1⟩ := trodAll_cons r0
  obtain ⟨v2, vs2, d2, ds2, p2, q2, rfl, rfl, rfl, h2, r2⟩ := trodAll_cons r1
  obtain ⟨v3, vs3, d3, ds3, p3, q3, rfl, rfl, rfl, h3, r3⟩ := trodAll_cons r2
  obtain ⟨v4, vs4, d4, ds4, p4, q4, rfl, rfl, rfl, h4, r4⟩ := trodAll_cons r3
  obtain ⟨v5, vs5, d5, ds5, p5, q5, rfl, rfl, rfl, h5, r5⟩ := trodAll_cons r4
  obtain ⟨rfl, rfl, rfl⟩ := trodAll_nil r5
  obtain rfl : args = #[v0, v1, v2, v3, v4, v5] := by cases args; simp_all
  obtain ⟨rfl, rfl⟩ := trodVars_none hV
  obtain ⟨l0, ⟨a0, rfl, w0⟩, e0⟩ := arg_slice (X := fun _ => False) Tryz.underlying22 (hval 0 22 v0 (by kernel_rfl) (by kernel_rfl)) h0 (open_22 (fun b h => h.elim))
  obtain ⟨_, _, hc0, e0, hn0⟩ := e0
  cases hc0
  obtain ⟨l1, ⟨a1, rfl, w1⟩, e1⟩ := arg_slice (X := fun _ => False) Tryz.underlying22 (hval 1 22 v1 (by kernel_rfl) (by kernel_rfl)) h1 (open_22 (fun b h => h.elim))
  obtain ⟨_, _, hc1, e1, hn1⟩ := e1
  cases hc1
  obtain ⟨a2, rfl, w2⟩ := arg_int Tryz.underlying3 (hval 2 3 v2 (by kernel_rfl) (by kernel_rfl)) h2
  replace w2 := wf_i64 w2
  obtain ⟨a3, rfl, rfl, w3⟩ := arg_str Tryz.underlying9 (hval 3 9 v3 (by kernel_rfl) (by kernel_rfl)) h3
  obtain ⟨l4, ⟨a4, rfl, w4⟩, e4⟩ := arg_slice (X := fun _ => False) Tryz.underlying34 (hval 4 34 v4 (by kernel_rfl) (by kernel_rfl)) h4 (open_34 (fun b h => h.elim))
  obtain ⟨_, _, hc4, e4, hn4⟩ := e4
  cases hc4
  obtain ⟨a5, rfl, w5⟩ := arg_int Tryz.underlying3 (hval 5 3 v5 (by kernel_rfl) (by kernel_rfl)) h5
  replace w5 := wf_i64 w5
  have hw := wg_of hL hsh
  have hb4 : a4.length ≤ 1954687338211 := by
    have hq := e4
    simp only [Rep] at hq
    obtain ⟨base, cap, hv, _⟩ := hq
    have h1 := h4
    rw [hv] at h1
    have hz := hz
    rw [Tryz.params6] at hz
    have h2 := sized.slice_bytes (j := 4) hz rfl rfl Tryz.underlying34 h1
    rw [show Tryz.prog.bytesOf 45 = 72 by kernel_rfl, List.length_map] at h2
    have h3 : reachBytes = 140737488351232 := by decide
    rw [h3] at h2
    omega
  have hlaw : lawCheckUnique a0 a1 a2 a3 a4 a5 = some true := lawCheckUnique_true w0 w1 w2 w3 w4 w5 hb4
  have hrun := con_run (lawCheckUnique_con hw hlaw) (vals := [v0, v1, .int .i64 a2, .string ⟨⟨a3⟩⟩, v4, .int .i64 a5]) hw.glob (fun N ρ => by
    simp only [VReps]
    exact ⟨_, _, rfl, (by simp only [VRep]; exact e0), _, _, rfl, (by simp only [VRep]; exact e1), _, _, rfl, (by simp only [VRep, Rep]), _, _, rfl, (by simp only [VRep, Rep]), _, _, rfl, (by simp only [VRep]; exact e4), _, _, rfl, (by simp only [VRep, Rep]), rfl⟩)
  refine Calls.mono hrun ?_
  rintro e W' ⟨rfl, hb2⟩
  exact ⟨_, rfl, post_true laidOut mapsRow slicesOk1 (by rw [Tryz.params6]; decide) (by kernel_rfl) Tryz.underlying4 rfl ⟨rfl, rfl, rfl⟩ hW' hb2⟩
set_option maxRecDepth 100000 in
theorem lifted (os : Os) (started : os.Started) (H : Type) (enc : TypeId × Value → H) (F : Stop.Interp) :
    ReturnsInHanded {} Tryz.checked os 6 .any ((OpenSpec.ofChange Rows.checkUniqueSpec).preRow enc Tryz.prog Tryz.f6 Rows.checkUniqueRow.domain false Rows.checkUniqueRow.laid) (((OpenSpec.ofChange Rows.checkUniqueSpec).at F).post enc Tryz.prog Tryz.f6 false true false false) := by
  obtain ⟨places, hx⟩ : ∃ places, DataW.whole enc Tryz.prog ((World.laidAll Tryz.prog os Rows.checkUniqueRow.laid).forCall (fun _ _ => 0) ⟨#[], #[.slice none 0 0, .slice none 0 0, .int .i64 0, .string ByteArray.empty, .slice none 0 0, .int .i64 0], []⟩).memory Tryz.f6.params.toList Rows.checkUniqueSpec.vars false (#[.slice none 0 0, .slice none 0 0, .int .i64 0, .string ByteArray.empty, .slice none 0 0, .int .i64 0] : Array Value).toList 8 = some ([.nil, .nil, .lit (.int .i64 0), .lit (.string []), .nil, .lit (.int .i64 0)], [], places) := ⟨[], by kernel_rfl⟩
  refine returnsInHanded_of_row (C := Tryz.checked) (s := OpenSpec.ofChange Rows.checkUniqueSpec) own started (by kernel_rfl) Tryz.func6
    (witness_row_atRef (enc := enc) (C := Tryz.checked) false (World.laidAll Tryz.prog os Rows.checkUniqueRow.laid) #[.slice none 0 0, .slice none 0 0, .int .i64 0, .string ByteArray.empty, .slice none 0 0, .int .i64 0] (World.laidAll_os _ _ _) (by kernel_rfl) (by kernel_rfl) (by kernel_rfl)
      (OpenSpec.preRow_of_cond 8 hx (by kernel_rfl) (fun k hk => by cases hk) (by kernel_rfl) (laidMet_laidAll _ (by kernel_rfl) (by kernel_rfl)))) ?_
  intro W base args ds gs before hval hW _ _ hz hL hsh _
  exact contract H enc W base args ds gs before hval hW hL hsh hz
theorem said : Rows.CheckUniqueSaid :=
  OpenClaim.holds_of_cond 6 Tryz.f6 rfl rfl rfl rfl rfl rfl rfl ⟨rfl, rfl, rfl, rfl, rfl⟩ rfl rfl rfl rfl rfl (by kernel_rfl) Tryz.func6 (by kernel_rfl)
    (of_decide_eq_true (by kernel_rfl)) (by unfold Func.isWrapper; first | (rw [if_pos (by decide +kernel)]; kernel_rfl) | (rw [if_neg (by decide +kernel)]; exact ⟨rfl, rfl⟩))
    (fun os started H enc _ F => by rw [OpenClaim.pre_eq_preRow]; exact lifted os started H enc F)
theorem plain (f : FuncId) (fn : Func) (hf : Tryz.pinned.checked.prog.funcNamed Rows.checkUniqueRow.func = some f) (hfn : Tryz.pinned.checked.prog.funcs[f]? = some fn) :
    false = Tryz.pinned.checked.prog.looks [] ∧ ∀ (j : Nat) t, fn.params[j]? = some t → Tryz.pinned.checked.prog.wantsStandIn t = false := by
  obtain rfl : f = 6 := Option.some.inj ((show Tryz.prog.funcNamed Rows.checkUniqueRow.func = some 6 by kernel_rfl).symm.trans hf) |>.symm
  obtain rfl : fn = Tryz.f6 := (Option.some.inj (Tryz.func6.symm.trans hfn)).symm
  refine ⟨by kernel_rfl, fun j t ht => ?_⟩
  rw [Tryz.params6] at ht
  have hm : t ∈ [22, 22, 3, 9, 34, 3] := by simpa using Array.mem_of_getElem? ht
  have hall : ([22, 22, 3, 9, 34, 3].all fun u => !Tryz.prog.wantsStandIn u) = true := by kernel_rfl
  have h1 := List.all_eq_true.1 hall t hm
  have h2 : Tryz.prog.wantsStandIn t = false := by simpa using h1
  exact h2
theorem card : Rows.CheckUniqueCardSaid :=
  Claim7.holds_tied_plain_at .later [] _ _ _ _ said (fun _ h => by cases h) (by kernel_rfl) (fun _ h => by cases h) checkUnique_row_tie rfl ⟨rfl, rfl⟩ (by kernel_rfl) rfl plain (by kernel_rfl)
#print axioms card
end Go.Proofs.YtaeplfiaahkgpaaGreatDoor.checkUnique
