/- The tests of a rule, by their methods: contracts. -/
import Derived.Test.YtfeleiepnifbcaaGreatDoorMe
import Derived.Test.YtfeleiepnifbcaaGreatDoorCe
set_option linter.unusedVariables false
namespace Go.Proofs.YtfeleiepnifbcaaGreatDoor
open Go.V Go.C

theorem me_one {s : String} {f : FuncId} {c : List SV} {r : SV} {wg : World} {x : RuleSingle} (hm : MethOk Tryz.prog 85 s f) (hf : HasBody Tryz.prog f) (hc : Con Tryz.prog wg gl f (.v (.agg (eRuleSingle x)) :: c) [] r []) : ConI Tryz.prog wg gl s (tRuleTest (.one x)) (pRuleTest (.one x)) c r := by
  have e := RuleTest_one x
  injection e with e1 e2
  rw [e1, e2]
  exact ⟨f, hm, hf, hc⟩
theorem me_all {s : String} {f : FuncId} {c : List SV} {r : SV} {wg : World} {l : List RuleTest} (hm : MethOk Tryz.prog 82 s f) (hf : HasBody Tryz.prog f) (hc : Con Tryz.prog wg gl f (.v (.sl 1 (l.map eRuleTest)) :: c) [] r []) : ConI Tryz.prog wg gl s (tRuleTest (.all l)) (pRuleTest (.all l)) c r := by
  have e := RuleTest_all l
  injection e with e1 e2
  rw [e1, e2]
  exact ⟨f, hm, hf, hc⟩
theorem me_any {s : String} {f : FuncId} {c : List SV} {r : SV} {wg : World} {l : List RuleTest} (hm : MethOk Tryz.prog 83 s f) (hf : HasBody Tryz.prog f) (hc : Con Tryz.prog wg gl f (.v (.sl 1 (l.map eRuleTest)) :: c) [] r []) : ConI Tryz.prog wg gl s (tRuleTest (.any l)) (pRuleTest (.any l)) c r := by
  have e := RuleTest_any l
  injection e with e1 e2
  rw [e1, e2]
  exact ⟨f, hm, hf, hc⟩
theorem bWo : HasBody Tryz.prog 170 := hasBody Tryz.func170 (by kernel_rfl) (by kernel_rfl)
theorem bWe : HasBody Tryz.prog 164 := hasBody Tryz.func164 (by kernel_rfl) (by kernel_rfl)
theorem bWs : HasBody Tryz.prog 166 := hasBody Tryz.func166 (by kernel_rfl) (by kernel_rfl)
theorem bFo : HasBody Tryz.prog 169 := hasBody Tryz.func169 (by kernel_rfl) (by kernel_rfl)
theorem bFe : HasBody Tryz.prog 163 := hasBody Tryz.func163 (by kernel_rfl) (by kernel_rfl)
theorem bFs : HasBody Tryz.prog 165 := hasBody Tryz.func165 (by kernel_rfl) (by kernel_rfl)
theorem mWo : MethOk Tryz.prog 85 "customs/rule.witness" 170 := methOk (by kernel_rfl) Tryz.underlying85 rfl
theorem mWe : MethOk Tryz.prog 82 "customs/rule.witness" 164 := methOk (by kernel_rfl) Tryz.underlying82 rfl
theorem mWs : MethOk Tryz.prog 83 "customs/rule.witness" 166 := methOk (by kernel_rfl) Tryz.underlying83 rfl
theorem mFo : MethOk Tryz.prog 85 "customs/rule.follow" 169 := methOk (by kernel_rfl) Tryz.underlying85 rfl
theorem mFe : MethOk Tryz.prog 82 "customs/rule.follow" 163 := methOk (by kernel_rfl) Tryz.underlying82 rfl
theorem mFs : MethOk Tryz.prog 83 "customs/rule.follow" 165 := methOk (by kernel_rfl) Tryz.underlying83 rfl
theorem witI_con {wg : World} (hw : WG wg) : ∀ (n : Nat) {x : RuleTest} {y0 : ApiCase} {v : (List Int) × Bool}, witI n x y0 = some v → ConI Tryz.prog wg gl "customs/rule.witness" (tRuleTest x) (pRuleTest x) [.v (.agg [.str y0.Code, .int .i64 y0.Price, .bool y0.Obtained, .sl 1 (y0.Processes.map eStr), .sl 3 (y0.Inputs.map eApiInput)])] (.tup [.v (.sl 1 (v.1.map eInt_i64)), .v (.bool v.2)])
  | 0, _, _, _, h => by cases h
  | n + 1, .one s, _, _, h => me_one mWo bWo (singleW_con hw h)
  | n + 1, .all l, _, _, h => me_all mWe bWe (everyW_con hw (witI_con hw n) h)
  | n + 1, .any l, _, _, h => me_any mWs bWs (someW_con hw (witI_con hw n) h)
theorem folI_con {wg : World} (hw : WG wg) : ∀ (n : Nat) {x : RuleTest} {y0 : ApiCase} {y1 : List Int} {v : (List Int) × Bool}, folI n x y0 y1 = some v → ConI Tryz.prog wg gl "customs/rule.follow" (tRuleTest x) (pRuleTest x) [.v (.agg [.str y0.Code, .int .i64 y0.Price, .bool y0.Obtained, .sl 1 (y0.Processes.map eStr), .sl 3 (y0.Inputs.map eApiInput)]), .v (.sl 1 (y1.map eInt_i64))] (.tup [.v (.sl 1 (v.1.map eInt_i64)), .v (.bool v.2)])
  | 0, _, _, _, _, h => by cases h
  | n + 1, .one s, _, _, _, h => me_one mFo bFo (singleF_con hw h)
  | n + 1, .all l, _, _, _, h => me_all mFe bFe (everyF_con hw (folI_con hw n) h)
  | n + 1, .any l, _, _, _, h => me_any mFs bFs (someF_con hw (folI_con hw n) h)
end Go.Proofs.YtfeleiepnifbcaaGreatDoor
