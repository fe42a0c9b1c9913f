/- Contracts: the program's functions compute the plain ones; by program (gen.py). -/
import Derived.Test.YtfeleiepnifbcaaGreatDoorLib
import Derived.Test.YtfeleiepnifbcaaGreatDoorPf
import Derived.Test.YtfeleiepnifbcaaGreatDoorMl
import Derived.Test.YtfeleiepnifbcaaGreatDoorCa
import Derived.Test.YtfeleiepnifbcaaGreatDoorCb
import Derived.Test.YtfeleiepnifbcaaGreatDoorCc
import Derived.Test.YtfeleiepnifbcaaGreatDoorCe
set_option linter.unusedVariables false
set_option linter.unusedSimpArgs false
set_option maxHeartbeats 4000000
set_option maxRecDepth 20000
namespace Go.Proofs.YtfeleiepnifbcaaGreatDoor
open Go.V Go.C

theorem witness_con {wg : World} (hw : WG wg) {r1 : ApiRule} {c : ApiCase} {r : (List Int) × Bool} (h : witness r1 c = some r) : Con Tryz.prog wg gl 15 [.v (.agg [.int .i64 r1.Kind, .int .i64 r1.Digits, .sl 1 (r1.Except.map eStr), .int .i64 r1.Tolerance, .int .i64 r1.Limit, .str r1.Name, .sl 7 (r1.Args.map eApiRule)]), .v (.agg [.str c.Code, .int .i64 c.Price, .bool c.Obtained, .sl 1 (c.Processes.map eStr), .sl 3 (c.Inputs.map eApiInput)])] [] (.tup [.v (.sl 1 (r.1.map eInt_i64)), .v (.bool r.2)]) [] := by
 unfold witness at h
 refine con_of_WC (S := slotsOf 0 _) Tryz.func15 rfl Tryz.ntmps15 rfl (fun t x hx => (slotsOf_get hx).2) ?_
 intro F L w ρ0 R hR
 show WC _ _ _ ⟨[(0, .v (.agg [.int .i64 r1.Kind, .int .i64 r1.Digits, .sl 1 (r1.Except.map eStr), .int .i64 r1.Tolerance, .int .i64 r1.Limit, .str r1.Name, .sl 7 (r1.Args.map eApiRule)])), (1, .v (.agg [.str c.Code, .int .i64 c.Price, .bool c.Obtained, .sl 1 (c.Processes.map eStr), .sl 3 (c.Inputs.map eApiInput)]))], []⟩ _ _
 refine WC.seq (WC.region ?_)
 refine lr 4 rfl trivial ?_
 refine WL.nil (WQ.thenNormal (WC.seq (WC.seq (WC.region ?_))))
 refine lr 2 rfl trivial ?_
 replace h := bnd h; obtain ⟨v, hvv, h⟩ := h
 refine WL.call0 fn34 rfl rfl rfl rfl (by exact trivial) rfl (applicable_con hw hvv) ?_
 refine lr 1 rfl trivial ?_
 refine WL.nil (WQ.thenNormal ?_)
 refine WC.cond rfl (fun hc1 => ?_) (fun hc1 => ?_)
 ·replace h := ite_t hc1 h
  refine WC.seq (WC.region ?_)
  refine lr 2 rfl trivial ?_
  refine WL.nil (WQ.thenNormal (WC.ret (WQ.thenRet ?_)))
  cases h
  exact WQ.rets tbOk (r := .tup [.v (.sl 1 ([].map eInt_i64)), .v (.bool false)]) hR [] (.inl rfl) rfl rfl (Le.tup (.cons (Le.nil 1) (.cons (Le.refl _) .nil))) (by exact trivial) rfl rfl rfl rfl
 ·replace h := ite_f hc1 h
  refine WC.skip (WQ.thenNormal (WC.seq (WC.order mixed ?_)))
  refine wr 1 rfl trivial ?_
  replace h := bnd h; obtain ⟨v2, hvv2, h⟩ := h
  refine WR.call0 fn35 rfl rfl rfl rfl (by exact trivial) rfl (testOf_con hw hvv2) ?_
  refine wr 1 rfl trivial ?_
  replace h := bnd h; obtain ⟨v3, hvv3, h⟩ := h
  refine WR.meth rfl rfl rfl rfl (by exact trivial) rfl (witI_con hw 8 hvv3) ?_
  refine wr 4 rfl trivial ?_
  refine WR.nil (by kernel_rfl) (WQ.thenNormal (WC.ret ?_))
  cases h
  exact WQ.rets tbOk (r := .tup [.v (.sl 1 (v3.1.map eInt_i64)), .v (.bool v3.2)]) hR [] (.inl rfl) rfl rfl (Le.tup (.cons (Le.refl _) (.cons (Le.refl _) .nil))) (by exact trivial) rfl rfl rfl rfl

theorem ruleHolds_con {wg : World} (hw : WG wg) {r1 : ApiRule} {c : ApiCase} {r : Bool} (h : ruleHolds r1 c = some r) : Con Tryz.prog wg gl 17 [.v (.agg [.int .i64 r1.Kind, .int .i64 r1.Digits, .sl 1 (r1.Except.map eStr), .int .i64 r1.Tolerance, .int .i64 r1.Limit, .str r1.Name, .sl 7 (r1.Args.map eApiRule)]), .v (.agg [.str c.Code, .int .i64 c.Price, .bool c.Obtained, .sl 1 (c.Processes.map eStr), .sl 3 (c.Inputs.map eApiInput)])] [] (.v (.bool r)) [] := by
 unfold ruleHolds at h
 refine con_of_WC (S := slotsOf 0 _) Tryz.func17 rfl Tryz.ntmps17 rfl (fun t x hx => (slotsOf_get hx).2) ?_
 intro F L w ρ0 R hR
 show WC _ _ _ ⟨[(0, .v (.agg [.int .i64 r1.Kind, .int .i64 r1.Digits, .sl 1 (r1.Except.map eStr), .int .i64 r1.Tolerance, .int .i64 r1.Limit, .str r1.Name, .sl 7 (r1.Args.map eApiRule)])), (1, .v (.agg [.str c.Code, .int .i64 c.Price, .bool c.Obtained, .sl 1 (c.Processes.map eStr), .sl 3 (c.Inputs.map eApiInput)]))], []⟩ _ _
 refine WC.seq (WC.region ?_)
 refine lr 3 rfl trivial ?_
 refine WL.nil (WQ.thenNormal (WC.seq (WC.region ?_)))
 refine lr 2 rfl trivial ?_
 replace h := bnd h; obtain ⟨v, hvv, h⟩ := h
 refine WL.call0 fn15 rfl rfl rfl rfl (by exact trivial) rfl (witness_con hw hvv) ?_
 refine lr 5 rfl trivial ?_
 refine WL.nil (WQ.thenNormal (WC.seq (WC.region ?_)))
 refine lr 2 rfl trivial ?_
 refine WL.nil (WQ.thenNormal (WC.ret ?_))
 cases h
 exact WQ.rets tbOk hR [] (.inl rfl) rfl rfl (Le.refl _) (by exact trivial) rfl rfl rfl rfl

theorem verify_con {wg : World} (hw : WG wg) {r1 : ApiRule} {c : ApiCase} {path : (List Int)} {r : Bool} (h : verify r1 c path = some r) : Con Tryz.prog wg gl 20 [.v (.agg [.int .i64 r1.Kind, .int .i64 r1.Digits, .sl 1 (r1.Except.map eStr), .int .i64 r1.Tolerance, .int .i64 r1.Limit, .str r1.Name, .sl 7 (r1.Args.map eApiRule)]), .v (.agg [.str c.Code, .int .i64 c.Price, .bool c.Obtained, .sl 1 (c.Processes.map eStr), .sl 3 (c.Inputs.map eApiInput)]), .v (.sl 1 (path.map eInt_i64))] [] (.v (.bool r)) [] := by
 unfold verify at h
 refine con_of_WC (S := slotsOf 0 _) Tryz.func20 rfl Tryz.ntmps20 rfl (fun t x hx => (slotsOf_get hx).2) ?_
 intro F L w ρ0 R hR
 show WC _ _ _ ⟨[(0, .v (.agg [.int .i64 r1.Kind, .int .i64 r1.Digits, .sl 1 (r1.Except.map eStr), .int .i64 r1.Tolerance, .int .i64 r1.Limit, .str r1.Name, .sl 7 (r1.Args.map eApiRule)])), (1, .v (.agg [.str c.Code, .int .i64 c.Price, .bool c.Obtained, .sl 1 (c.Processes.map eStr), .sl 3 (c.Inputs.map eApiInput)])), (2, .v (.sl 1 (path.map eInt_i64)))], []⟩ _ _
 refine WC.seq (WC.region ?_)
 refine lr 3 rfl trivial ?_
 refine WL.nil (WQ.thenNormal (WC.seq (WC.seq (WC.region ?_))))
 refine lr 2 rfl trivial ?_
 replace h := bnd h; obtain ⟨v, hvv, h⟩ := h
 refine WL.call0 fn34 rfl rfl rfl rfl (by exact trivial) rfl (applicable_con hw hvv) ?_
 refine lr 1 rfl trivial ?_
 refine WL.nil (WQ.thenNormal ?_)
 refine WC.cond rfl (fun hc1 => ?_) (fun hc1 => ?_)
 ·replace h := ite_t hc1 h
  refine WC.seq (WC.region ?_)
  refine lr 1 rfl trivial ?_
  refine WL.nil (WQ.thenNormal (WC.ret (WQ.thenRet ?_)))
  cases h
  exact WQ.rets tbOk hR [] (.inl rfl) rfl rfl (Le.refl _) (by exact trivial) rfl rfl rfl rfl
 ·replace h := ite_f hc1 h
  refine WC.skip (WQ.thenNormal (WC.seq (WC.order mixed ?_)))
  refine wr 1 rfl trivial ?_
  replace h := bnd h; obtain ⟨v2, hvv2, h⟩ := h
  refine WR.call0 fn35 rfl rfl rfl rfl (by exact trivial) rfl (testOf_con hw hvv2) ?_
  refine wr 2 rfl trivial ?_
  replace h := bnd h; obtain ⟨v3, hvv3, h⟩ := h
  refine WR.meth rfl rfl rfl rfl (by exact trivial) rfl (folI_con hw 8 hvv3) ?_
  refine wr 5 rfl trivial ?_
  refine WR.nil (by kernel_rfl) (WQ.thenNormal (WC.seq (WC.region ?_)))
  refine lr 3 rfl (by exact sideR) ?_
  refine WL.gq [] rfl rfl rfl rfl (fun hg => q_ev tbOk (.v (.int .i64 (v3.1.length : Int))) rfl (by exact sideR) (by exact lenT)) ?_
  refine lr 3 rfl (by exact sideR) ?_
  refine WL.nil (WQ.thenNormal (WC.ret ?_))
  cases h
  exact WQ.rets tbOk hR [] (.inl rfl) rfl rfl (Le.refl _) (by exact trivial) rfl rfl rfl rfl

end Go.Proofs.YtfeleiepnifbcaaGreatDoor
