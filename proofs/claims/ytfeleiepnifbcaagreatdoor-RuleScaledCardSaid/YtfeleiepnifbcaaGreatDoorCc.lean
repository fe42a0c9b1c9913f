/- Contracts: the program's functions compute the plain ones; by program (gen.py). -/
import Derived.Test.YtfeleiepnifbcaaGreatDoorLib
import Derived.Test.YtfeleiepnifbcaaGreatDoorPc
import Derived.Test.YtfeleiepnifbcaaGreatDoorCa
import Derived.Test.YtfeleiepnifbcaaGreatDoorCb
set_option linter.unusedVariables false
set_option linter.unusedSimpArgs false
set_option maxHeartbeats 4000000
set_option maxRecDepth 20000
namespace Go.Proofs.YtfeleiepnifbcaaGreatDoor
open Go.V Go.C

theorem nodes_n_con {wg : World} (hw : WG wg) (n : Nat) : ∀ {r1 : ApiRule} {limit : Int} {r : Int} (h : nodes_n n r1 limit = some r), Con Tryz.prog wg gl 40 [.v (.agg [.int .i64 r1.Kind, .int .i64 r1.Digits, .sl 1 (r1.Except.map eStr), .int .i64 r1.Tolerance, .int .i64 r1.Limit, .str r1.Name, .sl 7 (r1.Args.map eApiRule)]), .v (.int .i64 limit)] [] (.v (.int .i64 r)) [] := by
 induction n with
 | zero => intros; rename_i h; cases h
 | succ n ih =>
 intro r1 limit r h
 replace h : nodes_F (nodes_n n) r1 limit = some r := h
 unfold nodes_F at h
 refine con_of_WC (S := slotsOf 0 _) Tryz.func40 rfl Tryz.ntmps40 rfl (fun t x hx => (slotsOf_get hx).2) ?_
 intro F L w ρ0 R hR
 show WC _ _ _ ⟨[(0, .v (.agg [.int .i64 r1.Kind, .int .i64 r1.Digits, .sl 1 (r1.Except.map eStr), .int .i64 r1.Tolerance, .int .i64 r1.Limit, .str r1.Name, .sl 7 (r1.Args.map eApiRule)])), (1, .v (.int .i64 limit))], []⟩ _ _
 refine WC.seq (WC.region ?_)
 refine lr 2 rfl trivial ?_
 refine WL.nil (WQ.thenNormal (WC.seq (WC.region ?_)))
 refine lr 1 rfl trivial ?_
 refine WL.nil (WQ.thenNormal (WC.seq (WC.seq (WC.region ?_))))
 refine lr 2 rfl trivial ?_
 refine WL.q [] rfl rfl rfl (q_ev tbOk (.v (.int .i64 (r1.Args.length : Int))) rfl (by exact trivial) (by exact lenT)) ?_
 refine lr 1 rfl trivial ?_
 refine WL.nil (WQ.thenNormal ?_)
 refine WC.thenCut (X := Int) (fun gG => ⟨[(5, .v (.int .i64 gG))], []⟩) (fun gG => nodes_j1 (nodes_n n) gG = some r) ?_ ?_
 ·refine WC.block ?_
  obtain ⟨eQ1, hl1, hk1⟩ := bnd h
  clear h
  refine WC.loop (σ := Int × Int) (τ := ((Int) ⊕ (Int))) (fun sS => ⟨[(11, .v (.int .i64 sS.1)), (10, .v (.int .i64 (r1.Args.length : Int))), (9, .v (.sl 7 (r1.Args.map eApiRule))), (5, .v (.int .i64 sS.2)), (1, .v (.int .i64 limit))], []⟩) (nodes_b1 (nodes_n n) r1 limit) [] ((0 : Int), (1 : Int)) hl1 ⟨(by exact ⟨rfl, rfl, rfl, rfl, rfl, trivial⟩), (by exact trivial), rfl, rfl, rfl, rfl⟩ ?_
  rintro ⟨t11, count2⟩ m hn1 he1 hx1
  obtain ⟨o1, hf1⟩ := some_of hx1
  have h := hf1
  unfold nodes_b1 at h
  show WC _ _ _ ⟨[(11, .v (.int .i64 t11)), (10, .v (.int .i64 (r1.Args.length : Int))), (9, .v (.sl 7 (r1.Args.map eApiRule))), (5, .v (.int .i64 count2)), (1, .v (.int .i64 limit))], []⟩ _ _
  refine WC.seq (WC.region ?_)
  refine lr 1 rfl trivial ?_
  refine WL.nil (WQ.thenNormal (WC.seq ?_))
  refine WC.cond rfl (fun hc1 => ?_) (fun hc1 => ?_)
  ·replace h := ite_t hc1 h
   refine WC.skip (WQ.thenNormal (WC.seq (WC.block (WC.seq (WC.region ?_)))))
   obtain ⟨g1, h⟩ := grd h
   replace h := bnd h; obtain ⟨x2, hxx2, h⟩ := h
   refine WL.q [] rfl rfl rfl (q_idx tbOk rfl (by exact trivial) g1 (map_getE hxx2 (eApiRule_eq _))) ?_
   refine lr 3 rfl trivial ?_
   refine WL.nil (WQ.thenNormal (WC.seq (WC.seq (WC.region ?_))))
   refine lr 3 rfl trivial ?_
   refine WL.nil (WQ.thenNormal ?_)
   refine WC.cond rfl (fun hc2 => ?_) (fun hc2 => ?_)
   ·replace h := ite_t hc2 h
    refine WC.seq (WC.region ?_)
    refine lr 2 rfl trivial ?_
    refine WL.nil (WQ.thenNormal (WC.ret (WQ.thenRet (WQ.blockRet (WQ.thenRet ?_)))))
    cases h
    have he := he1 _ hf1
    subst he
    have h : some limit = some _ := hk1
    refine WQ.thenRet (WQ.blockRet (WQ.thenRet ?_))
    cases h
    exact WQ.rets tbOk hR [] (.inl rfl) rfl rfl (Le.refl _) (by exact trivial) rfl rfl rfl rfl
   ·replace h := ite_f hc2 h
    refine WC.skip (WQ.thenNormal (WC.region ?_))
    refine lr 5 rfl trivial ?_
    replace h := bnd h; obtain ⟨v2, hvv2, h⟩ := h
    refine WL.call0 fn40 rfl rfl rfl rfl (by exact trivial) rfl (ih hvv2) ?_
    refine lr 2 rfl trivial ?_
    refine WL.nil (WQ.blockNormal (WQ.thenNormal (WC.region ?_)))
    refine lr 2 rfl trivial ?_
    refine WL.nil ?_
    cases h
    exact WQ.next [] ((IntKind.i64.wrap (t11 + (1 : Int))), (IntKind.i64.wrap (count2 + v2))) ⟨(by exact ⟨rfl, rfl, rfl, rfl, rfl, trivial⟩), (by exact trivial), rfl, rfl, rfl, rfl⟩ (hn1 _ hf1)
  ·replace h := ite_f hc1 h
   refine WC.exit (WQ.thenExit ?_)
   cases h
   have he := he1 _ hf1
   subst he
   replace h := hk1
   try dsimp only at h
   refine WQ.thenExit (WQ.blockExit ?_)
   exact WQ.cut [] count2 ⟨(by exact ⟨rfl, trivial⟩), (by exact trivial), rfl, rfl, rfl, rfl⟩ h
 ·intro count h
  replace h : nodes_j1 (nodes_n n) count = some _ := h
  unfold nodes_j1 at h
  show WC _ _ _ ⟨[(5, .v (.int .i64 count))], []⟩ _ _
  refine WC.seq (WC.region ?_)
  refine lr 2 rfl trivial ?_
  refine WL.nil (WQ.thenNormal (WC.ret ?_))
  cases h
  exact WQ.rets tbOk hR [] (.inl rfl) rfl rfl (Le.refl _) (by exact trivial) rfl rfl rfl rfl
theorem nodes_con {wg : World} (hw : WG wg) {r1 : ApiRule} {limit : Int} {r : Int} (h : nodes r1 limit = some r) : Con Tryz.prog wg gl 40 [.v (.agg [.int .i64 r1.Kind, .int .i64 r1.Digits, .sl 1 (r1.Except.map eStr), .int .i64 r1.Tolerance, .int .i64 r1.Limit, .str r1.Name, .sl 7 (r1.Args.map eApiRule)]), .v (.int .i64 limit)] [] (.v (.int .i64 r)) [] := nodes_n_con hw _ h

theorem millionths_con {wg : World} (hw : WG wg) {n1 : Int} {r : Bool} (h : millionths n1 = some r) : Con Tryz.prog wg gl 55 [.v (.int .i64 n1)] [] (.v (.bool r)) [] := by
 unfold millionths at h
 refine con_of_WC (S := slotsOf 0 _) Tryz.func55 rfl Tryz.ntmps55 rfl (fun t x hx => (slotsOf_get hx).2) ?_
 intro F L w ρ0 R hR
 show WC _ _ _ ⟨[(0, .v (.int .i64 n1))], []⟩ _ _
 refine WC.seq (WC.region ?_)
 refine lr 1 rfl trivial ?_
 refine WL.nil (WQ.thenNormal (WC.seq (WC.region ?_)))
 refine lr 7 rfl (by exact sideR) ?_
 refine WL.nil (WQ.thenNormal (WC.ret ?_))
 cases h
 exact WQ.rets tbOk hR [] (.inl rfl) rfl rfl (Le.refl _) (by exact trivial) rfl rfl rfl rfl

theorem rulePlain_con {wg : World} (hw : WG wg) {r1 : ApiRule} {r : Bool} (h : rulePlain r1 = some r) : Con Tryz.prog wg gl 53 [.v (.agg [.int .i64 r1.Kind, .int .i64 r1.Digits, .sl 1 (r1.Except.map eStr), .int .i64 r1.Tolerance, .int .i64 r1.Limit, .str r1.Name, .sl 7 (r1.Args.map eApiRule)])] [] (.v (.bool r)) [] := by
 unfold rulePlain at h
 refine con_of_WC (S := slotsOf 0 _) Tryz.func53 rfl Tryz.ntmps53 rfl (fun t x hx => (slotsOf_get hx).2) ?_
 intro F L w ρ0 R hR
 show WC _ _ _ ⟨[(0, .v (.agg [.int .i64 r1.Kind, .int .i64 r1.Digits, .sl 1 (r1.Except.map eStr), .int .i64 r1.Tolerance, .int .i64 r1.Limit, .str r1.Name, .sl 7 (r1.Args.map eApiRule)]))], []⟩ _ _
 refine WC.seq (WC.region ?_)
 refine lr 2 rfl trivial ?_
 refine WL.nil (WQ.thenNormal (WC.seq (WC.region ?_)))
 refine lr 4 rfl trivial ?_
 refine WL.nil (WQ.thenNormal (WC.seq (WC.region ?_)))
 refine lr 9 rfl (by exact sideR) ?_
 refine WL.nil (WQ.thenNormal (WC.seq (WC.block (WC.seq (WC.region ?_)))))
 refine lr 9 rfl (by exact sideR) ?_
 refine WL.gq [] rfl rfl rfl rfl (fun hg => q_ev tbOk (.v (.int .i64 (r1.Except.length : Int))) rfl (by exact sideR) (by exact lenT)) ?_
 refine lr 9 rfl (by exact sideR) ?_
 refine WL.nil (WQ.thenNormal ?_)
 refine WC.cond rfl (fun hc1 => ?_) (fun hc1 => ?_)
 ·replace h := ite_t hc1 h
  refine WC.seq (WC.region ?_)
  refine lr 1 rfl trivial ?_
  refine WL.nil (WQ.thenNormal (WC.ret (WQ.blockRet (WQ.thenRet ?_))))
  cases h
  exact WQ.rets tbOk hR [] (.inl rfl) rfl rfl (Le.refl _) (by exact trivial) rfl rfl rfl rfl
 ·replace h := ite_f hc1 h
  refine WC.seq (WC.region ?_)
  refine lr 9 rfl (by exact sideR) ?_
  refine WL.nil (WQ.thenNormal ?_)
  refine WC.cond rfl (fun hc2 => ?_) (fun hc2 => ?_)
  ·replace h := ite_t hc2 h
   refine WC.seq (WC.region ?_)
   refine lr 1 rfl trivial ?_
   refine WL.nil (WQ.thenNormal (WC.ret (WQ.blockRet (WQ.thenRet ?_))))
   cases h
   exact WQ.rets tbOk hR [] (.inl rfl) rfl rfl (Le.refl _) (by exact trivial) rfl rfl rfl rfl
  ·replace h := ite_f hc2 h
   refine WC.seq (WC.region ?_)
   refine lr 9 rfl (by exact sideR) ?_
   refine WL.nil (WQ.thenNormal ?_)
   refine WC.cond rfl (fun hc3 => ?_) (fun hc3 => ?_)
   ·replace h := ite_t hc3 h
    refine WC.seq (WC.region ?_)
    refine lr 1 rfl trivial ?_
    refine WL.nil (WQ.thenNormal (WC.ret (WQ.blockRet (WQ.thenRet ?_))))
    cases h
    exact WQ.rets tbOk hR [] (.inl rfl) rfl rfl (Le.refl _) (by exact trivial) rfl rfl rfl rfl
   ·replace h := ite_f hc3 h
    refine WC.skip (WQ.blockNormal (WQ.thenNormal (WC.seq (WC.region ?_))))
    refine lr 4 rfl (by exact sideR) ?_
    refine WL.gq [] rfl rfl rfl rfl (fun hg => q_ev tbOk (.v (.int .i64 (r1.Args.length : Int))) rfl (by exact sideR) (by exact lenT)) ?_
    refine lr 3 rfl (by exact sideR) ?_
    refine WL.nil (WQ.thenNormal (WC.ret ?_))
    cases h
    exact WQ.rets tbOk hR [] (.inl rfl) rfl rfl (Le.refl _) (by exact trivial) rfl rfl rfl rfl

theorem validCodes_con {wg : World} (hw : WG wg) {l : (List Str)} {r : Bool} (h : validCodes l = some r) : Con Tryz.prog wg gl 54 [.v (.sl 1 (l.map eStr))] [] (.v (.bool r)) [] := by
 unfold validCodes at h
 refine con_of_WC (S := slotsOf 0 _) Tryz.func54 rfl Tryz.ntmps54 rfl (fun t x hx => (slotsOf_get hx).2) ?_
 intro F L w ρ0 R hR
 show WC _ _ _ ⟨[(0, .v (.sl 1 (l.map eStr)))], []⟩ _ _
 refine WC.seq (WC.region ?_)
 refine lr 1 rfl trivial ?_
 refine WL.nil (WQ.thenNormal (WC.seq (WC.seq (WC.region ?_))))
 refine lr 1 rfl trivial ?_
 refine WL.q [] rfl rfl rfl (q_ev tbOk (.v (.int .i64 (l.length : Int))) rfl (by exact trivial) (by exact lenT)) ?_
 refine lr 1 rfl trivial ?_
 refine WL.nil (WQ.thenNormal ?_)
 refine WC.cond rfl (fun hc1 => ?_) (fun hc1 => ?_)
 ·replace h := ite_t hc1 h
  refine WC.seq (WC.region ?_)
  refine lr 1 rfl trivial ?_
  refine WL.nil (WQ.thenNormal (WC.ret (WQ.thenRet ?_)))
  cases h
  exact WQ.rets tbOk hR [] (.inl rfl) rfl rfl (Le.refl _) (by exact trivial) rfl rfl rfl rfl
 ·replace h := ite_f hc1 h
  refine WC.skip (WQ.thenNormal (WC.seq (WC.seq (WC.region ?_))))
  refine lr 1 rfl trivial ?_
  refine WL.q [] rfl rfl rfl (q_ev tbOk (.v (.int .i64 (l.length : Int))) rfl (by exact trivial) (by exact lenT)) ?_
  refine lr 1 rfl trivial ?_
  refine WL.nil (WQ.thenNormal ?_)
  refine WC.thenCut (X := Unit) (fun gG => ⟨[], []⟩) (fun gG => validCodes_j1  = some r) ?_ ?_
  ·refine WC.block ?_
   obtain ⟨eQ1, hl1, hk1⟩ := bnd h
   clear h
   refine WC.loop (σ := Int) (τ := ((Bool) ⊕ (Unit))) (fun sS => ⟨[(10, .v (.int .i64 sS)), (9, .v (.int .i64 (l.length : Int))), (8, .v (.sl 1 (l.map eStr))), (0, .v (.sl 1 (l.map eStr)))], []⟩) (validCodes_b1 l) [] (0 : Int) hl1 ⟨(by exact ⟨rfl, rfl, rfl, rfl, trivial⟩), (by exact trivial), rfl, rfl, rfl, rfl⟩ ?_
   intro t10 m hn1 he1 hx1
   obtain ⟨o1, hf1⟩ := some_of hx1
   have h := hf1
   unfold validCodes_b1 at h
   show WC _ _ _ ⟨[(10, .v (.int .i64 t10)), (9, .v (.int .i64 (l.length : Int))), (8, .v (.sl 1 (l.map eStr))), (0, .v (.sl 1 (l.map eStr)))], []⟩ _ _
   refine WC.seq (WC.region ?_)
   refine lr 1 rfl trivial ?_
   refine WL.nil (WQ.thenNormal (WC.seq ?_))
   refine WC.cond rfl (fun hc2 => ?_) (fun hc2 => ?_)
   ·replace h := ite_t hc2 h
    refine WC.skip (WQ.thenNormal (WC.seq (WC.block (WC.seq (WC.region ?_)))))
    refine lr 1 rfl trivial ?_
    obtain ⟨g1, h⟩ := grd h
    replace h := bnd h; obtain ⟨x2, hxx2, h⟩ := h
    refine WL.q [] rfl rfl rfl (q_idx tbOk rfl (by exact trivial) g1 (map_get (f := eStr) hxx2)) ?_
    refine lr 3 rfl trivial ?_
    refine WL.nil (WQ.thenNormal (WC.seq (WC.region ?_)))
    refine lr 1 rfl trivial ?_
    replace h := bnd h; obtain ⟨v2, hvv2, h⟩ := h
    refine WL.call0 fn42 rfl rfl rfl rfl (by exact trivial) rfl (nomLevel_con hw hvv2) ?_
    refine lr 9 rfl (by exact sideR) ?_
    obtain ⟨g2, h⟩ := grd h
    refine WL.gq [] rfl rfl rfl rfl (fun hg => q_idx tbOk rfl (by exact sideR) (g2 hg).1 (map_getD (f := eStr) (g2 hg).2 (g2 hg).1)) ?_
    refine lr 4 rfl (by exact sideR) ?_
    refine WL.nil (WQ.thenNormal ?_)
    refine WC.cond rfl (fun hc3 => ?_) (fun hc3 => ?_)
    ·replace h := ite_t hc3 h
     refine WC.seq (WC.region ?_)
     refine lr 1 rfl trivial ?_
     refine WL.nil (WQ.thenNormal (WC.ret (WQ.blockRet (WQ.thenRet ?_))))
     cases h
     have he := he1 _ hf1
     subst he
     have h : some false = some _ := hk1
     refine WQ.thenRet (WQ.blockRet (WQ.thenRet ?_))
     cases h
     exact WQ.rets tbOk hR [] (.inl rfl) rfl rfl (Le.refl _) (by exact trivial) rfl rfl rfl rfl
    ·replace h := ite_f hc3 h
     refine WC.skip (WQ.blockNormal (WQ.thenNormal (WC.region ?_)))
     refine lr 2 rfl trivial ?_
     refine WL.nil ?_
     cases h
     exact WQ.next [] (IntKind.i64.wrap (t10 + (1 : Int))) ⟨(by exact ⟨rfl, rfl, rfl, rfl, trivial⟩), (by exact trivial), rfl, rfl, rfl, rfl⟩ (hn1 _ hf1)
   ·replace h := ite_f hc2 h
    refine WC.exit (WQ.thenExit ?_)
    cases h
    have he := he1 _ hf1
    subst he
    replace h := hk1
    try dsimp only at h
    refine WQ.thenExit (WQ.blockExit ?_)
    exact WQ.cut [] () ⟨(by exact trivial), (by exact trivial), rfl, rfl, rfl, rfl⟩ h
  ·intro _ h
   replace h : validCodes_j1 = some _ := h
   unfold validCodes_j1 at h
   show WC _ _ _ ⟨[], []⟩ _ _
   refine WC.seq (WC.region ?_)
   refine lr 1 rfl trivial ?_
   refine WL.nil (WQ.thenNormal (WC.ret ?_))
   cases h
   exact WQ.rets tbOk hR [] (.inl rfl) rfl rfl (Le.refl _) (by exact trivial) rfl rfl rfl rfl

theorem ruleValid_n_con {wg : World} (hw : WG wg) (n : Nat) : ∀ {r1 : ApiRule} {r : Bool} (h : ruleValid_n n r1 = some r), Con Tryz.prog wg gl 41 [.v (.agg [.int .i64 r1.Kind, .int .i64 r1.Digits, .sl 1 (r1.Except.map eStr), .int .i64 r1.Tolerance, .int .i64 r1.Limit, .str r1.Name, .sl 7 (r1.Args.map eApiRule)])] [] (.v (.bool r)) [] := by
 induction n with
 | zero => intros; rename_i h; cases h
 | succ n ih =>
 intro r1 r h
 replace h : ruleValid_F (ruleValid_n n) r1 = some r := h
 unfold ruleValid_F at h
 refine con_of_WC (S := slotsOf 0 _) Tryz.func41 rfl Tryz.ntmps41 rfl (fun t x hx => (slotsOf_get hx).2) ?_
 intro F L w ρ0 R hR
 show WC _ _ _ ⟨[(0, .v (.agg [.int .i64 r1.Kind, .int .i64 r1.Digits, .sl 1 (r1.Except.map eStr), .int .i64 r1.Tolerance, .int .i64 r1.Limit, .str r1.Name, .sl 7 (r1.Args.map eApiRule)]))], []⟩ _ _
 refine WC.seq (WC.region ?_)
 refine lr 2 rfl trivial ?_
 refine WL.nil (WQ.thenNormal (WC.seq (WC.seq (WC.region ?_))))
 refine lr 1 rfl trivial ?_
 replace h := bnd h; obtain ⟨v, hvv, h⟩ := h
 refine WL.call0 fn53 rfl rfl rfl rfl (by exact trivial) rfl (rulePlain_con hw hvv) ?_
 refine lr 1 rfl trivial ?_
 refine WL.nil (WQ.thenNormal ?_)
 refine WC.cond rfl (fun hc1 => ?_) (fun hc1 => ?_)
 ·replace h := ite_t hc1 h
  refine WC.seq (WC.region ?_)
  refine lr 1 rfl trivial ?_
  refine WL.nil (WQ.thenNormal (WC.ret (WQ.thenRet ?_)))
  cases h
  exact WQ.rets tbOk hR [] (.inl rfl) rfl rfl (Le.refl _) (by exact trivial) rfl rfl rfl rfl
 ·replace h := ite_f hc1 h
  refine WC.skip (WQ.thenNormal (WC.seq (WC.seq (WC.region ?_))))
  refine lr 2 rfl trivial ?_
  refine WL.nil (WQ.thenNormal ?_)
  refine WC.thenCut (X := Unit) (fun gG => ⟨[], []⟩) (fun gG => ruleValid_j1 (ruleValid_n n)  = some r) ?_ ?_
  ·refine WC.block (WC.seq (WC.region ?_))
   refine lr 2 rfl trivial ?_
   refine WL.nil (WQ.thenNormal ?_)
   refine WC.cond rfl (fun hc2 => ?_) (fun hc2 => ?_)
   ·replace h := ite_t hc2 h
    refine WC.seq (WC.region ?_)
    refine lr 1 rfl trivial ?_
    refine WL.nil (WQ.thenNormal (WC.ret (WQ.blockRet (WQ.thenRet ?_))))
    cases h
    exact WQ.rets tbOk hR [] (.inl rfl) rfl rfl (Le.refl _) (by exact trivial) rfl rfl rfl rfl
   ·replace h := ite_f hc2 h
    refine WC.seq (WC.region ?_)
    refine lr 2 rfl trivial ?_
    refine WL.nil (WQ.thenNormal ?_)
    refine WC.cond rfl (fun hc3 => ?_) (fun hc3 => ?_)
    ·replace h := ite_t hc3 h
     refine WC.seq (WC.region ?_)
     refine lr 14 rfl (by exact sideR) ?_
     refine WL.nil (WQ.thenNormal (WC.seq (WC.region ?_)))
     refine lr 4 rfl (by exact sideR) ?_
     replace h := bnd h; obtain ⟨v2, hvv2, h⟩ := h
     refine WL.gcall0 fn54 rfl rfl rfl rfl rfl (fun _ => (by exact sideR)) rfl (fun hg => (validCodes_con hw (ite_t hg hvv2))) ?_
     refine lr 4 rfl (by exact sideR) ?_
     replace h := bnd h; obtain ⟨v3, hvv3, h⟩ := h
     refine WL.gcall0 fn55 rfl rfl rfl rfl rfl (fun _ => (by exact sideR)) rfl (fun hg => (millionths_con hw (ite_t hg hvv3))) ?_
     refine lr 2 rfl (by exact sideR) ?_
     refine WL.nil (WQ.thenNormal (WC.ret (WQ.blockRet (WQ.thenRet ?_))))
     cases h
     exact WQ.rets tbOk hR [] (.inl rfl) rfl rfl (Le.refl _) (by exact trivial) rfl rfl rfl rfl
    ·replace h := ite_f hc3 h
     refine WC.seq (WC.region ?_)
     refine lr 2 rfl trivial ?_
     refine WL.nil (WQ.thenNormal ?_)
     refine WC.cond rfl (fun hc4 => ?_) (fun hc4 => ?_)
     ·replace h := ite_t hc4 h
      refine WC.seq (WC.region ?_)
      refine lr 2 rfl trivial ?_
      replace h := bnd h; obtain ⟨v4, hvv4, h⟩ := h
      refine WL.call0 fn55 rfl rfl rfl rfl (by exact trivial) rfl (millionths_con hw hvv4) ?_
      refine lr 1 rfl trivial ?_
      refine WL.nil (WQ.thenNormal (WC.ret (WQ.blockRet (WQ.thenRet ?_))))
      cases h
      exact WQ.rets tbOk hR [] (.inl rfl) rfl rfl (Le.refl _) (by exact trivial) rfl rfl rfl rfl
     ·replace h := ite_f hc4 h
      refine WC.seq (WC.region ?_)
      refine lr 2 rfl trivial ?_
      refine WL.nil (WQ.thenNormal ?_)
      refine WC.cond rfl (fun hc5 => ?_) (fun hc5 => ?_)
      ·replace h := ite_t hc5 h
       refine WC.seq (WC.region ?_)
       refine lr 3 rfl trivial ?_
       replace h := bnd h; obtain ⟨v5, hvv5, h⟩ := h
       refine WL.call0 fn28 rfl rfl rfl rfl (by exact trivial) rfl (validWords_con hw hvv5) ?_
       refine lr 1 rfl trivial ?_
       refine WL.nil (WQ.thenNormal (WC.ret (WQ.blockRet (WQ.thenRet ?_))))
       cases h
       exact WQ.rets tbOk hR [] (.inl rfl) rfl rfl (Le.refl _) (by exact trivial) rfl rfl rfl rfl
      ·replace h := ite_f hc5 h
       refine WC.seq (WC.seq (WC.region ?_))
       refine lr 2 rfl trivial ?_
       refine WL.nil (WQ.thenNormal ?_)
       refine WC.thenCut (X := Bool) (fun gG => ⟨[(50, .v (.bool gG)), (1, .p 1 0)], [(1, .blk 37 [.v (.int .i64 r1.Kind), .v (.int .i64 r1.Digits), .v (.sl 1 (r1.Except.map eStr)), .v (.int .i64 r1.Tolerance), .v (.int .i64 r1.Limit), .v (.str r1.Name), .v (.sl 7 (r1.Args.map eApiRule))])]⟩) (fun gG => ruleValid_j2 (ruleValid_n n) r1 gG = some r) ?_ ?_
       ·refine WC.cond rfl (fun hc10 => ?_) (fun hc10 => ?_)
        ·replace h := ite_t hc10 h
         refine WC.skip ?_
         exact WQ.cut [] (r1.Kind == (5 : Int)) ⟨(by exact ⟨rfl, rfl, trivial⟩), (by exact ⟨rfl, trivial⟩), rfl, rfl, rfl, rfl⟩ h
        ·replace h := ite_f hc10 h
         refine WC.region ?_
         refine lr 2 rfl trivial ?_
         refine WL.nil ?_
         exact WQ.cut [] (r1.Kind == (6 : Int)) ⟨(by exact ⟨rfl, rfl, trivial⟩), (by exact ⟨rfl, trivial⟩), rfl, rfl, rfl, rfl⟩ h
       ·intro t50 h
        replace h : ruleValid_j2 (ruleValid_n n) r1 t50 = some _ := h
        unfold ruleValid_j2 at h
        show WC _ _ _ ⟨[(50, .v (.bool t50)), (1, .p 1 0)], [(1, .blk 37 [.v (.int .i64 r1.Kind), .v (.int .i64 r1.Digits), .v (.sl 1 (r1.Except.map eStr)), .v (.int .i64 r1.Tolerance), .v (.int .i64 r1.Limit), .v (.str r1.Name), .v (.sl 7 (r1.Args.map eApiRule))])]⟩ _ _
        refine WC.cond rfl (fun hc6 => ?_) (fun hc6 => ?_)
        ·replace h := ite_t hc6 h
         refine WC.seq (WC.seq (WC.region ?_))
         refine lr 2 rfl trivial ?_
         refine WL.q [] rfl rfl rfl (q_ev tbOk (.v (.int .i64 (r1.Args.length : Int))) rfl (by exact trivial) (by exact lenT)) ?_
         refine lr 4 rfl (by exact sideR) ?_
         refine WL.gq [] rfl rfl rfl rfl (fun hg => q_ev tbOk (.v (.int .i64 (r1.Args.length : Int))) rfl (by exact sideR) (by exact lenT)) ?_
         refine lr 2 rfl (by exact sideR) ?_
         refine WL.nil (WQ.thenNormal ?_)
         refine WC.cond rfl (fun hc7 => ?_) (fun hc7 => ?_)
         ·replace h := ite_t hc7 h
          refine WC.seq (WC.region ?_)
          refine lr 1 rfl trivial ?_
          refine WL.nil (WQ.thenNormal (WC.ret (WQ.thenRet (WQ.blockRet (WQ.thenRet ?_)))))
          cases h
          exact WQ.rets tbOk hR [] (.inl rfl) rfl rfl (Le.refl _) (by exact trivial) rfl rfl rfl rfl
         ·replace h := ite_f hc7 h
          refine WC.skip (WQ.thenNormal (WC.seq (WC.seq (WC.region ?_))))
          refine lr 2 rfl trivial ?_
          refine WL.q [] rfl rfl rfl (q_ev tbOk (.v (.int .i64 (r1.Args.length : Int))) rfl (by exact trivial) (by exact lenT)) ?_
          refine lr 1 rfl trivial ?_
          refine WL.nil (WQ.thenNormal ?_)
          refine WC.thenCut (X := Unit) (fun gG => ⟨[], []⟩) (fun gG => ruleValid_j3 (ruleValid_n n)  = some r) ?_ ?_
          ·refine WC.block ?_
           obtain ⟨eQ1, hl1, hk1⟩ := bnd h
           clear h
           refine WC.loop (σ := Int) (τ := ((Bool) ⊕ (Unit))) (fun sS => ⟨[(66, .v (.int .i64 sS)), (65, .v (.int .i64 (r1.Args.length : Int))), (64, .v (.sl 7 (r1.Args.map eApiRule))), (1, .p 1 0)], [(1, .blk 37 [.v (.int .i64 r1.Kind), .v (.int .i64 r1.Digits), .v (.sl 1 (r1.Except.map eStr)), .v (.int .i64 r1.Tolerance), .v (.int .i64 r1.Limit), .v (.str r1.Name), .v (.sl 7 (r1.Args.map eApiRule))])]⟩) (ruleValid_b1 (ruleValid_n n) r1) [] (0 : Int) hl1 ⟨(by exact ⟨rfl, rfl, rfl, rfl, trivial⟩), (by exact ⟨rfl, trivial⟩), rfl, rfl, rfl, rfl⟩ ?_
           intro t66 m hn1 he1 hx1
           obtain ⟨o1, hf1⟩ := some_of hx1
           have h := hf1
           unfold ruleValid_b1 at h
           show WC _ _ _ ⟨[(66, .v (.int .i64 t66)), (65, .v (.int .i64 (r1.Args.length : Int))), (64, .v (.sl 7 (r1.Args.map eApiRule))), (1, .p 1 0)], [(1, .blk 37 [.v (.int .i64 r1.Kind), .v (.int .i64 r1.Digits), .v (.sl 1 (r1.Except.map eStr)), .v (.int .i64 r1.Tolerance), .v (.int .i64 r1.Limit), .v (.str r1.Name), .v (.sl 7 (r1.Args.map eApiRule))])]⟩ _ _
           refine WC.seq (WC.region ?_)
           refine lr 1 rfl trivial ?_
           refine WL.nil (WQ.thenNormal (WC.seq ?_))
           refine WC.cond rfl (fun hc8 => ?_) (fun hc8 => ?_)
           ·replace h := ite_t hc8 h
            refine WC.skip (WQ.thenNormal (WC.seq (WC.block (WC.seq (WC.region ?_)))))
            obtain ⟨g1, h⟩ := grd h
            replace h := bnd h; obtain ⟨x2, hxx2, h⟩ := h
            refine WL.q [] rfl rfl rfl (q_idx tbOk rfl (by exact trivial) g1 (map_getE hxx2 (eApiRule_eq _))) ?_
            refine lr 3 rfl trivial ?_
            refine WL.nil (WQ.thenNormal (WC.seq (WC.region ?_)))
            refine lr 7 rfl (by exact sideR) ?_
            replace h := bnd h; obtain ⟨v7, hvv7, h⟩ := h
            refine WL.gcall0 fn41 rfl rfl rfl rfl rfl (fun _ => (by exact sideR)) rfl (fun hg => (ih (ite_t hg hvv7))) ?_
            refine lr 2 rfl (by exact sideR) ?_
            refine WL.nil (WQ.thenNormal ?_)
            refine WC.cond rfl (fun hc9 => ?_) (fun hc9 => ?_)
            ·replace h := ite_t hc9 h
             refine WC.seq (WC.region ?_)
             refine lr 1 rfl trivial ?_
             refine WL.nil (WQ.thenNormal (WC.ret (WQ.blockRet (WQ.thenRet ?_))))
             cases h
             have he := he1 _ hf1
             subst he
             have h : some false = some _ := hk1
             refine WQ.thenRet (WQ.blockRet (WQ.thenRet (WQ.blockRet (WQ.thenRet ?_))))
             cases h
             exact WQ.rets tbOk hR [] (.inl rfl) rfl rfl (Le.refl _) (by exact trivial) rfl rfl rfl rfl
            ·replace h := ite_f hc9 h
             refine WC.skip (WQ.blockNormal (WQ.thenNormal (WC.region ?_)))
             refine lr 2 rfl trivial ?_
             refine WL.nil ?_
             cases h
             exact WQ.next [] (IntKind.i64.wrap (t66 + (1 : Int))) ⟨(by exact ⟨rfl, rfl, rfl, rfl, trivial⟩), (by exact ⟨rfl, trivial⟩), rfl, rfl, rfl, rfl⟩ (hn1 _ hf1)
           ·replace h := ite_f hc8 h
            refine WC.exit (WQ.thenExit ?_)
            cases h
            have he := he1 _ hf1
            subst he
            replace h := hk1
            try dsimp only at h
            refine WQ.thenExit (WQ.blockExit ?_)
            exact WQ.cut [] () ⟨(by exact trivial), (by exact trivial), rfl, rfl, rfl, rfl⟩ h
          ·intro _ h
           replace h : ruleValid_j3 (ruleValid_n n) = some _ := h
           unfold ruleValid_j3 at h
           show WC _ _ _ ⟨[], []⟩ _ _
           refine WC.seq (WC.region ?_)
           refine lr 1 rfl trivial ?_
           refine WL.nil (WQ.thenNormal (WC.ret (WQ.blockRet (WQ.thenRet ?_))))
           cases h
           exact WQ.rets tbOk hR [] (.inl rfl) rfl rfl (Le.refl _) (by exact trivial) rfl rfl rfl rfl
        ·replace h := ite_f hc6 h
         refine WC.skip (WQ.blockNormal ?_)
         exact WQ.cut [] () ⟨(by exact trivial), (by exact trivial), rfl, rfl, rfl, rfl⟩ h
  ·intro _ h
   replace h : ruleValid_j1 (ruleValid_n n) = some _ := h
   unfold ruleValid_j1 at h
   show WC _ _ _ ⟨[], []⟩ _ _
   refine WC.seq (WC.region ?_)
   refine lr 1 rfl trivial ?_
   refine WL.nil (WQ.thenNormal (WC.ret ?_))
   cases h
   exact WQ.rets tbOk hR [] (.inl rfl) rfl rfl (Le.refl _) (by exact trivial) rfl rfl rfl rfl
theorem ruleValid_con {wg : World} (hw : WG wg) {r1 : ApiRule} {r : Bool} (h : ruleValid r1 = some r) : Con Tryz.prog wg gl 41 [.v (.agg [.int .i64 r1.Kind, .int .i64 r1.Digits, .sl 1 (r1.Except.map eStr), .int .i64 r1.Tolerance, .int .i64 r1.Limit, .str r1.Name, .sl 7 (r1.Args.map eApiRule)])] [] (.v (.bool r)) [] := ruleValid_n_con hw _ h

theorem ruleValidate_con {wg : World} (hw : WG wg) {r1 : ApiRule} {r : Int} (h : ruleValidate r1 = some r) : Con Tryz.prog wg gl 23 [.v (.agg [.int .i64 r1.Kind, .int .i64 r1.Digits, .sl 1 (r1.Except.map eStr), .int .i64 r1.Tolerance, .int .i64 r1.Limit, .str r1.Name, .sl 7 (r1.Args.map eApiRule)])] [] (.v (.int .i64 r)) [] := by
 unfold ruleValidate at h
 refine con_of_WC (S := slotsOf 0 _) Tryz.func23 rfl Tryz.ntmps23 rfl (fun t x hx => (slotsOf_get hx).2) ?_
 intro F L w ρ0 R hR
 show WC _ _ _ ⟨[(0, .v (.agg [.int .i64 r1.Kind, .int .i64 r1.Digits, .sl 1 (r1.Except.map eStr), .int .i64 r1.Tolerance, .int .i64 r1.Limit, .str r1.Name, .sl 7 (r1.Args.map eApiRule)]))], []⟩ _ _
 refine WC.seq (WC.region ?_)
 refine lr 2 rfl trivial ?_
 refine WL.nil (WQ.thenNormal (WC.seq (WC.seq (WC.region ?_))))
 refine lr 1 rfl trivial ?_
 replace h := bnd h; obtain ⟨v, hvv, h⟩ := h
 refine WL.call0 fn40 rfl rfl rfl rfl (by exact trivial) rfl (nodes_con hw hvv) ?_
 refine lr 1 rfl trivial ?_
 refine WL.nil (WQ.thenNormal ?_)
 refine WC.cond rfl (fun hc1 => ?_) (fun hc1 => ?_)
 ·replace h := ite_t hc1 h
  refine WC.seq (WC.region ?_)
  refine lr 1 rfl trivial ?_
  refine WL.nil (WQ.thenNormal (WC.ret (WQ.thenRet ?_)))
  cases h
  exact WQ.rets tbOk hR [] (.inl rfl) rfl rfl (Le.refl _) (by exact trivial) rfl rfl rfl rfl
 ·replace h := ite_f hc1 h
  refine WC.skip (WQ.thenNormal (WC.seq (WC.seq (WC.region ?_))))
  refine lr 1 rfl trivial ?_
  replace h := bnd h; obtain ⟨v2, hvv2, h⟩ := h
  refine WL.call0 fn41 rfl rfl rfl rfl (by exact trivial) rfl (ruleValid_con hw hvv2) ?_
  refine lr 1 rfl trivial ?_
  refine WL.nil (WQ.thenNormal ?_)
  refine WC.cond rfl (fun hc2 => ?_) (fun hc2 => ?_)
  ·replace h := ite_t hc2 h
   refine WC.seq (WC.region ?_)
   refine lr 1 rfl trivial ?_
   refine WL.nil (WQ.thenNormal (WC.ret (WQ.thenRet ?_)))
   cases h
   exact WQ.rets tbOk hR [] (.inl rfl) rfl rfl (Le.refl _) (by exact trivial) rfl rfl rfl rfl
  ·replace h := ite_f hc2 h
   refine WC.skip (WQ.thenNormal (WC.seq (WC.region ?_)))
   refine lr 1 rfl trivial ?_
   refine WL.nil (WQ.thenNormal (WC.ret ?_))
   cases h
   exact WQ.rets tbOk hR [] (.inl rfl) rfl rfl (Le.refl _) (by exact trivial) rfl rfl rfl rfl

theorem applicable_con {wg : World} (hw : WG wg) {r1 : ApiRule} {c : ApiCase} {r : Bool} (h : applicable r1 c = some r) : Con Tryz.prog wg gl 34 [.v (.agg [.int .i64 r1.Kind, .int .i64 r1.Digits, .sl 1 (r1.Except.map eStr), .int .i64 r1.Tolerance, .int .i64 r1.Limit, .str r1.Name, .sl 7 (r1.Args.map eApiRule)]), .v (.agg [.str c.Code, .int .i64 c.Price, .bool c.Obtained, .sl 1 (c.Processes.map eStr), .sl 3 (c.Inputs.map eApiInput)])] [] (.v (.bool r)) [] := by
 unfold applicable at h
 refine con_of_WC (S := slotsOf 0 _) Tryz.func34 rfl Tryz.ntmps34 rfl (fun t x hx => (slotsOf_get hx).2) ?_
 intro F L w ρ0 R hR
 show WC _ _ _ ⟨[(0, .v (.agg [.int .i64 r1.Kind, .int .i64 r1.Digits, .sl 1 (r1.Except.map eStr), .int .i64 r1.Tolerance, .int .i64 r1.Limit, .str r1.Name, .sl 7 (r1.Args.map eApiRule)])), (1, .v (.agg [.str c.Code, .int .i64 c.Price, .bool c.Obtained, .sl 1 (c.Processes.map eStr), .sl 3 (c.Inputs.map eApiInput)]))], []⟩ _ _
 refine WC.seq (WC.region ?_)
 refine lr 3 rfl trivial ?_
 refine WL.nil (WQ.thenNormal (WC.seq (WC.region ?_)))
 refine lr 1 rfl trivial ?_
 replace h := bnd h; obtain ⟨v, hvv, h⟩ := h
 refine WL.call0 fn23 rfl rfl rfl rfl (by exact trivial) rfl (ruleValidate_con hw hvv) ?_
 refine lr 3 rfl (by exact sideR) ?_
 replace h := bnd h; obtain ⟨v2, hvv2, h⟩ := h
 refine WL.gcall0 fn10 rfl rfl rfl rfl rfl (fun _ => (by exact sideR)) rfl (fun hg => (validateCase_con hw (ite_t hg hvv2))) ?_
 refine lr 3 rfl (by exact sideR) ?_
 refine WL.nil (WQ.thenNormal (WC.ret ?_))
 cases h
 exact WQ.rets tbOk hR [] (.inl rfl) rfl rfl (Le.refl _) (by exact trivial) rfl rfl rfl rfl

end Go.Proofs.YtfeleiepnifbcaaGreatDoor
