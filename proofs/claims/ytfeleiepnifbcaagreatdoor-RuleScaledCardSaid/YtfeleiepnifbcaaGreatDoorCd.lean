/- Contracts: the program's functions compute the plain ones; by program (gen.py). -/
import Derived.Test.YtfeleiepnifbcaaGreatDoorLib
import Derived.Test.YtfeleiepnifbcaaGreatDoorPd
import Derived.Test.YtfeleiepnifbcaaGreatDoorFl
import Derived.Test.YtfeleiepnifbcaaGreatDoorCa
import Derived.Test.YtfeleiepnifbcaaGreatDoorCb
import Derived.Test.YtfeleiepnifbcaaGreatDoorCc
set_option linter.unusedVariables false
set_option linter.unusedSimpArgs false
set_option maxHeartbeats 4000000
set_option maxRecDepth 20000
namespace Go.Proofs.YtfeleiepnifbcaaGreatDoor
open Go.V Go.C

theorem percentage_con {wg : World} (hw : WG wg) {n1 : Int} {r : Str} (h : percentage n1 = some r) : Con Tryz.prog wg gl 64 [.v (.int .i64 n1)] [] (.v (.str r)) [] := by
 unfold percentage at h
 refine con_of_WC (S := slotsOf 0 _) Tryz.func64 rfl Tryz.ntmps64 rfl (fun t x hx => (slotsOf_get hx).2) ?_
 intro F L w ρ0 R hR
 show WC _ _ _ ⟨[(0, .v (.int .i64 n1))], []⟩ _ _
 refine WC.seq (WC.region ?_)
 refine lr 1 rfl trivial ?_
 refine WL.nil (WQ.thenNormal (WC.seq (WC.region ?_)))
 refine lr 2 rfl (by exact sideR) ?_
 replace h := bnd h; obtain ⟨v, hvv, h⟩ := h
 refine WL.call0 fn62 rfl rfl rfl rfl (by exact trivial) rfl (itoa_con hw hvv) ?_
 refine lr 1 rfl trivial ?_
 refine WL.nil (WQ.thenNormal (WC.seq (WC.seq (WC.region ?_))))
 refine lr 3 rfl (by exact sideR) ?_
 refine WL.nil (WQ.thenNormal ?_)
 refine WC.thenCut (X := Str) (fun gG => ⟨[(3, .v (.str gG))], []⟩) (fun gG => percentage_j1 gG = some r) ?_ ?_
 ·refine WC.cond rfl (fun hc1 => ?_) (fun hc1 => ?_)
  ·replace h := ite_t hc1 h
   refine WC.seq (WC.region ?_)
   refine lr 3 rfl (by exact sideR) ?_
   replace h := bnd h; obtain ⟨v2, hvv2, h⟩ := h
   refine WL.call0 fn62 rfl rfl rfl rfl (by exact trivial) rfl (itoa_con hw hvv2) ?_
   refine lr 1 rfl trivial ?_
   refine WL.nil (WQ.thenNormal (WC.region ?_))
   obtain ⟨g2, h⟩ := grd h
   refine lr 3 rfl (by repeat' (first | exact trivial | assumption | intro _ | exact g2 (by assumption) | apply And.intro | exact sideT | (refine and_i ?_ ?_))) ?_
   replace h := bnd h; obtain ⟨v3, hvv3, h⟩ := h
   refine WL.call0 fn82 rfl rfl rfl rfl (by exact trivial) rfl (trimRightS_con hw hvv3) ?_
   obtain ⟨g3, h⟩ := grd h
   obtain ⟨g4, h⟩ := grd h
   refine lr 3 rfl (by repeat' (first | exact trivial | assumption | intro _ | exact g3 (by assumption) | exact g4 (by assumption) | apply And.intro | exact sideT | (refine and_i ?_ ?_))) ?_
   refine WL.nil ?_
   exact WQ.cut [] (v ++ (([46] : Str) ++ v3)) ⟨(by exact ⟨rfl, trivial⟩), (by exact trivial), rfl, rfl, rfl, rfl⟩ h
  ·replace h := ite_f hc1 h
   refine WC.skip ?_
   exact WQ.cut [] v ⟨(by exact ⟨rfl, trivial⟩), (by exact trivial), rfl, rfl, rfl, rfl⟩ h
 ·intro s h
  replace h : percentage_j1 s = some _ := h
  unfold percentage_j1 at h
  show WC _ _ _ ⟨[(3, .v (.str s))], []⟩ _ _
  refine WC.seq (WC.region ?_)
  obtain ⟨g1, h⟩ := grd h
  refine lr 3 rfl (by repeat' (first | exact trivial | assumption | intro _ | exact g1 (by assumption) | apply And.intro | exact sideT | (refine and_i ?_ ?_))) ?_
  refine WL.nil (WQ.thenNormal (WC.ret ?_))
  cases h
  exact WQ.rets tbOk hR [] (.inl rfl) rfl rfl (Le.refl _) (by exact trivial) rfl rfl rfl rfl

theorem parsePercentage_con {wg : World} (hw : WG wg) {s : Str} {r : Int} (h : parsePercentage s = some r) : Con Tryz.prog wg gl 93 [.v (.str s)] [] (.v (.int .i64 r)) [] := by
 unfold parsePercentage at h
 refine con_of_WC (S := slotsOf 0 _) Tryz.func93 rfl Tryz.ntmps93 rfl (fun t x hx => (slotsOf_get hx).2) ?_
 intro F L w ρ0 R hR
 show WC _ _ _ ⟨[(0, .v (.str s))], []⟩ _ _
 refine WC.seq (WC.region ?_)
 refine lr 1 rfl trivial ?_
 refine WL.nil (WQ.thenNormal (WC.seq (WC.region ?_)))
 refine lr 1 rfl trivial ?_
 replace h := bnd h; obtain ⟨v, hvv, h⟩ := h
 refine WL.call0 fn107 rfl rfl rfl rfl (by exact trivial) rfl (cutSuffixS_con hw hvv) ?_
 refine lr 5 rfl trivial ?_
 refine WL.nil (WQ.thenNormal (WC.seq (WC.seq (WC.region ?_))))
 refine lr 2 rfl trivial ?_
 refine WL.nil (WQ.thenNormal ?_)
 refine WC.cond rfl (fun hc1 => ?_) (fun hc1 => ?_)
 ·replace h := ite_t hc1 h
  refine WC.seq (WC.region ?_)
  refine lr 1 rfl trivial ?_
  refine WL.nil (WQ.thenNormal (WC.ret (WQ.thenRet ?_)))
  cases h
  exact WQ.rets tbOk hR [] (.inl rfl) rfl rfl (Le.refl _) (by exact trivial) rfl rfl rfl rfl
 ·replace h := ite_f hc1 h
  refine WC.skip (WQ.thenNormal (WC.seq (WC.region ?_)))
  refine lr 1 rfl trivial ?_
  replace h := bnd h; obtain ⟨v2, hvv2, h⟩ := h
  refine WL.call0 fn108 rfl rfl rfl rfl (by exact trivial) rfl (cutS_con hw hvv2) ?_
  refine lr 7 rfl trivial ?_
  refine WL.nil (WQ.thenNormal (WC.seq ?_))
  refine WC.thenCut (X := Str) (fun gG => ⟨[(6, .v (.str gG)), (5, .v (.str v2.1)), (0, .v (.str s))], []⟩) (fun gG => parsePercentage_j1 s v2 gG = some r) ?_ ?_
  ·refine WC.block ?_
   obtain ⟨eQ1, hl1, hk1⟩ := bnd h
   clear h
   refine WC.loop (σ := Str) (τ := (Str)) (fun sS => ⟨[(6, .v (.str sS)), (5, .v (.str v2.1)), (0, .v (.str s))], []⟩) (parsePercentage_b1 s v2) [] v2.2.1 hl1 ⟨(by exact ⟨rfl, rfl, rfl, trivial⟩), (by exact trivial), rfl, rfl, rfl, rfl⟩ ?_
   intro digits2 m hn1 he1 hx1
   obtain ⟨o1, hf1⟩ := some_of hx1
   have h := hf1
   unfold parsePercentage_b1 at h
   show WC _ _ _ ⟨[(6, .v (.str digits2)), (5, .v (.str v2.1)), (0, .v (.str s))], []⟩ _ _
   refine WC.seq (WC.seq (WC.region ?_))
   refine lr 3 rfl trivial ?_
   refine WL.nil (WQ.thenNormal ?_)
   refine WC.cond rfl (fun hc3 => ?_) (fun hc3 => ?_)
   ·replace h := ite_t hc3 h
    refine WC.skip (WQ.thenNormal (WC.block (WC.region ?_)))
    obtain ⟨g2, h⟩ := grd h
    refine lr 3 rfl (by repeat' (first | exact trivial | assumption | intro _ | exact g2 (by assumption) | apply And.intro | exact sideT | (refine and_i ?_ ?_))) ?_
    refine WL.nil (WQ.blockNormal ?_)
    cases h
    exact WQ.next [] (digits2 ++ ([48] : Str)) ⟨(by exact ⟨rfl, rfl, rfl, trivial⟩), (by exact trivial), rfl, rfl, rfl, rfl⟩ (hn1 _ hf1)
   ·replace h := ite_f hc3 h
    refine WC.exit (WQ.thenExit ?_)
    cases h
    have he := he1 _ hf1
    subst he
    replace h := hk1
    try dsimp only at h
    refine WQ.thenExit (WQ.blockExit ?_)
    exact WQ.cut [] digits2 ⟨(by exact ⟨rfl, rfl, rfl, trivial⟩), (by exact trivial), rfl, rfl, rfl, rfl⟩ h
  ·intro digits h
   replace h : parsePercentage_j1 s v2 digits = some _ := h
   unfold parsePercentage_j1 at h
   show WC _ _ _ ⟨[(6, .v (.str digits)), (5, .v (.str v2.1)), (0, .v (.str s))], []⟩ _ _
   refine WC.seq (WC.region ?_)
   obtain ⟨g1, h⟩ := grd h
   refine lr 3 rfl (by repeat' (first | exact trivial | assumption | intro _ | exact g1 (by assumption) | apply And.intro | exact sideT | (refine and_i ?_ ?_))) ?_
   replace h := bnd h; obtain ⟨v3, hvv3, h⟩ := h
   refine WL.call0 fn105 rfl rfl rfl rfl (by exact trivial) rfl (atoiS_con hw hvv3) ?_
   refine lr 5 rfl trivial ?_
   refine WL.nil (WQ.thenNormal (WC.seq (WC.seq (WC.region ?_))))
   refine lr 4 rfl (by exact sideR) ?_
   replace h := bnd h; obtain ⟨v4, hvv4, h⟩ := h
   refine WL.gcall0 fn55 rfl rfl rfl rfl rfl (fun _ => (by exact sideR)) rfl (fun hg => (millionths_con hw (ite_t hg hvv4))) ?_
   refine lr 4 rfl (by exact sideR) ?_
   replace h := bnd h; obtain ⟨v5, hvv5, h⟩ := h
   refine WL.gcall0 fn64 rfl rfl rfl rfl rfl (fun _ => (by exact sideR)) rfl (fun hg => (percentage_con hw (ite_t hg hvv5))) ?_
   refine lr 3 rfl (by exact sideR) ?_
   refine WL.nil (WQ.thenNormal ?_)
   refine WC.cond rfl (fun hc2 => ?_) (fun hc2 => ?_)
   ·replace h := ite_t hc2 h
    refine WC.seq (WC.region ?_)
    refine lr 1 rfl trivial ?_
    refine WL.nil (WQ.thenNormal (WC.ret (WQ.thenRet ?_)))
    cases h
    exact WQ.rets tbOk hR [] (.inl rfl) rfl rfl (Le.refl _) (by exact trivial) rfl rfl rfl rfl
   ·replace h := ite_f hc2 h
    refine WC.skip (WQ.thenNormal (WC.seq (WC.region ?_)))
    refine lr 2 rfl trivial ?_
    refine WL.nil (WQ.thenNormal (WC.ret ?_))
    cases h
    exact WQ.rets tbOk hR [] (.inl rfl) rfl rfl (Le.refl _) (by exact trivial) rfl rfl rfl rfl

theorem ruleText_n_con {wg : World} (hw : WG wg) (n : Nat) : ∀ {r1 : ApiRule} {r : Str} (h : ruleText_n n r1 = some r), Con Tryz.prog wg gl 48 [.v (.agg [.int .i64 r1.Kind, .int .i64 r1.Digits, .sl 1 (r1.Except.map eStr), .int .i64 r1.Tolerance, .int .i64 r1.Limit, .str r1.Name, .sl 7 (r1.Args.map eApiRule)])] [] (.v (.str r)) [] := by
 induction n with
 | zero => intros; rename_i h; cases h
 | succ n ih =>
 intro r1 r h
 replace h : ruleText_F (ruleText_n n) r1 = some r := h
 unfold ruleText_F at h
 refine con_of_WC (S := slotsOf 0 _) Tryz.func48 rfl Tryz.ntmps48 rfl (fun t x hx => (slotsOf_get hx).2) ?_
 intro F L w ρ0 R hR
 show WC _ _ _ ⟨[(0, .v (.agg [.int .i64 r1.Kind, .int .i64 r1.Digits, .sl 1 (r1.Except.map eStr), .int .i64 r1.Tolerance, .int .i64 r1.Limit, .str r1.Name, .sl 7 (r1.Args.map eApiRule)]))], []⟩ _ _
 refine WC.seq (WC.region ?_)
 refine lr 2 rfl trivial ?_
 refine WL.nil (WQ.thenNormal (WC.seq (WC.seq (WC.region ?_))))
 refine lr 2 rfl trivial ?_
 refine WL.nil (WQ.thenNormal (WC.block (WC.seq (WC.region ?_))))
 refine lr 2 rfl trivial ?_
 refine WL.nil (WQ.thenNormal ?_)
 refine WC.cond rfl (fun hc1 => ?_) (fun hc1 => ?_)
 ·replace h := ite_t hc1 h
  refine WC.seq (WC.region ?_)
  refine lr 1 rfl trivial ?_
  refine WL.nil (WQ.thenNormal (WC.ret (WQ.blockRet (WQ.thenRet ?_))))
  cases h
  exact WQ.rets tbOk hR [] (.inl rfl) rfl rfl (Le.refl _) (by exact trivial) rfl rfl rfl rfl
 ·replace h := ite_f hc1 h
  refine WC.seq (WC.region ?_)
  refine lr 2 rfl trivial ?_
  refine WL.nil (WQ.thenNormal ?_)
  refine WC.cond rfl (fun hc2 => ?_) (fun hc2 => ?_)
  ·replace h := ite_t hc2 h
   refine WC.seq (WC.region ?_)
   refine lr 2 rfl trivial ?_
   replace h := bnd h; obtain ⟨v, hvv, h⟩ := h
   refine WL.call0 fn62 rfl rfl rfl rfl (by exact trivial) rfl (itoa_con hw hvv) ?_
   obtain ⟨g1, h⟩ := grd h
   refine lr 2 rfl (by repeat' (first | exact trivial | assumption | intro _ | exact g1 (by assumption) | apply And.intro | exact sideT | (refine and_i ?_ ?_))) ?_
   refine WL.nil (WQ.thenNormal (WC.seq (WC.seq (WC.region ?_))))
   refine lr 2 rfl trivial ?_
   refine WL.q [] rfl rfl rfl (q_ev tbOk (.v (.int .i64 (r1.Except.length : Int))) rfl (by exact trivial) (by exact lenT)) ?_
   refine lr 1 rfl trivial ?_
   refine WL.nil (WQ.thenNormal ?_)
   refine WC.thenCut (X := Str) (fun gG => ⟨[(3, .v (.str gG)), (1, .p 1 0)], [(1, .blk 37 [.v (.int .i64 r1.Kind), .v (.int .i64 r1.Digits), .v (.sl 1 (r1.Except.map eStr)), .v (.int .i64 r1.Tolerance), .v (.int .i64 r1.Limit), .v (.str r1.Name), .v (.sl 7 (r1.Args.map eApiRule))])]⟩) (fun gG => ruleText_j1 (ruleText_n n) r1 gG = some r) ?_ ?_
   ·refine WC.cond rfl (fun hc4 => ?_) (fun hc4 => ?_)
    ·replace h := ite_t hc4 h
     refine WC.region ?_
     refine lr 3 rfl trivial ?_
     replace h := bnd h; obtain ⟨v3, hvv3, h⟩ := h
     refine WL.call0 fn63 rfl rfl rfl rfl (by exact trivial) rfl (joinS_con hw hvv3) ?_
     obtain ⟨g4, h⟩ := grd h
     obtain ⟨g5, h⟩ := grd h
     refine lr 3 rfl (by repeat' (first | exact trivial | assumption | intro _ | exact g4 (by assumption) | exact g5 (by assumption) | apply And.intro | exact sideT | (refine and_i ?_ ?_))) ?_
     refine WL.nil ?_
     exact WQ.cut [] ((([99, 104, 97, 110, 103, 101, 32] : Str) ++ v) ++ (([32, 101, 120, 99, 101, 112, 116, 32] : Str) ++ v3)) ⟨(by exact ⟨rfl, rfl, trivial⟩), (by exact ⟨rfl, trivial⟩), rfl, rfl, rfl, rfl⟩ h
    ·replace h := ite_f hc4 h
     refine WC.skip ?_
     exact WQ.cut [] (([99, 104, 97, 110, 103, 101, 32] : Str) ++ v) ⟨(by exact ⟨rfl, rfl, trivial⟩), (by exact ⟨rfl, trivial⟩), rfl, rfl, rfl, rfl⟩ h
   ·intro s h
    replace h : ruleText_j1 (ruleText_n n) r1 s = some _ := h
    unfold ruleText_j1 at h
    show WC _ _ _ ⟨[(3, .v (.str s)), (1, .p 1 0)], [(1, .blk 37 [.v (.int .i64 r1.Kind), .v (.int .i64 r1.Digits), .v (.sl 1 (r1.Except.map eStr)), .v (.int .i64 r1.Tolerance), .v (.int .i64 r1.Limit), .v (.str r1.Name), .v (.sl 7 (r1.Args.map eApiRule))])]⟩ _ _
    refine WC.seq (WC.seq (WC.region ?_))
    refine lr 3 rfl trivial ?_
    refine WL.nil (WQ.thenNormal ?_)
    refine WC.thenCut (X := Str) (fun gG => ⟨[(3, .v (.str gG))], []⟩) (fun gG => ruleText_j2 (ruleText_n n) gG = some r) ?_ ?_
    ·refine WC.cond rfl (fun hc3 => ?_) (fun hc3 => ?_)
     ·replace h := ite_t hc3 h
      refine WC.region ?_
      refine lr 3 rfl trivial ?_
      replace h := bnd h; obtain ⟨v2, hvv2, h⟩ := h
      refine WL.call0 fn64 rfl rfl rfl rfl (by exact trivial) rfl (percentage_con hw hvv2) ?_
      obtain ⟨g2, h⟩ := grd h
      obtain ⟨g3, h⟩ := grd h
      refine lr 3 rfl (by repeat' (first | exact trivial | assumption | intro _ | exact g2 (by assumption) | exact g3 (by assumption) | apply And.intro | exact sideT | (refine and_i ?_ ?_))) ?_
      refine WL.nil ?_
      exact WQ.cut [] (s ++ (([32, 116, 111, 108, 101, 114, 97, 110, 99, 101, 32] : Str) ++ v2)) ⟨(by exact ⟨rfl, trivial⟩), (by exact trivial), rfl, rfl, rfl, rfl⟩ h
     ·replace h := ite_f hc3 h
      refine WC.skip ?_
      exact WQ.cut [] s ⟨(by exact ⟨rfl, trivial⟩), (by exact trivial), rfl, rfl, rfl, rfl⟩ h
    ·intro s2 h
     replace h : ruleText_j2 (ruleText_n n) s2 = some _ := h
     unfold ruleText_j2 at h
     show WC _ _ _ ⟨[(3, .v (.str s2))], []⟩ _ _
     refine WC.seq (WC.region ?_)
     refine lr 2 rfl trivial ?_
     refine WL.nil (WQ.thenNormal (WC.ret (WQ.blockRet (WQ.thenRet ?_))))
     cases h
     exact WQ.rets tbOk hR [] (.inl rfl) rfl rfl (Le.refl _) (by exact trivial) rfl rfl rfl rfl
  ·replace h := ite_f hc2 h
   refine WC.seq (WC.region ?_)
   refine lr 2 rfl trivial ?_
   refine WL.nil (WQ.thenNormal ?_)
   refine WC.cond rfl (fun hc5 => ?_) (fun hc5 => ?_)
   ·replace h := ite_t hc5 h
    refine WC.seq (WC.region ?_)
    refine lr 2 rfl trivial ?_
    replace h := bnd h; obtain ⟨v4, hvv4, h⟩ := h
    refine WL.call0 fn64 rfl rfl rfl rfl (by exact trivial) rfl (percentage_con hw hvv4) ?_
    obtain ⟨g6, h⟩ := grd h
    refine lr 2 rfl (by repeat' (first | exact trivial | assumption | intro _ | exact g6 (by assumption) | apply And.intro | exact sideT | (refine and_i ?_ ?_))) ?_
    refine WL.nil (WQ.thenNormal (WC.ret (WQ.blockRet (WQ.thenRet ?_))))
    cases h
    exact WQ.rets tbOk hR [] (.inl rfl) rfl rfl (Le.refl _) (by exact trivial) rfl rfl rfl rfl
   ·replace h := ite_f hc5 h
    refine WC.seq (WC.region ?_)
    refine lr 2 rfl trivial ?_
    refine WL.nil (WQ.thenNormal ?_)
    refine WC.cond rfl (fun hc6 => ?_) (fun hc6 => ?_)
    ·replace h := ite_t hc6 h
     refine WC.seq (WC.region ?_)
     obtain ⟨g7, h⟩ := grd h
     refine lr 4 rfl (by repeat' (first | exact trivial | assumption | intro _ | exact g7 (by assumption) | apply And.intro | exact sideT | (refine and_i ?_ ?_))) ?_
     refine WL.nil (WQ.thenNormal (WC.ret (WQ.blockRet (WQ.thenRet ?_))))
     cases h
     exact WQ.rets tbOk hR [] (.inl rfl) rfl rfl (Le.refl _) (by exact trivial) rfl rfl rfl rfl
    ·replace h := ite_f hc6 h
     refine WC.skip (WQ.blockNormal (WQ.thenNormal (WC.seq (WC.region ?_))))
     refine lr 1 rfl trivial ?_
     refine WL.nil (WQ.thenNormal (WC.seq (WC.seq (WC.region ?_))))
     refine lr 2 rfl trivial ?_
     refine WL.q [] rfl rfl rfl (q_ev tbOk (.v (.int .i64 (r1.Args.length : Int))) rfl (by exact trivial) (by exact lenT)) ?_
     refine lr 1 rfl trivial ?_
     refine WL.nil (WQ.thenNormal ?_)
     refine WC.thenCut (X := (List Str)) (fun gG => ⟨[(4, .r 1004), (1, .p 1 0)], [(1004, .row 9 1 (gG.map eStr)), (1, .blk 37 [.v (.int .i64 r1.Kind), .v (.int .i64 r1.Digits), .v (.sl 1 (r1.Except.map eStr)), .v (.int .i64 r1.Tolerance), .v (.int .i64 r1.Limit), .v (.str r1.Name), .v (.sl 7 (r1.Args.map eApiRule))])]⟩) (fun gG => ruleText_j3 (ruleText_n n) r1 gG = some r) ?_ ?_
     ·refine WC.block ?_
      obtain ⟨eQ1, hl1, hk1⟩ := bnd h
      clear h
      refine WC.rowNil 4 1004 9 1 rfl rfl ?_
      refine WC.loop (σ := Int × (List Str)) (τ := ((List Str))) (fun sS => ⟨[(52, .v (.int .i64 sS.1)), (51, .v (.int .i64 (r1.Args.length : Int))), (50, .v (.sl 7 (r1.Args.map eApiRule))), (4, .r 1004), (1, .p 1 0)], [(1004, .row 9 1 (sS.2.map eStr)), (1, .blk 37 [.v (.int .i64 r1.Kind), .v (.int .i64 r1.Digits), .v (.sl 1 (r1.Except.map eStr)), .v (.int .i64 r1.Tolerance), .v (.int .i64 r1.Limit), .v (.str r1.Name), .v (.sl 7 (r1.Args.map eApiRule))])]⟩) (ruleText_b1 (ruleText_n n) r1) [] ((0 : Int), []) hl1 ⟨(by exact ⟨rfl, rfl, rfl, rfl, rfl, trivial⟩), (by exact ⟨rfl, rfl, trivial⟩), rfl, rfl, rfl, rfl⟩ ?_
      rintro ⟨t522, parts2⟩ m hn1 he1 hx1
      obtain ⟨o1, hf1⟩ := some_of hx1
      have h := hf1
      unfold ruleText_b1 at h
      show WC _ _ _ ⟨[(52, .v (.int .i64 t522)), (51, .v (.int .i64 (r1.Args.length : Int))), (50, .v (.sl 7 (r1.Args.map eApiRule))), (4, .r 1004), (1, .p 1 0)], [(1004, .row 9 1 (parts2.map eStr)), (1, .blk 37 [.v (.int .i64 r1.Kind), .v (.int .i64 r1.Digits), .v (.sl 1 (r1.Except.map eStr)), .v (.int .i64 r1.Tolerance), .v (.int .i64 r1.Limit), .v (.str r1.Name), .v (.sl 7 (r1.Args.map eApiRule))])]⟩ _ _
      refine WC.seq (WC.region ?_)
      refine lr 1 rfl trivial ?_
      refine WL.nil (WQ.thenNormal (WC.seq ?_))
      refine WC.cond rfl (fun hc8 => ?_) (fun hc8 => ?_)
      ·replace h := ite_t hc8 h
       refine WC.skip (WQ.thenNormal (WC.seq (WC.block (WC.seq (WC.region ?_)))))
       obtain ⟨g8, h⟩ := grd h
       replace h := bnd h; obtain ⟨x3, hxx3, h⟩ := h
       refine WL.q [] rfl rfl rfl (q_idx tbOk rfl (by exact trivial) g8 (map_getE hxx3 (eApiRule_eq _))) ?_
       refine lr 3 rfl trivial ?_
       refine WL.nil (WQ.thenNormal (WC.seq (WC.region ?_)))
       refine lr 1 rfl trivial ?_
       replace h := bnd h; obtain ⟨v9, hvv9, h⟩ := h
       refine WL.call0 fn48 rfl rfl rfl rfl (by exact trivial) rfl (ih hvv9) ?_
       refine lr 1 rfl trivial ?_
       refine WL.nil (WQ.thenNormal (WC.seq (WC.seq (WC.region ?_))))
       refine lr 8 rfl (by exact sideR) ?_
       refine WL.nil (WQ.thenNormal ?_)
       refine WC.thenCut (X := Str × (List Str)) (fun gG => ⟨[(7, .v (.str gG.1)), (52, .v (.int .i64 t522)), (51, .v (.int .i64 (r1.Args.length : Int))), (50, .v (.sl 7 (r1.Args.map eApiRule))), (4, .r 1004), (1, .p 1 0)], [(1004, .row 9 1 (gG.2.map eStr)), (1, .blk 37 [.v (.int .i64 r1.Kind), .v (.int .i64 r1.Digits), .v (.sl 1 (r1.Except.map eStr)), .v (.int .i64 r1.Tolerance), .v (.int .i64 r1.Limit), .v (.str r1.Name), .v (.sl 7 (r1.Args.map eApiRule))])]⟩) (fun gG => ruleText_j4 (ruleText_n n) r1 t522 gG.1 gG.2 = some o1) ?_ ?_
       ·refine WC.cond rfl (fun hc9 => ?_) (fun hc9 => ?_)
        ·replace h := ite_t hc9 h
         refine WC.region ?_
         obtain ⟨g10, h⟩ := grd h
         obtain ⟨g11, h⟩ := grd h
         refine lr 4 rfl (by repeat' (first | exact trivial | assumption | intro _ | exact g10 (by assumption) | exact g11 (by assumption) | apply And.intro | exact sideT | (refine and_i ?_ ?_))) ?_
         refine WL.nil ?_
         exact WQ.cut [] (((([40] : Str) ++ v9) ++ ([41] : Str)), parts2) ⟨(by exact ⟨rfl, rfl, rfl, rfl, rfl, rfl, trivial⟩), (by exact ⟨rfl, rfl, trivial⟩), rfl, rfl, rfl, rfl⟩ h
        ·replace h := ite_f hc9 h
         refine WC.skip ?_
         exact WQ.cut [] (v9, parts2) ⟨(by exact ⟨rfl, rfl, rfl, rfl, rfl, rfl, trivial⟩), (by exact ⟨rfl, rfl, trivial⟩), rfl, rfl, rfl, rfl⟩ h
       ·rintro ⟨part3, parts5⟩ h
        replace h : ruleText_j4 (ruleText_n n) r1 t522 part3 parts5 = some _ := h
        unfold ruleText_j4 at h
        show WC _ _ _ ⟨[(7, .v (.str part3)), (52, .v (.int .i64 t522)), (51, .v (.int .i64 (r1.Args.length : Int))), (50, .v (.sl 7 (r1.Args.map eApiRule))), (4, .r 1004), (1, .p 1 0)], [(1004, .row 9 1 (parts5.map eStr)), (1, .blk 37 [.v (.int .i64 r1.Kind), .v (.int .i64 r1.Digits), .v (.sl 1 (r1.Except.map eStr)), .v (.int .i64 r1.Tolerance), .v (.int .i64 r1.Limit), .v (.str r1.Name), .v (.sl 7 (r1.Args.map eApiRule))])]⟩ _ _
        refine WC.region ?_
        refine lr 3 rfl trivial ?_
        obtain ⟨g9, h⟩ := grd h
        refine WL.append tbOk ((parts5 ++ [part3]).map eStr) [72, 1004] ap22 rfl rfl rfl rfl (fun _ e => by cases e; rfl) (by exact trivial) (map_cells (f := eStr) (xs := [part3]) fun _ => rfl) (by have := g9; simp only [List.length_map, List.length_nil, List.length_cons] at this ⊢; omega) rfl rfl (by simp only [List.map_append]; try rfl) rfl ?_
        refine lr 1 rfl trivial ?_
        refine WL.nil (WQ.blockNormal (WQ.thenNormal (WC.region ?_)))
        refine lr 2 rfl trivial ?_
        refine WL.nil ?_
        cases h
        exact WQ.next [(1004, 72)] ((IntKind.i64.wrap (t522 + (1 : Int))), (parts5 ++ [part3])) ⟨(by exact ⟨rfl, rfl, rfl, rfl, rfl, trivial⟩), (by exact ⟨rfl, rfl, trivial⟩), rfl, rfl, rfl, rfl⟩ (hn1 _ hf1)
      ·replace h := ite_f hc8 h
       refine WC.exit (WQ.thenExit ?_)
       cases h
       have he := he1 _ hf1
       subst he
       replace h := hk1
       try dsimp only at h
       refine WQ.thenExit (WQ.blockExit ?_)
       exact WQ.cut [] parts2 ⟨(by exact ⟨rfl, rfl, trivial⟩), (by exact ⟨rfl, rfl, trivial⟩), rfl, rfl, rfl, rfl⟩ h
     ·intro parts h
      replace h : ruleText_j3 (ruleText_n n) r1 parts = some _ := h
      unfold ruleText_j3 at h
      show WC _ _ _ ⟨[(4, .r 1004), (1, .p 1 0)], [(1004, .row 9 1 (parts.map eStr)), (1, .blk 37 [.v (.int .i64 r1.Kind), .v (.int .i64 r1.Digits), .v (.sl 1 (r1.Except.map eStr)), .v (.int .i64 r1.Tolerance), .v (.int .i64 r1.Limit), .v (.str r1.Name), .v (.sl 7 (r1.Args.map eApiRule))])]⟩ _ _
      refine WC.seq (WC.seq (WC.region ?_))
      refine lr 3 rfl trivial ?_
      refine WL.nil (WQ.thenNormal ?_)
      refine WC.cond rfl (fun hc7 => ?_) (fun hc7 => ?_)
      ·replace h := ite_t hc7 h
       refine WC.seq ?_
       refine WC.publish 1004 rfl rfl ?_
       refine WC.region ?_
       refine lr 1 rfl trivial ?_
       replace h := bnd h; obtain ⟨v5, hvv5, h⟩ := h
       refine WL.call0 fn63 rfl rfl rfl rfl (by exact trivial) rfl (joinS_con hw hvv5) ?_
       refine lr 1 rfl trivial ?_
       refine WL.nil (WQ.thenNormal (WC.ret (WQ.thenRet ?_)))
       cases h
       exact WQ.rets tbOk hR [] (.inl rfl) rfl rfl (Le.refl _) (by exact trivial) rfl rfl rfl rfl
      ·replace h := ite_f hc7 h
       refine WC.skip (WQ.thenNormal (WC.seq ?_))
       refine WC.publish 1004 rfl rfl ?_
       refine WC.region ?_
       refine lr 1 rfl trivial ?_
       replace h := bnd h; obtain ⟨v6, hvv6, h⟩ := h
       refine WL.call0 fn63 rfl rfl rfl rfl (by exact trivial) rfl (joinS_con hw hvv6) ?_
       refine lr 1 rfl trivial ?_
       refine WL.nil (WQ.thenNormal (WC.ret ?_))
       cases h
       exact WQ.rets tbOk hR [] (.inl rfl) rfl rfl (Le.refl _) (by exact trivial) rfl rfl rfl rfl
theorem ruleText_con {wg : World} (hw : WG wg) {r1 : ApiRule} {r : Str} (h : ruleText r1 = some r) : Con Tryz.prog wg gl 48 [.v (.agg [.int .i64 r1.Kind, .int .i64 r1.Digits, .sl 1 (r1.Except.map eStr), .int .i64 r1.Tolerance, .int .i64 r1.Limit, .str r1.Name, .sl 7 (r1.Args.map eApiRule)])] [] (.v (.str r)) [] := ruleText_n_con hw _ h

theorem ruleFormat_con {wg : World} (hw : WG wg) {r1 : ApiRule} {r : Str} (h : ruleFormat r1 = some r) : Con Tryz.prog wg gl 32 [.v (.agg [.int .i64 r1.Kind, .int .i64 r1.Digits, .sl 1 (r1.Except.map eStr), .int .i64 r1.Tolerance, .int .i64 r1.Limit, .str r1.Name, .sl 7 (r1.Args.map eApiRule)])] [] (.v (.str r)) [] := by
 unfold ruleFormat at h
 refine con_of_WC (S := slotsOf 0 _) Tryz.func32 rfl Tryz.ntmps32 rfl (fun t x hx => (slotsOf_get hx).2) ?_
 intro F L w ρ0 R hR
 show WC _ _ _ ⟨[(0, .v (.agg [.int .i64 r1.Kind, .int .i64 r1.Digits, .sl 1 (r1.Except.map eStr), .int .i64 r1.Tolerance, .int .i64 r1.Limit, .str r1.Name, .sl 7 (r1.Args.map eApiRule)]))], []⟩ _ _
 refine WC.seq (WC.region ?_)
 refine lr 2 rfl trivial ?_
 refine WL.nil (WQ.thenNormal (WC.seq (WC.seq (WC.region ?_))))
 refine lr 1 rfl trivial ?_
 replace h := bnd h; obtain ⟨v, hvv, h⟩ := h
 refine WL.call0 fn23 rfl rfl rfl rfl (by exact trivial) rfl (ruleValidate_con hw hvv) ?_
 refine lr 1 rfl trivial ?_
 refine WL.nil (WQ.thenNormal ?_)
 refine WC.cond rfl (fun hc1 => ?_) (fun hc1 => ?_)
 ·replace h := ite_t hc1 h
  refine WC.seq (WC.region ?_)
  refine lr 1 rfl trivial ?_
  refine WL.nil (WQ.thenNormal (WC.ret (WQ.thenRet ?_)))
  cases h
  exact WQ.rets tbOk hR [] (.inl rfl) rfl rfl (Le.refl _) (by exact trivial) rfl rfl rfl rfl
 ·replace h := ite_f hc1 h
  refine WC.skip (WQ.thenNormal (WC.seq (WC.region ?_)))
  refine lr 1 rfl trivial ?_
  replace h := bnd h; obtain ⟨v2, hvv2, h⟩ := h
  refine WL.call0 fn48 rfl rfl rfl rfl (by exact trivial) rfl (ruleText_con hw hvv2) ?_
  refine lr 1 rfl trivial ?_
  refine WL.nil (WQ.thenNormal (WC.ret ?_))
  cases h
  exact WQ.rets tbOk hR [] (.inl rfl) rfl rfl (Le.refl _) (by exact trivial) rfl rfl rfl rfl

theorem tokensOf_con {wg : World} (hw : WG wg) {s : Str} {r : (List Str)} (h : tokensOf s = some r) : Con Tryz.prog wg gl 46 [.v (.str s)] [] (.v (.sl 1 (r.map eStr))) [] := by
 unfold tokensOf at h
 refine con_of_WC (S := slotsOf 0 _) Tryz.func46 rfl Tryz.ntmps46 rfl (fun t x hx => (slotsOf_get hx).2) ?_
 intro F L w ρ0 R hR
 show WC _ _ _ ⟨[(0, .v (.str s))], []⟩ _ _
 refine WC.seq (WC.region ?_)
 refine lr 1 rfl trivial ?_
 refine WL.nil (WQ.thenNormal (WC.seq (WC.region ?_)))
 refine lr 1 rfl trivial ?_
 replace h := bnd h; obtain ⟨v, hvv, h⟩ := h
 refine WL.call0 fn57 rfl rfl rfl rfl (by exact trivial) rfl (replaceAllS_con hw hvv) ?_
 refine lr 1 rfl trivial ?_
 refine WL.nil (WQ.thenNormal (WC.seq (WC.region ?_)))
 refine lr 1 rfl trivial ?_
 replace h := bnd h; obtain ⟨v2, hvv2, h⟩ := h
 refine WL.call0 fn57 rfl rfl rfl rfl (by exact trivial) rfl (replaceAllS_con hw hvv2) ?_
 refine lr 1 rfl trivial ?_
 refine WL.nil (WQ.thenNormal (WC.seq (WC.region ?_)))
 refine lr 1 rfl trivial ?_
 replace h := bnd h; obtain ⟨v3, hvv3, h⟩ := h
 refine WL.call0 fn58 rfl rfl rfl rfl (by exact trivial) rfl (fieldsS_con hw hvv3) ?_
 refine lr 1 rfl trivial ?_
 refine WL.nil (WQ.thenNormal (WC.ret ?_))
 cases h
 exact WQ.rets tbOk hR [] (.inl rfl) rfl rfl (Le.refl _) (by exact trivial) rfl rfl rfl rfl

theorem parNext_con {wg : World} (hw : WG wg) {p : RuleParser} {r : Str × RuleParser} (h : parNext p = some r) : Con Tryz.prog wg gl 90 [.p 0 0] [(0, .blk 78 [.v (.sl 1 (p.tokens.map eStr)), .v (.int .i64 p.depth)])] (.v (.str r.1)) [(0, .blk 78 [.v (.sl 1 (r.2.tokens.map eStr)), .v (.int .i64 r.2.depth)])] := by
 unfold parNext at h
 refine con_of_WC (S := slotsOf 0 _) Tryz.func90 rfl Tryz.ntmps90 rfl (fun t x hx => (slotsOf_get hx).2) ?_
 intro F L w ρ0 R hR
 show WC _ _ _ ⟨[(0, .p 0 0)], [(0, .blk 78 [.v (.sl 1 (p.tokens.map eStr)), .v (.int .i64 p.depth)])]⟩ _ _
 refine WC.seq (WC.region ?_)
 refine lr 1 rfl trivial ?_
 refine WL.nil (WQ.thenNormal (WC.seq (WC.seq (WC.region ?_))))
 refine lr 4 rfl trivial ?_
 refine WL.q [] rfl rfl rfl (q_ev tbOk (.v (.int .i64 (p.tokens.length : Int))) rfl (by exact trivial) (by exact lenT)) ?_
 refine lr 1 rfl trivial ?_
 refine WL.nil (WQ.thenNormal ?_)
 refine WC.cond rfl (fun hc1 => ?_) (fun hc1 => ?_)
 ·replace h := ite_t hc1 h
  refine WC.seq (WC.region ?_)
  refine lr 1 rfl trivial ?_
  refine WL.nil (WQ.thenNormal (WC.ret (WQ.thenRet ?_)))
  cases h
  exact WQ.rets tbOk hR [] (.inl rfl) rfl rfl (Le.refl _) (by exact ⟨rfl, trivial⟩) rfl rfl rfl rfl
 ·replace h := ite_f hc1 h
  refine WC.skip (WQ.thenNormal (WC.seq (WC.region ?_)))
  refine lr 4 rfl trivial ?_
  replace h := bnd h; obtain ⟨x, hxx, h⟩ := h
  refine WL.q [] rfl rfl rfl (q_idx tbOk rfl (by exact trivial) (by decide) (map_get (f := eStr) hxx)) ?_
  refine lr 2 rfl trivial ?_
  refine WL.nil (WQ.thenNormal (WC.seq (WC.region ?_)))
  refine lr 5 rfl trivial ?_
  obtain ⟨g1, h⟩ := grd h
  refine WL.q [] rfl rfl rfl (q_ev tbOk (.v (.sl 1 ((p.tokens.drop (1 : Int).toNat).map eStr))) rfl (by exact sideR) (by exact tdT)) ?_
  refine lr 3 rfl trivial ?_
  refine WL.nil (WQ.thenNormal (WC.seq (WC.region ?_)))
  refine lr 2 rfl trivial ?_
  refine WL.nil (WQ.thenNormal (WC.ret ?_))
  cases h
  exact WQ.rets tbOk hR [] (.inl rfl) rfl rfl (Le.refl _) (by exact ⟨rfl, trivial⟩) rfl rfl rfl rfl

theorem parAccept_con {wg : World} (hw : WG wg) {p : RuleParser} {token : Str} {r : Bool × RuleParser} (h : parAccept p token = some r) : Con Tryz.prog wg gl 60 [.p 0 0, .v (.str token)] [(0, .blk 78 [.v (.sl 1 (p.tokens.map eStr)), .v (.int .i64 p.depth)])] (.v (.bool r.1)) [(0, .blk 78 [.v (.sl 1 (r.2.tokens.map eStr)), .v (.int .i64 r.2.depth)])] := by
 unfold parAccept at h
 refine con_of_WC (S := slotsOf 0 _) Tryz.func60 rfl Tryz.ntmps60 rfl (fun t x hx => (slotsOf_get hx).2) ?_
 intro F L w ρ0 R hR
 show WC _ _ _ ⟨[(0, .p 0 0), (1, .v (.str token))], [(0, .blk 78 [.v (.sl 1 (p.tokens.map eStr)), .v (.int .i64 p.depth)])]⟩ _ _
 refine WC.seq (WC.region ?_)
 refine lr 1 rfl trivial ?_
 refine WL.nil (WQ.thenNormal (WC.seq (WC.seq (WC.region ?_))))
 refine lr 4 rfl trivial ?_
 refine WL.q [] rfl rfl rfl (q_ev tbOk (.v (.int .i64 (p.tokens.length : Int))) rfl (by exact trivial) (by exact lenT)) ?_
 refine lr 6 rfl (by exact sideR) ?_
 obtain ⟨g1, h⟩ := grd h
 refine WL.gq [] rfl rfl rfl rfl (fun hg => q_idx tbOk rfl (by exact sideR) (g1 hg).1 (map_getD (f := eStr) (g1 hg).2 (g1 hg).1)) ?_
 refine lr 4 rfl (by exact sideR) ?_
 refine WL.nil (WQ.thenNormal ?_)
 refine WC.cond rfl (fun hc1 => ?_) (fun hc1 => ?_)
 ·replace h := ite_t hc1 h
  refine WC.seq (WC.region ?_)
  refine lr 1 rfl trivial ?_
  refine WL.nil (WQ.thenNormal (WC.ret (WQ.thenRet ?_)))
  cases h
  exact WQ.rets tbOk hR [] (.inl rfl) rfl rfl (Le.refl _) (by exact ⟨rfl, trivial⟩) rfl rfl rfl rfl
 ·replace h := ite_f hc1 h
  refine WC.skip (WQ.thenNormal (WC.seq (WC.region ?_)))
  refine lr 5 rfl trivial ?_
  obtain ⟨g2, h⟩ := grd h
  refine WL.q [] rfl rfl rfl (q_ev tbOk (.v (.sl 1 ((p.tokens.drop (1 : Int).toNat).map eStr))) rfl (by exact sideR) (by exact tdT)) ?_
  refine lr 3 rfl trivial ?_
  refine WL.nil (WQ.thenNormal (WC.seq (WC.region ?_)))
  refine lr 1 rfl trivial ?_
  refine WL.nil (WQ.thenNormal (WC.ret ?_))
  cases h
  exact WQ.rets tbOk hR [] (.inl rfl) rfl rfl (Le.refl _) (by exact ⟨rfl, trivial⟩) rfl rfl rfl rfl

theorem ruleGroup_con {wg : World} (hw : WG wg) {kind : Int} {args : (List ApiRule)} {r : ApiRule} (h : ruleGroup kind args = some r) : Con Tryz.prog wg gl 61 [.v (.int .i64 kind), .v (.sl 7 (args.map eApiRule))] [] (.v (.agg [.int .i64 r.Kind, .int .i64 r.Digits, .sl 1 (r.Except.map eStr), .int .i64 r.Tolerance, .int .i64 r.Limit, .str r.Name, .sl 7 (r.Args.map eApiRule)])) [] := by
 unfold ruleGroup at h
 refine con_of_WC (S := slotsOf 0 _) Tryz.func61 rfl Tryz.ntmps61 rfl (fun t x hx => (slotsOf_get hx).2) ?_
 intro F L w ρ0 R hR
 show WC _ _ _ ⟨[(0, .v (.int .i64 kind)), (1, .v (.sl 7 (args.map eApiRule)))], []⟩ _ _
 refine WC.seq (WC.region ?_)
 refine lr 1 rfl trivial ?_
 refine WL.nil (WQ.thenNormal (WC.seq (WC.seq (WC.region ?_))))
 refine lr 1 rfl trivial ?_
 refine WL.q [] rfl rfl rfl (q_ev tbOk (.v (.int .i64 (args.length : Int))) rfl (by exact trivial) (by exact lenT)) ?_
 refine lr 1 rfl trivial ?_
 refine WL.nil (WQ.thenNormal ?_)
 refine WC.cond rfl (fun hc1 => ?_) (fun hc1 => ?_)
 ·replace h := ite_t hc1 h
  refine WC.seq (WC.region ?_)
  refine lr 1 rfl trivial ?_
  replace h := bnd h; obtain ⟨x, hxx, h⟩ := h
  refine WL.q [] rfl rfl rfl (q_idx tbOk rfl (by exact trivial) (by decide) (map_getE hxx (eApiRule_eq _))) ?_
  refine lr 2 rfl trivial ?_
  refine WL.nil (WQ.thenNormal (WC.ret (WQ.thenRet ?_)))
  cases h
  exact WQ.rets tbOk hR [] (.inl rfl) rfl rfl (Le.refl _) (by exact trivial) rfl rfl rfl rfl
 ·replace h := ite_f hc1 h
  refine WC.skip (WQ.thenNormal (WC.seq (WC.region ?_)))
  refine lr 4 rfl trivial ?_
  refine WL.nil (WQ.thenNormal (WC.ret ?_))
  cases h
  exact WQ.rets tbOk (r := .v (.agg [.int .i64 ((⟨kind, 0, [], 0, 0, [], args⟩ : ApiRule).Kind), .int .i64 ((⟨kind, 0, [], 0, 0, [], args⟩ : ApiRule).Digits), .sl 1 (((⟨kind, 0, [], 0, 0, [], args⟩ : ApiRule).Except).map eStr), .int .i64 ((⟨kind, 0, [], 0, 0, [], args⟩ : ApiRule).Tolerance), .int .i64 ((⟨kind, 0, [], 0, 0, [], args⟩ : ApiRule).Limit), .str ((⟨kind, 0, [], 0, 0, [], args⟩ : ApiRule).Name), .sl 7 (((⟨kind, 0, [], 0, 0, [], args⟩ : ApiRule).Args).map eApiRule)])) hR [] (.inl rfl) rfl rfl (Le.agg (.same (.same (.sl 1 (.same (.same (.same (.same .nil)))))))) (by exact trivial) rfl rfl rfl rfl

theorem parChange_con {wg : World} (hw : WG wg) {p : RuleParser} {r : ApiRule × RuleParser} (h : parChange p = some r) : Con Tryz.prog wg gl 92 [.p 0 0] [(0, .blk 78 [.v (.sl 1 (p.tokens.map eStr)), .v (.int .i64 p.depth)])] (.v (.agg [.int .i64 r.1.Kind, .int .i64 r.1.Digits, .sl 1 (r.1.Except.map eStr), .int .i64 r.1.Tolerance, .int .i64 r.1.Limit, .str r.1.Name, .sl 7 (r.1.Args.map eApiRule)])) [(0, .blk 78 [.v (.sl 1 (r.2.tokens.map eStr)), .v (.int .i64 r.2.depth)])] := by
 unfold parChange at h
 refine con_of_WC (S := slotsOf 0 _) Tryz.func92 rfl Tryz.ntmps92 rfl (fun t x hx => (slotsOf_get hx).2) ?_
 intro F L w ρ0 R hR
 show WC _ _ _ ⟨[(0, .p 0 0)], [(0, .blk 78 [.v (.sl 1 (p.tokens.map eStr)), .v (.int .i64 p.depth)])]⟩ _ _
 refine WC.seq (WC.region ?_)
 refine lr 1 rfl trivial ?_
 refine WL.nil (WQ.thenNormal (WC.seq (WC.region ?_)))
 refine lr 1 rfl trivial ?_
 replace h := bnd h; obtain ⟨v, hvv, h⟩ := h
 refine WL.callO [(0, 0)] [(0, 0)] [0] fn90 rfl rfl rfl rfl (by exact trivial) (parNext_con hw hvv) rfl rfl (by exact ⟨rfl, trivial⟩) rfl rfl rfl rfl rfl rfl ?_
 replace h := bnd h; obtain ⟨v2, hvv2, h⟩ := h
 refine WL.call0 fn105 rfl rfl rfl rfl (by exact trivial) rfl (atoiS_con hw hvv2) ?_
 refine lr 5 rfl trivial ?_
 refine WL.nil (WQ.thenNormal (WC.seq (WC.seq (WC.region ?_))))
 refine lr 2 rfl trivial ?_
 refine WL.nil (WQ.thenNormal ?_)
 refine WC.cond rfl (fun hc1 => ?_) (fun hc1 => ?_)
 ·replace h := ite_t hc1 h
  refine WC.seq (WC.region ?_)
  refine lr 2 rfl trivial ?_
  refine WL.nil (WQ.thenNormal (WC.ret (WQ.thenRet ?_)))
  cases h
  exact WQ.rets tbOk (r := .v (.agg [.int .i64 ((⟨0, 0, [], 0, 0, [], []⟩ : ApiRule).Kind), .int .i64 ((⟨0, 0, [], 0, 0, [], []⟩ : ApiRule).Digits), .sl 1 (((⟨0, 0, [], 0, 0, [], []⟩ : ApiRule).Except).map eStr), .int .i64 ((⟨0, 0, [], 0, 0, [], []⟩ : ApiRule).Tolerance), .int .i64 ((⟨0, 0, [], 0, 0, [], []⟩ : ApiRule).Limit), .str ((⟨0, 0, [], 0, 0, [], []⟩ : ApiRule).Name), .sl 7 (((⟨0, 0, [], 0, 0, [], []⟩ : ApiRule).Args).map eApiRule)])) hR [] (.inl rfl) rfl rfl (Le.agg (.same (.same (.sl 1 (.same (.same (.same (.sl 7 .nil)))))))) (by exact ⟨rfl, trivial⟩) rfl rfl rfl rfl
 ·replace h := ite_f hc1 h
  refine WC.skip (WQ.thenNormal (WC.seq (WC.region ?_)))
  refine lr 4 rfl trivial ?_
  refine WL.nil (WQ.thenNormal (WC.seq (WC.seq (WC.region ?_))))
  refine lr 1 rfl trivial ?_
  replace h := bnd h; obtain ⟨v3, hvv3, h⟩ := h
  refine WL.callO [(0, 0)] [(0, 0)] [0] fn60 rfl rfl rfl rfl (by exact trivial) (parAccept_con hw hvv3) rfl rfl (by exact ⟨rfl, trivial⟩) rfl rfl rfl rfl rfl rfl ?_
  refine WL.nil (WQ.thenNormal ?_)
  refine WC.thenCut (X := (List Str) × Int × (List Str)) (fun gG => ⟨[(5, .p 5 0), (2, .p 2 0), (0, .p 0 0)], [(0, .blk 78 [.v (.sl 1 (gG.1.map eStr)), .v (.int .i64 gG.2.1)]), (2, .blk 37 [.v (.int .i64 0), .v (.int .i64 0), .v (.raw (.slice none 0 0)), .v (.int .i64 0), .v (.int .i64 0), .v (.str []), .v (.raw (.slice none 0 0))]), (5, .blk 37 [.v (.int .i64 (2 : Int)), .v (.int .i64 v2.1), .v (.sl 1 (gG.2.2.map eStr)), .v (.int .i64 0), .v (.int .i64 0), .v (.str []), .v (.raw (.slice none 0 0))])]⟩) (fun gG => parChange_j1 v2 gG.1 gG.2.1 gG.2.2 = some r) ?_ ?_
  ·refine WC.cond rfl (fun hc3 => ?_) (fun hc3 => ?_)
   ·replace h := ite_t hc3 h
    refine WC.region ?_
    refine lr 1 rfl trivial ?_
    replace h := bnd h; obtain ⟨v7, hvv7, h⟩ := h
    refine WL.callO [(0, 0)] [(0, 0)] [0] fn90 rfl rfl rfl rfl (by exact trivial) (parNext_con hw hvv7) rfl rfl (by exact ⟨rfl, trivial⟩) rfl rfl rfl rfl rfl rfl ?_
    replace h := bnd h; obtain ⟨v8, hvv8, h⟩ := h
    refine WL.call0 fn106 rfl rfl rfl rfl (by exact trivial) rfl (splitS_con hw hvv8) ?_
    refine lr 2 rfl trivial ?_
    refine WL.nil ?_
    exact WQ.cut [] (v7.2.tokens, v7.2.depth, v8) ⟨(by exact ⟨rfl, rfl, rfl, trivial⟩), (by exact ⟨rfl, rfl, rfl, trivial⟩), rfl, rfl, rfl, rfl⟩ h
   ·replace h := ite_f hc3 h
    refine WC.skip ?_
    refine WQ.weakenO 5 (.blk 37 [.v (.int .i64 (2 : Int)), .v (.int .i64 v2.1), .v (.sl 1 ([].map eStr)), .v (.int .i64 0), .v (.int .i64 0), .v (.str []), .v (.raw (.slice none 0 0))]) rfl (LeO.blk (.cons (Le.refl _) (.cons (Le.refl _) (.cons (Le.nil 1) (.cons (Le.refl _) (.cons (Le.refl _) (.cons (Le.refl _) (.cons (Le.refl _) .nil)))))))) rfl ?_
    exact WQ.cut [] (v3.2.tokens, v3.2.depth, []) ⟨(by exact ⟨rfl, rfl, rfl, trivial⟩), (by exact ⟨rfl, rfl, rfl, trivial⟩), rfl, rfl, rfl, rfl⟩ h
  ·rintro ⟨c0_0, c0_1, c5_2⟩ h
   replace h : parChange_j1 v2 c0_0 c0_1 c5_2 = some _ := h
   unfold parChange_j1 at h
   show WC _ _ _ ⟨[(5, .p 5 0), (2, .p 2 0), (0, .p 0 0)], [(0, .blk 78 [.v (.sl 1 (c0_0.map eStr)), .v (.int .i64 c0_1)]), (2, .blk 37 [.v (.int .i64 0), .v (.int .i64 0), .v (.raw (.slice none 0 0)), .v (.int .i64 0), .v (.int .i64 0), .v (.str []), .v (.raw (.slice none 0 0))]), (5, .blk 37 [.v (.int .i64 (2 : Int)), .v (.int .i64 v2.1), .v (.sl 1 (c5_2.map eStr)), .v (.int .i64 0), .v (.int .i64 0), .v (.str []), .v (.raw (.slice none 0 0))])]⟩ _ _
   refine WC.seq (WC.seq (WC.region ?_))
   refine lr 1 rfl trivial ?_
   replace h := bnd h; obtain ⟨v4, hvv4, h⟩ := h
   refine WL.callO [(0, 0)] [(0, 0)] [0] fn60 rfl rfl rfl rfl (by exact trivial) (parAccept_con hw hvv4) rfl rfl (by exact ⟨rfl, trivial⟩) rfl rfl rfl rfl rfl rfl ?_
   refine WL.nil (WQ.thenNormal ?_)
   refine WC.thenCut (X := (List Str) × Int × Int) (fun gG => ⟨[(5, .p 5 0), (2, .p 2 0), (0, .p 0 0)], [(0, .blk 78 [.v (.sl 1 (gG.1.map eStr)), .v (.int .i64 gG.2.1)]), (2, .blk 37 [.v (.int .i64 0), .v (.int .i64 0), .v (.raw (.slice none 0 0)), .v (.int .i64 0), .v (.int .i64 0), .v (.str []), .v (.raw (.slice none 0 0))]), (5, .blk 37 [.v (.int .i64 (2 : Int)), .v (.int .i64 v2.1), .v (.sl 1 (c5_2.map eStr)), .v (.int .i64 gG.2.2), .v (.int .i64 0), .v (.str []), .v (.raw (.slice none 0 0))])]⟩) (fun gG => parChange_j2 v2 c5_2 gG.1 gG.2.1 gG.2.2 = some r) ?_ ?_
   ·refine WC.cond rfl (fun hc2 => ?_) (fun hc2 => ?_)
    ·replace h := ite_t hc2 h
     refine WC.region ?_
     refine lr 1 rfl trivial ?_
     replace h := bnd h; obtain ⟨v5, hvv5, h⟩ := h
     refine WL.callO [(0, 0)] [(0, 0)] [0] fn90 rfl rfl rfl rfl (by exact trivial) (parNext_con hw hvv5) rfl rfl (by exact ⟨rfl, trivial⟩) rfl rfl rfl rfl rfl rfl ?_
     replace h := bnd h; obtain ⟨v6, hvv6, h⟩ := h
     refine WL.call0 fn93 rfl rfl rfl rfl (by exact trivial) rfl (parsePercentage_con hw hvv6) ?_
     refine lr 2 rfl trivial ?_
     refine WL.nil ?_
     exact WQ.cut [] (v5.2.tokens, v5.2.depth, v6) ⟨(by exact ⟨rfl, rfl, rfl, trivial⟩), (by exact ⟨rfl, rfl, rfl, trivial⟩), rfl, rfl, rfl, rfl⟩ h
    ·replace h := ite_f hc2 h
     refine WC.skip ?_
     exact WQ.cut [] (v4.2.tokens, v4.2.depth, 0) ⟨(by exact ⟨rfl, rfl, rfl, trivial⟩), (by exact ⟨rfl, rfl, rfl, trivial⟩), rfl, rfl, rfl, rfl⟩ h
   ·rintro ⟨c0_02, c0_12, c5_3⟩ h
    replace h : parChange_j2 v2 c5_2 c0_02 c0_12 c5_3 = some _ := h
    unfold parChange_j2 at h
    show WC _ _ _ ⟨[(5, .p 5 0), (2, .p 2 0), (0, .p 0 0)], [(0, .blk 78 [.v (.sl 1 (c0_02.map eStr)), .v (.int .i64 c0_12)]), (2, .blk 37 [.v (.int .i64 0), .v (.int .i64 0), .v (.raw (.slice none 0 0)), .v (.int .i64 0), .v (.int .i64 0), .v (.str []), .v (.raw (.slice none 0 0))]), (5, .blk 37 [.v (.int .i64 (2 : Int)), .v (.int .i64 v2.1), .v (.sl 1 (c5_2.map eStr)), .v (.int .i64 c5_3), .v (.int .i64 0), .v (.str []), .v (.raw (.slice none 0 0))])]⟩ _ _
    refine WC.seq (WC.region ?_)
    refine lr 2 rfl trivial ?_
    refine WL.nil (WQ.thenNormal (WC.ret ?_))
    cases h
    exact WQ.rets tbOk (r := .v (.agg [.int .i64 ((⟨(2 : Int), v2.1, c5_2, c5_3, 0, [], []⟩ : ApiRule).Kind), .int .i64 ((⟨(2 : Int), v2.1, c5_2, c5_3, 0, [], []⟩ : ApiRule).Digits), .sl 1 (((⟨(2 : Int), v2.1, c5_2, c5_3, 0, [], []⟩ : ApiRule).Except).map eStr), .int .i64 ((⟨(2 : Int), v2.1, c5_2, c5_3, 0, [], []⟩ : ApiRule).Tolerance), .int .i64 ((⟨(2 : Int), v2.1, c5_2, c5_3, 0, [], []⟩ : ApiRule).Limit), .str ((⟨(2 : Int), v2.1, c5_2, c5_3, 0, [], []⟩ : ApiRule).Name), .sl 7 (((⟨(2 : Int), v2.1, c5_2, c5_3, 0, [], []⟩ : ApiRule).Args).map eApiRule)])) hR [] (.inl rfl) rfl rfl (Le.agg (.same (.same (.same (.same (.same (.same (.sl 7 .nil)))))))) (by exact ⟨rfl, trivial⟩) rfl rfl rfl rfl

theorem parElement_con {wg : World} (hw : WG wg) {p : RuleParser} {r : ApiRule × RuleParser} (h : parElement p = some r) : Con Tryz.prog wg gl 77 [.p 0 0] [(0, .blk 78 [.v (.sl 1 (p.tokens.map eStr)), .v (.int .i64 p.depth)])] (.v (.agg [.int .i64 r.1.Kind, .int .i64 r.1.Digits, .sl 1 (r.1.Except.map eStr), .int .i64 r.1.Tolerance, .int .i64 r.1.Limit, .str r.1.Name, .sl 7 (r.1.Args.map eApiRule)])) [(0, .blk 78 [.v (.sl 1 (r.2.tokens.map eStr)), .v (.int .i64 r.2.depth)])] := by
 unfold parElement at h
 refine con_of_WC (S := slotsOf 0 _) Tryz.func77 rfl Tryz.ntmps77 rfl (fun t x hx => (slotsOf_get hx).2) ?_
 intro F L w ρ0 R hR
 show WC _ _ _ ⟨[(0, .p 0 0)], [(0, .blk 78 [.v (.sl 1 (p.tokens.map eStr)), .v (.int .i64 p.depth)])]⟩ _ _
 refine WC.seq (WC.region ?_)
 refine lr 1 rfl trivial ?_
 refine WL.nil (WQ.thenNormal (WC.seq (WC.seq (WC.region ?_))))
 refine lr 1 rfl trivial ?_
 replace h := bnd h; obtain ⟨v, hvv, h⟩ := h
 refine WL.callO [(0, 0)] [(0, 0)] [0] fn90 rfl rfl rfl rfl (by exact trivial) (parNext_con hw hvv) rfl rfl (by exact ⟨rfl, trivial⟩) rfl rfl rfl rfl rfl rfl ?_
 refine WL.nil (WQ.thenNormal (WC.block (WC.seq (WC.region ?_))))
 refine lr 2 rfl trivial ?_
 refine WL.nil (WQ.thenNormal ?_)
 refine WC.cond rfl (fun hc1 => ?_) (fun hc1 => ?_)
 ·replace h := ite_t hc1 h
  refine WC.seq ?_
  cases h
 ·replace h := ite_f hc1 h
  refine WC.seq (WC.region ?_)
  refine lr 2 rfl trivial ?_
  refine WL.nil (WQ.thenNormal ?_)
  refine WC.cond rfl (fun hc2 => ?_) (fun hc2 => ?_)
  ·replace h := ite_t hc2 h
   refine WC.seq (WC.region ?_)
   refine lr 2 rfl trivial ?_
   refine WL.nil (WQ.thenNormal (WC.ret (WQ.blockRet (WQ.thenRet ?_))))
   cases h
   exact WQ.rets tbOk (r := .v (.agg [.int .i64 ((⟨(1 : Int), 0, [], 0, 0, [], []⟩ : ApiRule).Kind), .int .i64 ((⟨(1 : Int), 0, [], 0, 0, [], []⟩ : ApiRule).Digits), .sl 1 (((⟨(1 : Int), 0, [], 0, 0, [], []⟩ : ApiRule).Except).map eStr), .int .i64 ((⟨(1 : Int), 0, [], 0, 0, [], []⟩ : ApiRule).Tolerance), .int .i64 ((⟨(1 : Int), 0, [], 0, 0, [], []⟩ : ApiRule).Limit), .str ((⟨(1 : Int), 0, [], 0, 0, [], []⟩ : ApiRule).Name), .sl 7 (((⟨(1 : Int), 0, [], 0, 0, [], []⟩ : ApiRule).Args).map eApiRule)])) hR [] (.inl rfl) rfl rfl (Le.agg (.same (.same (.sl 1 (.same (.same (.same (.sl 7 .nil)))))))) (by exact ⟨rfl, trivial⟩) rfl rfl rfl rfl
  ·replace h := ite_f hc2 h
   refine WC.seq (WC.region ?_)
   refine lr 2 rfl trivial ?_
   refine WL.nil (WQ.thenNormal ?_)
   refine WC.cond rfl (fun hc3 => ?_) (fun hc3 => ?_)
   ·replace h := ite_t hc3 h
    refine WC.seq (WC.region ?_)
    refine lr 1 rfl trivial ?_
    replace h := bnd h; obtain ⟨v2, hvv2, h⟩ := h
    refine WL.callO [(0, 0)] [(0, 0)] [0] fn92 rfl rfl rfl rfl (by exact trivial) (parChange_con hw hvv2) rfl rfl (by exact ⟨rfl, trivial⟩) rfl rfl rfl rfl rfl rfl ?_
    refine lr 1 rfl trivial ?_
    refine WL.nil (WQ.thenNormal (WC.ret (WQ.blockRet (WQ.thenRet ?_))))
    cases h
    exact WQ.rets tbOk hR [] (.inl rfl) rfl rfl (Le.refl _) (by exact ⟨rfl, trivial⟩) rfl rfl rfl rfl
   ·replace h := ite_f hc3 h
    refine WC.seq (WC.region ?_)
    refine lr 2 rfl trivial ?_
    refine WL.nil (WQ.thenNormal ?_)
    refine WC.cond rfl (fun hc4 => ?_) (fun hc4 => ?_)
    ·replace h := ite_t hc4 h
     refine WC.seq (WC.region ?_)
     refine lr 1 rfl trivial ?_
     replace h := bnd h; obtain ⟨v3, hvv3, h⟩ := h
     refine WL.callO [(0, 0)] [(0, 0)] [0] fn90 rfl rfl rfl rfl (by exact trivial) (parNext_con hw hvv3) rfl rfl (by exact ⟨rfl, trivial⟩) rfl rfl rfl rfl rfl rfl ?_
     replace h := bnd h; obtain ⟨v4, hvv4, h⟩ := h
     refine WL.call0 fn93 rfl rfl rfl rfl (by exact trivial) rfl (parsePercentage_con hw hvv4) ?_
     refine lr 2 rfl trivial ?_
     refine WL.nil (WQ.thenNormal (WC.ret (WQ.blockRet (WQ.thenRet ?_))))
     cases h
     exact WQ.rets tbOk (r := .v (.agg [.int .i64 ((⟨(3 : Int), 0, [], 0, v4, [], []⟩ : ApiRule).Kind), .int .i64 ((⟨(3 : Int), 0, [], 0, v4, [], []⟩ : ApiRule).Digits), .sl 1 (((⟨(3 : Int), 0, [], 0, v4, [], []⟩ : ApiRule).Except).map eStr), .int .i64 ((⟨(3 : Int), 0, [], 0, v4, [], []⟩ : ApiRule).Tolerance), .int .i64 ((⟨(3 : Int), 0, [], 0, v4, [], []⟩ : ApiRule).Limit), .str ((⟨(3 : Int), 0, [], 0, v4, [], []⟩ : ApiRule).Name), .sl 7 (((⟨(3 : Int), 0, [], 0, v4, [], []⟩ : ApiRule).Args).map eApiRule)])) hR [] (.inl rfl) rfl rfl (Le.agg (.same (.same (.sl 1 (.same (.same (.same (.sl 7 .nil)))))))) (by exact ⟨rfl, trivial⟩) rfl rfl rfl rfl
    ·replace h := ite_f hc4 h
     refine WC.seq (WC.region ?_)
     refine lr 2 rfl trivial ?_
     refine WL.nil (WQ.thenNormal ?_)
     refine WC.cond rfl (fun hc5 => ?_) (fun hc5 => ?_)
     ·replace h := ite_t hc5 h
      refine WC.seq (WC.region ?_)
      refine lr 1 rfl trivial ?_
      replace h := bnd h; obtain ⟨v5, hvv5, h⟩ := h
      refine WL.callO [(0, 0)] [(0, 0)] [0] fn90 rfl rfl rfl rfl (by exact trivial) (parNext_con hw hvv5) rfl rfl (by exact ⟨rfl, trivial⟩) rfl rfl rfl rfl rfl rfl ?_
      refine lr 2 rfl trivial ?_
      refine WL.nil (WQ.thenNormal (WC.ret (WQ.blockRet (WQ.thenRet ?_))))
      cases h
      exact WQ.rets tbOk (r := .v (.agg [.int .i64 ((⟨(4 : Int), 0, [], 0, 0, v5.1, []⟩ : ApiRule).Kind), .int .i64 ((⟨(4 : Int), 0, [], 0, 0, v5.1, []⟩ : ApiRule).Digits), .sl 1 (((⟨(4 : Int), 0, [], 0, 0, v5.1, []⟩ : ApiRule).Except).map eStr), .int .i64 ((⟨(4 : Int), 0, [], 0, 0, v5.1, []⟩ : ApiRule).Tolerance), .int .i64 ((⟨(4 : Int), 0, [], 0, 0, v5.1, []⟩ : ApiRule).Limit), .str ((⟨(4 : Int), 0, [], 0, 0, v5.1, []⟩ : ApiRule).Name), .sl 7 (((⟨(4 : Int), 0, [], 0, 0, v5.1, []⟩ : ApiRule).Args).map eApiRule)])) hR [] (.inl rfl) rfl rfl (Le.agg (.same (.same (.sl 1 (.same (.same (.same (.sl 7 .nil)))))))) (by exact ⟨rfl, trivial⟩) rfl rfl rfl rfl
     ·replace h := ite_f hc5 h
      refine WC.skip (WQ.blockNormal (WQ.thenNormal (WC.seq (WC.region ?_))))
      refine lr 2 rfl trivial ?_
      refine WL.nil (WQ.thenNormal (WC.ret ?_))
      cases h
      exact WQ.rets tbOk (r := .v (.agg [.int .i64 ((⟨0, 0, [], 0, 0, [], []⟩ : ApiRule).Kind), .int .i64 ((⟨0, 0, [], 0, 0, [], []⟩ : ApiRule).Digits), .sl 1 (((⟨0, 0, [], 0, 0, [], []⟩ : ApiRule).Except).map eStr), .int .i64 ((⟨0, 0, [], 0, 0, [], []⟩ : ApiRule).Tolerance), .int .i64 ((⟨0, 0, [], 0, 0, [], []⟩ : ApiRule).Limit), .str ((⟨0, 0, [], 0, 0, [], []⟩ : ApiRule).Name), .sl 7 (((⟨0, 0, [], 0, 0, [], []⟩ : ApiRule).Args).map eApiRule)])) hR [] (.inl rfl) rfl rfl (Le.agg (.same (.same (.sl 1 (.same (.same (.same (.sl 7 .nil)))))))) (by exact ⟨rfl, trivial⟩) rfl rfl rfl rfl

theorem parComb_con {wg : World} (hw : WG wg) {p : RuleParser} {r : ApiRule × RuleParser} (h : parComb p = some r) : Con Tryz.prog wg gl 59 [.p 0 0] [(0, .blk 78 [.v (.sl 1 (p.tokens.map eStr)), .v (.int .i64 p.depth)])] (.v (.agg [.int .i64 r.1.Kind, .int .i64 r.1.Digits, .sl 1 (r.1.Except.map eStr), .int .i64 r.1.Tolerance, .int .i64 r.1.Limit, .str r.1.Name, .sl 7 (r.1.Args.map eApiRule)])) [(0, .blk 78 [.v (.sl 1 (r.2.tokens.map eStr)), .v (.int .i64 r.2.depth)])] := by
 unfold parComb at h
 refine con_of_WC (S := slotsOf 0 _) Tryz.func59 rfl Tryz.ntmps59 rfl (fun t x hx => (slotsOf_get hx).2) ?_
 intro F L w ρ0 R hR
 show WC _ _ _ ⟨[(0, .p 0 0)], [(0, .blk 78 [.v (.sl 1 (p.tokens.map eStr)), .v (.int .i64 p.depth)])]⟩ _ _
 refine WC.seq (WC.region ?_)
 refine lr 1 rfl trivial ?_
 refine WL.nil (WQ.thenNormal (WC.seq (WC.region ?_)))
 refine lr 1 rfl trivial ?_
 replace h := bnd h; obtain ⟨v, hvv, h⟩ := h
 refine WL.callO [(0, 0)] [(0, 0)] [0] fn77 rfl rfl rfl rfl (by exact trivial) (parElement_con hw hvv) rfl rfl (by exact ⟨rfl, trivial⟩) rfl rfl rfl rfl rfl rfl ?_
 refine WL.buildRow tbOk ([v.1].map eApiRule) rfl rfl rfl rfl (by exact trivial) rfl (by simp only [List.map_cons, List.map_nil, eApiRule_eq]) ?_
 refine lr 1 rfl trivial ?_
 refine WL.nil (WQ.thenNormal (WC.seq ?_))
 refine WC.thenCut (X := (List ApiRule) × (List Str) × Int) (fun gG => ⟨[(3, .r 1003), (2, .p 2 0), (0, .p 0 0)], [(1003, .row 37 7 (gG.1.map eApiRule)), (0, .blk 78 [.v (.sl 1 (gG.2.1.map eStr)), .v (.int .i64 gG.2.2)]), (2, .blk 37 [.v (.int .i64 0), .v (.int .i64 0), .v (.raw (.slice none 0 0)), .v (.int .i64 0), .v (.int .i64 0), .v (.str []), .v (.raw (.slice none 0 0))])]⟩) (fun gG => parComb_j1 gG.1 gG.2.1 gG.2.2 = some r) ?_ ?_
 ·refine WC.block ?_
  obtain ⟨eQ1, hl1, hk1⟩ := bnd h
  clear h
  refine WC.loop (σ := (List ApiRule) × (List Str) × Int) (τ := ((List ApiRule) × (List Str) × Int)) (fun sS => ⟨[(3, .r 1003), (2, .p 2 0), (0, .p 0 0)], [(1003, .row 37 7 (sS.1.map eApiRule)), (0, .blk 78 [.v (.sl 1 (sS.2.1.map eStr)), .v (.int .i64 sS.2.2)]), (2, .blk 37 [.v (.int .i64 0), .v (.int .i64 0), .v (.raw (.slice none 0 0)), .v (.int .i64 0), .v (.int .i64 0), .v (.str []), .v (.raw (.slice none 0 0))])]⟩) (parComb_b1) [(1003, 6)] ([v.1], v.2.tokens, v.2.depth) hl1 ⟨(by exact ⟨rfl, rfl, rfl, trivial⟩), (by exact ⟨rfl, rfl, rfl, trivial⟩), rfl, rfl, rfl, rfl⟩ ?_
  rintro ⟨args2, c0_02, c0_12⟩ m hn1 he1 hx1
  obtain ⟨o1, hf1⟩ := some_of hx1
  have h := hf1
  unfold parComb_b1 at h
  show WC _ _ _ ⟨[(3, .r 1003), (2, .p 2 0), (0, .p 0 0)], [(1003, .row 37 7 (args2.map eApiRule)), (0, .blk 78 [.v (.sl 1 (c0_02.map eStr)), .v (.int .i64 c0_12)]), (2, .blk 37 [.v (.int .i64 0), .v (.int .i64 0), .v (.raw (.slice none 0 0)), .v (.int .i64 0), .v (.int .i64 0), .v (.str []), .v (.raw (.slice none 0 0))])]⟩ _ _
  refine WC.seq (WC.seq (WC.region ?_))
  refine lr 1 rfl trivial ?_
  replace h := bnd h; obtain ⟨v5, hvv5, h⟩ := h
  refine WL.callO [(0, 0)] [(0, 0)] [0] fn60 rfl rfl rfl rfl (by exact trivial) (parAccept_con hw hvv5) rfl rfl (by exact ⟨rfl, trivial⟩) rfl rfl rfl rfl rfl rfl ?_
  refine WL.nil (WQ.thenNormal ?_)
  refine WC.cond rfl (fun hc1 => ?_) (fun hc1 => ?_)
  ·replace h := ite_t hc1 h
   refine WC.skip (WQ.thenNormal (WC.block (WC.region ?_)))
   refine lr 2 rfl trivial ?_
   replace h := bnd h; obtain ⟨v6, hvv6, h⟩ := h
   refine WL.callO [(0, 0)] [(0, 0)] [0] fn77 rfl rfl rfl rfl (by exact trivial) (parElement_con hw hvv6) rfl rfl (by exact ⟨rfl, trivial⟩) rfl rfl rfl rfl rfl rfl ?_
   refine WL.mkLe tbOk (.v (.sl 7 ([v6.1].map eApiRule))) rfl (by exact trivial) (Le.of_eq (by simp only [List.map_cons, List.map_nil, eApiRule_eq])) ?_
   obtain ⟨g1, h⟩ := grd h
   refine WL.append tbOk ((args2 ++ [v6.1]).map eApiRule) [13, 1003] ap35 rfl rfl rfl rfl (fun _ e => by cases e; rfl) (by exact trivial) (map_cells (f := eApiRule) (xs := [v6.1]) fun _ => by rw [eApiRule_eq]; rfl) (by have := g1; simp only [List.length_map, List.length_nil, List.length_cons] at this ⊢; omega) rfl rfl (by simp only [List.map_append]; try rfl) rfl ?_
   refine lr 1 rfl trivial ?_
   refine WL.nil (WQ.blockNormal ?_)
   cases h
   exact WQ.next [(1003, 13)] ((args2 ++ [v6.1]), v6.2.tokens, v6.2.depth) ⟨(by exact ⟨rfl, rfl, rfl, trivial⟩), (by exact ⟨rfl, rfl, rfl, trivial⟩), rfl, rfl, rfl, rfl⟩ (hn1 _ hf1)
  ·replace h := ite_f hc1 h
   refine WC.exit (WQ.thenExit ?_)
   cases h
   have he := he1 _ hf1
   subst he
   replace h := hk1
   try dsimp only at h
   refine WQ.thenExit (WQ.blockExit ?_)
   exact WQ.cut [] (args2, v5.2.tokens, v5.2.depth) ⟨(by exact ⟨rfl, rfl, rfl, trivial⟩), (by exact ⟨rfl, rfl, rfl, trivial⟩), rfl, rfl, rfl, rfl⟩ h
 ·rintro ⟨args, c0_0, c0_1⟩ h
  replace h : parComb_j1 args c0_0 c0_1 = some _ := h
  unfold parComb_j1 at h
  show WC _ _ _ ⟨[(3, .r 1003), (2, .p 2 0), (0, .p 0 0)], [(1003, .row 37 7 (args.map eApiRule)), (0, .blk 78 [.v (.sl 1 (c0_0.map eStr)), .v (.int .i64 c0_1)]), (2, .blk 37 [.v (.int .i64 0), .v (.int .i64 0), .v (.raw (.slice none 0 0)), .v (.int .i64 0), .v (.int .i64 0), .v (.str []), .v (.raw (.slice none 0 0))])]⟩ _ _
  refine WC.seq ?_
  refine WC.publish 1003 rfl rfl ?_
  refine WC.region ?_
  refine lr 1 rfl trivial ?_
  replace h := bnd h; obtain ⟨v2, hvv2, h⟩ := h
  refine WL.call0 fn61 rfl rfl rfl rfl (by exact trivial) rfl (ruleGroup_con hw hvv2) ?_
  refine lr 1 rfl trivial ?_
  refine WL.nil (WQ.thenNormal (WC.ret ?_))
  cases h
  exact WQ.rets tbOk hR [] (.inl rfl) rfl rfl (Le.refl _) (by exact ⟨rfl, trivial⟩) rfl rfl rfl rfl

theorem parAlt_con {wg : World} (hw : WG wg) {p : RuleParser} {r : ApiRule × RuleParser} (h : parAlt p = some r) : Con Tryz.prog wg gl 47 [.p 0 0] [(0, .blk 78 [.v (.sl 1 (p.tokens.map eStr)), .v (.int .i64 p.depth)])] (.v (.agg [.int .i64 r.1.Kind, .int .i64 r.1.Digits, .sl 1 (r.1.Except.map eStr), .int .i64 r.1.Tolerance, .int .i64 r.1.Limit, .str r.1.Name, .sl 7 (r.1.Args.map eApiRule)])) [(0, .blk 78 [.v (.sl 1 (r.2.tokens.map eStr)), .v (.int .i64 r.2.depth)])] := by
 unfold parAlt at h
 refine con_of_WC (S := slotsOf 0 _) Tryz.func47 rfl Tryz.ntmps47 rfl (fun t x hx => (slotsOf_get hx).2) ?_
 intro F L w ρ0 R hR
 show WC _ _ _ ⟨[(0, .p 0 0)], [(0, .blk 78 [.v (.sl 1 (p.tokens.map eStr)), .v (.int .i64 p.depth)])]⟩ _ _
 refine WC.seq (WC.region ?_)
 refine lr 1 rfl trivial ?_
 refine WL.nil (WQ.thenNormal (WC.seq (WC.region ?_)))
 refine lr 1 rfl trivial ?_
 replace h := bnd h; obtain ⟨v, hvv, h⟩ := h
 refine WL.callO [(0, 0)] [(0, 0)] [0] fn59 rfl rfl rfl rfl (by exact trivial) (parComb_con hw hvv) rfl rfl (by exact ⟨rfl, trivial⟩) rfl rfl rfl rfl rfl rfl ?_
 refine WL.buildRow tbOk ([v.1].map eApiRule) rfl rfl rfl rfl (by exact trivial) rfl (by simp only [List.map_cons, List.map_nil, eApiRule_eq]) ?_
 refine lr 1 rfl trivial ?_
 refine WL.nil (WQ.thenNormal (WC.seq ?_))
 refine WC.thenCut (X := (List ApiRule) × (List Str) × Int) (fun gG => ⟨[(3, .r 1003), (2, .p 2 0), (0, .p 0 0)], [(1003, .row 37 7 (gG.1.map eApiRule)), (0, .blk 78 [.v (.sl 1 (gG.2.1.map eStr)), .v (.int .i64 gG.2.2)]), (2, .blk 37 [.v (.int .i64 0), .v (.int .i64 0), .v (.raw (.slice none 0 0)), .v (.int .i64 0), .v (.int .i64 0), .v (.str []), .v (.raw (.slice none 0 0))])]⟩) (fun gG => parAlt_j1 gG.1 gG.2.1 gG.2.2 = some r) ?_ ?_
 ·refine WC.block ?_
  obtain ⟨eQ1, hl1, hk1⟩ := bnd h
  clear h
  refine WC.loop (σ := (List ApiRule) × (List Str) × Int) (τ := ((List ApiRule) × (List Str) × Int)) (fun sS => ⟨[(3, .r 1003), (2, .p 2 0), (0, .p 0 0)], [(1003, .row 37 7 (sS.1.map eApiRule)), (0, .blk 78 [.v (.sl 1 (sS.2.1.map eStr)), .v (.int .i64 sS.2.2)]), (2, .blk 37 [.v (.int .i64 0), .v (.int .i64 0), .v (.raw (.slice none 0 0)), .v (.int .i64 0), .v (.int .i64 0), .v (.str []), .v (.raw (.slice none 0 0))])]⟩) (parAlt_b1) [(1003, 6)] ([v.1], v.2.tokens, v.2.depth) hl1 ⟨(by exact ⟨rfl, rfl, rfl, trivial⟩), (by exact ⟨rfl, rfl, rfl, trivial⟩), rfl, rfl, rfl, rfl⟩ ?_
  rintro ⟨args2, c0_02, c0_12⟩ m hn1 he1 hx1
  obtain ⟨o1, hf1⟩ := some_of hx1
  have h := hf1
  unfold parAlt_b1 at h
  show WC _ _ _ ⟨[(3, .r 1003), (2, .p 2 0), (0, .p 0 0)], [(1003, .row 37 7 (args2.map eApiRule)), (0, .blk 78 [.v (.sl 1 (c0_02.map eStr)), .v (.int .i64 c0_12)]), (2, .blk 37 [.v (.int .i64 0), .v (.int .i64 0), .v (.raw (.slice none 0 0)), .v (.int .i64 0), .v (.int .i64 0), .v (.str []), .v (.raw (.slice none 0 0))])]⟩ _ _
  refine WC.seq (WC.seq (WC.region ?_))
  refine lr 1 rfl trivial ?_
  replace h := bnd h; obtain ⟨v5, hvv5, h⟩ := h
  refine WL.callO [(0, 0)] [(0, 0)] [0] fn60 rfl rfl rfl rfl (by exact trivial) (parAccept_con hw hvv5) rfl rfl (by exact ⟨rfl, trivial⟩) rfl rfl rfl rfl rfl rfl ?_
  refine WL.nil (WQ.thenNormal ?_)
  refine WC.cond rfl (fun hc1 => ?_) (fun hc1 => ?_)
  ·replace h := ite_t hc1 h
   refine WC.skip (WQ.thenNormal (WC.block (WC.region ?_)))
   refine lr 2 rfl trivial ?_
   replace h := bnd h; obtain ⟨v6, hvv6, h⟩ := h
   refine WL.callO [(0, 0)] [(0, 0)] [0] fn59 rfl rfl rfl rfl (by exact trivial) (parComb_con hw hvv6) rfl rfl (by exact ⟨rfl, trivial⟩) rfl rfl rfl rfl rfl rfl ?_
   refine WL.mkLe tbOk (.v (.sl 7 ([v6.1].map eApiRule))) rfl (by exact trivial) (Le.of_eq (by simp only [List.map_cons, List.map_nil, eApiRule_eq])) ?_
   obtain ⟨g1, h⟩ := grd h
   refine WL.append tbOk ((args2 ++ [v6.1]).map eApiRule) [13, 1003] ap35 rfl rfl rfl rfl (fun _ e => by cases e; rfl) (by exact trivial) (map_cells (f := eApiRule) (xs := [v6.1]) fun _ => by rw [eApiRule_eq]; rfl) (by have := g1; simp only [List.length_map, List.length_nil, List.length_cons] at this ⊢; omega) rfl rfl (by simp only [List.map_append]; try rfl) rfl ?_
   refine lr 1 rfl trivial ?_
   refine WL.nil (WQ.blockNormal ?_)
   cases h
   exact WQ.next [(1003, 13)] ((args2 ++ [v6.1]), v6.2.tokens, v6.2.depth) ⟨(by exact ⟨rfl, rfl, rfl, trivial⟩), (by exact ⟨rfl, rfl, rfl, trivial⟩), rfl, rfl, rfl, rfl⟩ (hn1 _ hf1)
  ·replace h := ite_f hc1 h
   refine WC.exit (WQ.thenExit ?_)
   cases h
   have he := he1 _ hf1
   subst he
   replace h := hk1
   try dsimp only at h
   refine WQ.thenExit (WQ.blockExit ?_)
   exact WQ.cut [] (args2, v5.2.tokens, v5.2.depth) ⟨(by exact ⟨rfl, rfl, rfl, trivial⟩), (by exact ⟨rfl, rfl, rfl, trivial⟩), rfl, rfl, rfl, rfl⟩ h
 ·rintro ⟨args, c0_0, c0_1⟩ h
  replace h : parAlt_j1 args c0_0 c0_1 = some _ := h
  unfold parAlt_j1 at h
  show WC _ _ _ ⟨[(3, .r 1003), (2, .p 2 0), (0, .p 0 0)], [(1003, .row 37 7 (args.map eApiRule)), (0, .blk 78 [.v (.sl 1 (c0_0.map eStr)), .v (.int .i64 c0_1)]), (2, .blk 37 [.v (.int .i64 0), .v (.int .i64 0), .v (.raw (.slice none 0 0)), .v (.int .i64 0), .v (.int .i64 0), .v (.str []), .v (.raw (.slice none 0 0))])]⟩ _ _
  refine WC.seq ?_
  refine WC.publish 1003 rfl rfl ?_
  refine WC.region ?_
  refine lr 1 rfl trivial ?_
  replace h := bnd h; obtain ⟨v2, hvv2, h⟩ := h
  refine WL.call0 fn61 rfl rfl rfl rfl (by exact trivial) rfl (ruleGroup_con hw hvv2) ?_
  refine lr 1 rfl trivial ?_
  refine WL.nil (WQ.thenNormal (WC.ret ?_))
  cases h
  exact WQ.rets tbOk hR [] (.inl rfl) rfl rfl (Le.refl _) (by exact ⟨rfl, trivial⟩) rfl rfl rfl rfl

theorem ruleParse_con {wg : World} (hw : WG wg) {s : Str} {r : ApiRule × Int} (h : ruleParse s = some r) : Con Tryz.prog wg gl 31 [.v (.str s)] [] (.tup [.v (.agg [.int .i64 r.1.Kind, .int .i64 r.1.Digits, .sl 1 (r.1.Except.map eStr), .int .i64 r.1.Tolerance, .int .i64 r.1.Limit, .str r.1.Name, .sl 7 (r.1.Args.map eApiRule)]), .v (.int .i64 r.2)]) [] := by
 unfold ruleParse at h
 refine con_of_WC (S := slotsOf 0 _) Tryz.func31 rfl Tryz.ntmps31 rfl (fun t x hx => (slotsOf_get hx).2) ?_
 intro F L w ρ0 R hR
 show WC _ _ _ ⟨[(0, .v (.str s))], []⟩ _ _
 refine WC.seq (WC.region ?_)
 refine lr 2 rfl trivial ?_
 refine WL.nil (WQ.thenNormal (WC.seq (WC.region ?_)))
 refine lr 1 rfl trivial ?_
 replace h := bnd h; obtain ⟨v, hvv, h⟩ := h
 refine WL.call0 fn46 rfl rfl rfl rfl (by exact trivial) rfl (tokensOf_con hw hvv) ?_
 refine lr 3 rfl trivial ?_
 refine WL.nil (WQ.thenNormal (WC.seq (WC.region ?_)))
 refine lr 1 rfl trivial ?_
 replace h := bnd h; obtain ⟨v2, hvv2, h⟩ := h
 refine WL.callO [(0, 9)] [(0, 9)] [9] fn47 rfl rfl rfl rfl (by exact trivial) (parAlt_con hw hvv2) rfl rfl (by exact ⟨rfl, trivial⟩) rfl rfl rfl rfl rfl rfl ?_
 refine lr 2 rfl trivial ?_
 refine WL.nil (WQ.thenNormal (WC.seq (WC.seq (WC.region ?_))))
 refine lr 1 rfl trivial ?_
 replace h := bnd h; obtain ⟨v3, hvv3, h⟩ := h
 refine WL.call0 fn23 rfl rfl rfl rfl (by exact trivial) rfl (ruleValidate_con hw hvv3) ?_
 refine lr 3 rfl (by exact sideR) ?_
 replace h := bnd h; obtain ⟨v4, hvv4, h⟩ := h
 refine WL.gcall0 fn32 rfl rfl rfl rfl rfl (fun _ => (by exact sideR)) rfl (fun hg => (ruleFormat_con hw (ite_t hg hvv4))) ?_
 refine lr 3 rfl (by exact sideR) ?_
 refine WL.nil (WQ.thenNormal ?_)
 refine WC.cond rfl (fun hc1 => ?_) (fun hc1 => ?_)
 ·replace h := ite_t hc1 h
  refine WC.seq (WC.region ?_)
  refine lr 3 rfl trivial ?_
  refine WL.nil (WQ.thenNormal (WC.ret (WQ.thenRet ?_)))
  cases h
  exact WQ.rets tbOk (r := .tup [.v (.agg [.int .i64 ((⟨0, 0, [], 0, 0, [], []⟩ : ApiRule).Kind), .int .i64 ((⟨0, 0, [], 0, 0, [], []⟩ : ApiRule).Digits), .sl 1 (((⟨0, 0, [], 0, 0, [], []⟩ : ApiRule).Except).map eStr), .int .i64 ((⟨0, 0, [], 0, 0, [], []⟩ : ApiRule).Tolerance), .int .i64 ((⟨0, 0, [], 0, 0, [], []⟩ : ApiRule).Limit), .str ((⟨0, 0, [], 0, 0, [], []⟩ : ApiRule).Name), .sl 7 (((⟨0, 0, [], 0, 0, [], []⟩ : ApiRule).Args).map eApiRule)]), .v (.int .i64 (4 : Int))]) hR [] (.inl rfl) rfl rfl (Le.tup (.cons (Le.agg (.same (.same (.sl 1 (.same (.same (.same (.sl 7 .nil)))))))) (.cons (Le.refl _) .nil))) (by exact trivial) rfl rfl rfl rfl
 ·replace h := ite_f hc1 h
  refine WC.skip (WQ.thenNormal (WC.seq (WC.region ?_)))
  refine lr 3 rfl trivial ?_
  refine WL.nil (WQ.thenNormal (WC.ret ?_))
  cases h
  exact WQ.rets tbOk (r := .tup [.v (.agg [.int .i64 v2.1.Kind, .int .i64 v2.1.Digits, .sl 1 (v2.1.Except.map eStr), .int .i64 v2.1.Tolerance, .int .i64 v2.1.Limit, .str v2.1.Name, .sl 7 (v2.1.Args.map eApiRule)]), .v (.int .i64 (0 : Int))]) hR [] (.inl rfl) rfl rfl (Le.tup (.cons (Le.refl _) (.cons (Le.refl _) .nil))) (by exact trivial) rfl rfl rfl rfl

end Go.Proofs.YtfeleiepnifbcaaGreatDoor
