/- Contracts: the program's functions compute the plain ones; by program (gen.py). -/
import Derived.Test.YtfeleiepnifbcaaGreatDoorLib
import Derived.Test.YtfeleiepnifbcaaGreatDoorPe
import Derived.Test.YtfeleiepnifbcaaGreatDoorCa
import Derived.Test.YtfeleiepnifbcaaGreatDoorCb
import Derived.Test.YtfeleiepnifbcaaGreatDoorCc
set_option linter.unusedVariables false
set_option linter.unusedSimpArgs false
set_option maxHeartbeats 4000000
set_option maxRecDepth 20000
namespace Go.Proofs.YtfeleiepnifbcaaGreatDoor
open Go.V Go.C

theorem exactMul_con {wg : World} (hw : WG wg) {a : Int} {b : Int} {r : ExactWide} (h : exactMul a b = some r) : Con Tryz.prog wg gl 178 [.v (.int .u64 a), .v (.int .u64 b)] [] (.v (.agg [.int .u64 r.Hi, .int .u64 r.Lo])) [] := by
 unfold exactMul at h
 refine con_of_WC (S := slotsOf 0 _) Tryz.func178 rfl Tryz.ntmps178 rfl (fun t x hx => (slotsOf_get hx).2) ?_
 intro F L w ρ0 R hR
 show WC _ _ _ ⟨[(0, .v (.int .u64 a)), (1, .v (.int .u64 b))], []⟩ _ _
 refine WC.seq (WC.region ?_)
 refine lr 1 rfl trivial ?_
 refine WL.nil (WQ.thenNormal (WC.seq (WC.region ?_)))
 refine lr 2 rfl trivial ?_
 replace h := bnd h; obtain ⟨v, hvv, h⟩ := h
 refine WL.call0 fn183 rfl rfl rfl rfl (by exact trivial) rfl (mul64_con hw hvv) ?_
 refine lr 5 rfl trivial ?_
 refine WL.nil (WQ.thenNormal (WC.seq (WC.region ?_)))
 refine lr 4 rfl trivial ?_
 refine WL.nil (WQ.thenNormal (WC.ret ?_))
 cases h
 exact WQ.rets tbOk hR [] (.inl rfl) rfl rfl (Le.refl _) (by exact trivial) rfl rfl rfl rfl

theorem exactCmp_con {wg : World} (hw : WG wg) {a : ExactWide} {b : ExactWide} {r : Int} (h : exactCmp a b = some r) : Con Tryz.prog wg gl 179 [.v (.agg [.int .u64 a.Hi, .int .u64 a.Lo]), .v (.agg [.int .u64 b.Hi, .int .u64 b.Lo])] [] (.v (.int .i64 r)) [] := by
 unfold exactCmp at h
 refine con_of_WC (S := slotsOf 0 _) Tryz.func179 rfl Tryz.ntmps179 rfl (fun t x hx => (slotsOf_get hx).2) ?_
 intro F L w ρ0 R hR
 show WC _ _ _ ⟨[(0, .v (.agg [.int .u64 a.Hi, .int .u64 a.Lo])), (1, .v (.agg [.int .u64 b.Hi, .int .u64 b.Lo]))], []⟩ _ _
 refine WC.seq (WC.region ?_)
 refine lr 3 rfl trivial ?_
 refine WL.nil (WQ.thenNormal (WC.seq (WC.block (WC.seq (WC.region ?_)))))
 refine lr 20 rfl (by exact sideR) ?_
 refine WL.nil (WQ.thenNormal ?_)
 refine WC.cond rfl (fun hc1 => ?_) (fun hc1 => ?_)
 ·replace h := ite_t hc1 h
  refine WC.seq (WC.region ?_)
  refine lr 1 rfl trivial ?_
  refine WL.nil (WQ.thenNormal (WC.ret (WQ.blockRet (WQ.thenRet ?_))))
  cases h
  exact WQ.rets tbOk hR [] (.inl rfl) rfl rfl (Le.refl _) (by exact trivial) rfl rfl rfl rfl
 ·replace h := ite_f hc1 h
  refine WC.seq (WC.region ?_)
  refine lr 2 rfl trivial ?_
  refine WL.q [] rfl rfl rfl (q_eq rfl (by exact trivial) eg210 eqT210) ?_
  refine lr 1 rfl trivial ?_
  refine WL.nil (WQ.thenNormal ?_)
  refine WC.cond rfl (fun hc2 => ?_) (fun hc2 => ?_)
  ·replace h := ite_t hc2 h
   refine WC.seq (WC.region ?_)
   refine lr 1 rfl trivial ?_
   refine WL.nil (WQ.thenNormal (WC.ret (WQ.blockRet (WQ.thenRet ?_))))
   cases h
   exact WQ.rets tbOk hR [] (.inl rfl) rfl rfl (Le.refl _) (by exact trivial) rfl rfl rfl rfl
  ·replace h := ite_f hc2 h
   refine WC.skip (WQ.blockNormal (WQ.thenNormal (WC.seq (WC.region ?_))))
   refine lr 1 rfl trivial ?_
   refine WL.nil (WQ.thenNormal (WC.ret ?_))
   cases h
   exact WQ.rets tbOk hR [] (.inl rfl) rfl rfl (Le.refl _) (by exact trivial) rfl rfl rfl rfl

theorem atMost_con {wg : World} (hw : WG wg) {value : Int} {share : Int} {price : Int} {r : Bool} (h : atMost value share price = some r) : Con Tryz.prog wg gl 173 [.v (.int .i64 value), .v (.int .i64 share), .v (.int .i64 price)] [] (.v (.bool r)) [] := by
 unfold atMost at h
 refine con_of_WC (S := slotsOf 0 _) Tryz.func173 rfl Tryz.ntmps173 rfl (fun t x hx => (slotsOf_get hx).2) ?_
 intro F L w ρ0 R hR
 show WC _ _ _ ⟨[(0, .v (.int .i64 value)), (1, .v (.int .i64 share)), (2, .v (.int .i64 price))], []⟩ _ _
 refine WC.seq (WC.region ?_)
 refine lr 1 rfl trivial ?_
 refine WL.nil (WQ.thenNormal (WC.seq (WC.region ?_)))
 refine lr 2 rfl trivial ?_
 replace h := bnd h; obtain ⟨v, hvv, h⟩ := h
 refine WL.call0 fn178 rfl rfl rfl rfl (by exact trivial) rfl (exactMul_con hw hvv) ?_
 refine lr 2 rfl trivial ?_
 refine WL.nil (WQ.thenNormal (WC.seq (WC.region ?_)))
 refine lr 4 rfl trivial ?_
 replace h := bnd h; obtain ⟨v2, hvv2, h⟩ := h
 refine WL.call0 fn178 rfl rfl rfl rfl (by exact trivial) rfl (exactMul_con hw hvv2) ?_
 refine lr 2 rfl trivial ?_
 refine WL.nil (WQ.thenNormal (WC.seq (WC.region ?_)))
 refine lr 2 rfl trivial ?_
 replace h := bnd h; obtain ⟨v3, hvv3, h⟩ := h
 refine WL.call0 fn179 rfl rfl rfl rfl (by exact trivial) rfl (exactCmp_con hw hvv3) ?_
 refine lr 2 rfl trivial ?_
 refine WL.nil (WQ.thenNormal (WC.ret ?_))
 cases h
 exact WQ.rets tbOk hR [] (.inl rfl) rfl rfl (Le.refl _) (by exact trivial) rfl rfl rfl rfl

theorem violatesIn_con {wg : World} (hw : WG wg) {code : Str} {a1 : Str} {r : Bool} (h : violatesIn code a1 = some r) : Con Tryz.prog wg gl 177 [.v (.str code), .p 1 0] [(1, .blk 9 [.v (.str a1)])] (.v (.bool r)) [(1, .blk 9 [.v (.str a1)])] := by
 unfold violatesIn at h
 refine con_of_WC (S := slotsOf 0 _) Tryz.func177 rfl Tryz.ntmps177 rfl (fun t x hx => (slotsOf_get hx).2) ?_
 intro F L w ρ0 R hR
 show WC _ _ _ ⟨[(0, .v (.str code)), (1, .p 1 0)], [(1, .blk 9 [.v (.str a1)])]⟩ _ _
 refine WC.seq (WC.region ?_)
 refine lr 1 rfl trivial ?_
 refine WL.nil (WQ.thenNormal (WC.seq (WC.region ?_)))
 refine lr 2 rfl trivial ?_
 replace h := bnd h; obtain ⟨v, hvv, h⟩ := h
 refine WL.call0 fn175 rfl rfl rfl rfl (by exact trivial) rfl (hasPrefixS_con hw hvv) ?_
 refine lr 1 rfl trivial ?_
 refine WL.nil (WQ.thenNormal (WC.ret ?_))
 cases h
 exact WQ.rets tbOk hR [] (.inl rfl) rfl rfl (Le.refl _) (by exact ⟨rfl, trivial⟩) rfl rfl rfl rfl

theorem violIndex_con {wg : World} (hw : WG wg) {s : (List Str)} {f0 : Str} {r : Int} (h : violIndex s f0 = some r) : Con Tryz.prog wg gl 182 [.v (.sl 1 (s.map eStr)), .fn 177 [.p 810 0]] [(810, .blk 9 [.v (.str f0)])] (.v (.int .i64 r)) [(810, .blk 9 [.v (.str f0)])] := by
 unfold violIndex at h
 refine con_of_WC (S := slotsOf 0 _) Tryz.func182 rfl Tryz.ntmps182 rfl (fun t x hx => (slotsOf_get hx).2) ?_
 intro F L w ρ0 R hR
 show WC _ _ _ ⟨[(0, .v (.sl 1 (s.map eStr))), (1, .fn 177 [.p 810 0])], [(810, .blk 9 [.v (.str f0)])]⟩ _ _
 refine WC.seq (WC.region ?_)
 refine lr 1 rfl trivial ?_
 refine WL.nil (WQ.thenNormal (WC.seq (WC.seq (WC.region ?_))))
 refine lr 1 rfl trivial ?_
 refine WL.q [] rfl rfl rfl (q_ev tbOk (.v (.int .i64 (s.length : Int))) rfl (by exact trivial) (by exact lenT)) ?_
 refine lr 1 rfl trivial ?_
 refine WL.nil (WQ.thenNormal ?_)
 refine WC.thenCut (X := Unit) (fun gG => ⟨[], [(810, .blk 9 [.v (.str f0)])]⟩) (fun gG => violIndex_j1 f0 = some r) ?_ ?_
 ·refine WC.block ?_
  obtain ⟨eQ1, hl1, hk1⟩ := bnd h
  clear h
  refine WC.loop (σ := Int) (τ := ((Int) ⊕ (Unit))) (fun sS => ⟨[(8, .v (.int .i64 sS)), (7, .v (.int .i64 (s.length : Int))), (0, .v (.sl 1 (s.map eStr))), (1, .fn 177 [.p 810 0])], [(810, .blk 9 [.v (.str f0)])]⟩) (violIndex_b1 s f0) [] (0 : Int) hl1 ⟨(by exact ⟨rfl, rfl, rfl, rfl, trivial⟩), (by exact ⟨rfl, trivial⟩), rfl, rfl, rfl, rfl⟩ ?_
  intro t8 m hn1 he1 hx1
  obtain ⟨o1, hf1⟩ := some_of hx1
  have h := hf1
  unfold violIndex_b1 at h
  show WC _ _ _ ⟨[(8, .v (.int .i64 t8)), (7, .v (.int .i64 (s.length : Int))), (0, .v (.sl 1 (s.map eStr))), (1, .fn 177 [.p 810 0])], [(810, .blk 9 [.v (.str f0)])]⟩ _ _
  refine WC.seq (WC.region ?_)
  refine lr 1 rfl trivial ?_
  refine WL.nil (WQ.thenNormal (WC.seq ?_))
  refine WC.cond rfl (fun hc1 => ?_) (fun hc1 => ?_)
  ·replace h := ite_t hc1 h
   refine WC.skip (WQ.thenNormal (WC.seq (WC.block (WC.seq (WC.region ?_)))))
   refine lr 2 rfl trivial ?_
   refine WL.nil (WQ.thenNormal (WC.seq (WC.region ?_)))
   refine lr 3 rfl trivial ?_
   obtain ⟨g1, h⟩ := grd h
   replace h := bnd h; obtain ⟨x2, hxx2, h⟩ := h
   refine WL.q [] rfl rfl rfl (q_idx tbOk rfl (by exact trivial) g1 (map_get (f := eStr) hxx2)) ?_
   refine lr 1 rfl trivial ?_
   replace h := bnd h; obtain ⟨v2, hvv2, h⟩ := h
   refine WL.callO [(1, 810)] [(1, 810)] [810] fn177 rfl rfl rfl rfl (by exact trivial) (violatesIn_con hw hvv2) rfl rfl (by exact ⟨rfl, trivial⟩) rfl rfl rfl rfl rfl rfl ?_
   refine WL.nil (WQ.thenNormal ?_)
   refine WC.cond rfl (fun hc2 => ?_) (fun hc2 => ?_)
   ·replace h := ite_t hc2 h
    refine WC.seq (WC.region ?_)
    refine lr 2 rfl trivial ?_
    refine WL.nil (WQ.thenNormal (WC.ret (WQ.blockRet (WQ.thenRet ?_))))
    cases h
    have he := he1 _ hf1
    subst he
    have h : some t8 = some _ := hk1
    refine WQ.thenRet (WQ.blockRet (WQ.thenRet ?_))
    cases h
    exact WQ.rets tbOk hR [] (.inl rfl) rfl rfl (Le.refl _) (by exact ⟨rfl, trivial⟩) rfl rfl rfl rfl
   ·replace h := ite_f hc2 h
    refine WC.skip (WQ.blockNormal (WQ.thenNormal (WC.region ?_)))
    refine lr 2 rfl trivial ?_
    refine WL.nil ?_
    cases h
    exact WQ.next [] (IntKind.i64.wrap (t8 + (1 : Int))) ⟨(by exact ⟨rfl, rfl, rfl, rfl, trivial⟩), (by exact ⟨rfl, trivial⟩), rfl, rfl, rfl, rfl⟩ (hn1 _ hf1)
  ·replace h := ite_f hc1 h
   refine WC.exit (WQ.thenExit ?_)
   cases h
   have he := he1 _ hf1
   subst he
   replace h := hk1
   try dsimp only at h
   refine WQ.thenExit (WQ.blockExit ?_)
   exact WQ.cut [] () ⟨(by exact trivial), (by exact ⟨rfl, trivial⟩), rfl, rfl, rfl, rfl⟩ h
 ·intro _ h
  replace h : violIndex_j1 f0 = some _ := h
  unfold violIndex_j1 at h
  show WC _ _ _ ⟨[], [(810, .blk 9 [.v (.str f0)])]⟩ _ _
  refine WC.seq (WC.region ?_)
  refine lr 1 rfl trivial ?_
  refine WL.nil (WQ.thenNormal (WC.ret ?_))
  cases h
  exact WQ.rets tbOk hR [] (.inl rfl) rfl rfl (Le.refl _) (by exact ⟨rfl, trivial⟩) rfl rfl rfl rfl

theorem violContains_con {wg : World} (hw : WG wg) {s : (List Str)} {f0 : Str} {r : Bool} (h : violContains s f0 = some r) : Con Tryz.prog wg gl 176 [.v (.sl 1 (s.map eStr)), .fn 177 [.p 810 0]] [(810, .blk 9 [.v (.str f0)])] (.v (.bool r)) [(810, .blk 9 [.v (.str f0)])] := by
 unfold violContains at h
 refine con_of_WC (S := slotsOf 0 _) Tryz.func176 rfl Tryz.ntmps176 rfl (fun t x hx => (slotsOf_get hx).2) ?_
 intro F L w ρ0 R hR
 show WC _ _ _ ⟨[(0, .v (.sl 1 (s.map eStr))), (1, .fn 177 [.p 810 0])], [(810, .blk 9 [.v (.str f0)])]⟩ _ _
 refine WC.seq (WC.region ?_)
 refine lr 1 rfl trivial ?_
 refine WL.nil (WQ.thenNormal (WC.seq (WC.region ?_)))
 refine lr 2 rfl trivial ?_
 replace h := bnd h; obtain ⟨v, hvv, h⟩ := h
 refine WL.callO [(810, 810)] [(810, 810)] [810] fn182 rfl rfl rfl rfl (by exact trivial) (violIndex_con hw hvv) rfl rfl (by exact ⟨rfl, trivial⟩) rfl rfl rfl rfl rfl rfl ?_
 refine lr 2 rfl trivial ?_
 refine WL.nil (WQ.thenNormal (WC.ret ?_))
 cases h
 exact WQ.rets tbOk hR [] (.inl rfl) rfl rfl (Le.refl _) (by exact ⟨rfl, trivial⟩) rfl rfl rfl rfl

theorem violates_con {wg : World} (hw : WG wg) {r1 : ApiRule} {product : Str} {input : Str} {r : Bool} (h : violates r1 product input = some r) : Con Tryz.prog wg gl 172 [.v (.agg [.int .i64 r1.Kind, .int .i64 r1.Digits, .sl 1 (r1.Except.map eStr), .int .i64 r1.Tolerance, .int .i64 r1.Limit, .str r1.Name, .sl 7 (r1.Args.map eApiRule)]), .v (.str product), .v (.str input)] [] (.v (.bool r)) [] := by
 unfold violates at h
 refine con_of_WC (S := slotsOf 0 _) Tryz.func172 rfl Tryz.ntmps172 rfl (fun t x hx => (slotsOf_get hx).2) ?_
 intro F L w ρ0 R hR
 show WC _ _ _ ⟨[(0, .v (.agg [.int .i64 r1.Kind, .int .i64 r1.Digits, .sl 1 (r1.Except.map eStr), .int .i64 r1.Tolerance, .int .i64 r1.Limit, .str r1.Name, .sl 7 (r1.Args.map eApiRule)])), (1, .v (.str product)), (2, .v (.str input))], []⟩ _ _
 refine WC.seq (WC.region ?_)
 refine lr 3 rfl trivial ?_
 refine WL.nil (WQ.thenNormal (WC.seq (WC.seq (WC.order mixed ?_))))
 obtain ⟨g1, h⟩ := grd h
 refine wr 5 rfl (by repeat' (first | exact trivial | assumption | intro _ | exact g1 (by assumption) | apply And.intro | exact sideT | (refine and_i ?_ ?_))) ?_
 replace h := bnd h; obtain ⟨v, hvv, h⟩ := h
 refine WR.call0 fn175 rfl rfl rfl rfl (by exact trivial) rfl (hasPrefixS_con hw hvv) ?_
 refine WR.nil (by kernel_rfl) (WQ.thenNormal ?_)
 refine WC.cond rfl (fun hc1 => ?_) (fun hc1 => ?_)
 ·replace h := ite_t hc1 h
  refine WC.seq (WC.region ?_)
  refine lr 1 rfl trivial ?_
  refine WL.nil (WQ.thenNormal (WC.ret (WQ.thenRet ?_)))
  cases h
  exact WQ.rets tbOk hR [] (.inl rfl) rfl rfl (Le.refl _) (by exact trivial) rfl rfl rfl rfl
 ·replace h := ite_f hc1 h
  refine WC.skip (WQ.thenNormal (WC.seq (WC.region ?_)))
  refine lr 3 rfl trivial ?_
  replace h := bnd h; obtain ⟨v2, hvv2, h⟩ := h
  refine WL.callO [(810, 5)] [(810, 5)] [5] fn176 rfl rfl rfl rfl (by exact trivial) (violContains_con hw hvv2) rfl rfl (by exact ⟨rfl, trivial⟩) rfl rfl rfl rfl rfl rfl ?_
  refine lr 1 rfl trivial ?_
  refine WL.nil (WQ.thenNormal (WC.ret ?_))
  cases h
  exact WQ.rets tbOk hR [] (.inl rfl) rfl rfl (Le.refl _) (by exact trivial) rfl rfl rfl rfl

theorem sIndex_con {wg : World} (hw : WG wg) {s : (List Str)} {v : Str} {r : Int} (h : sIndex s v = some r) : Con Tryz.prog wg gl 180 [.v (.sl 1 (s.map eStr)), .v (.str v)] [] (.v (.int .i64 r)) [] := by
 unfold sIndex at h
 refine con_of_WC (S := slotsOf 0 _) Tryz.func180 rfl Tryz.ntmps180 rfl (fun t x hx => (slotsOf_get hx).2) ?_
 intro F L w ρ0 R hR
 show WC _ _ _ ⟨[(0, .v (.sl 1 (s.map eStr))), (1, .v (.str v))], []⟩ _ _
 refine WC.seq (WC.region ?_)
 refine lr 1 rfl trivial ?_
 refine WL.nil (WQ.thenNormal (WC.seq (WC.seq (WC.region ?_))))
 refine lr 1 rfl trivial ?_
 refine WL.q [] rfl rfl rfl (q_ev tbOk (.v (.int .i64 (s.length : Int))) rfl (by exact trivial) (by exact lenT)) ?_
 refine lr 1 rfl trivial ?_
 refine WL.nil (WQ.thenNormal ?_)
 refine WC.thenCut (X := Unit) (fun gG => ⟨[], []⟩) (fun gG => sIndex_j1  = some r) ?_ ?_
 ·refine WC.block ?_
  obtain ⟨eQ1, hl1, hk1⟩ := bnd h
  clear h
  refine WC.loop (σ := Int) (τ := ((Int) ⊕ (Unit))) (fun sS => ⟨[(8, .v (.int .i64 sS)), (7, .v (.int .i64 (s.length : Int))), (0, .v (.sl 1 (s.map eStr))), (1, .v (.str v))], []⟩) (sIndex_b1 s v) [] (0 : Int) hl1 ⟨(by exact ⟨rfl, rfl, rfl, rfl, trivial⟩), (by exact trivial), rfl, rfl, rfl, rfl⟩ ?_
  intro t8 m hn1 he1 hx1
  obtain ⟨o1, hf1⟩ := some_of hx1
  have h := hf1
  unfold sIndex_b1 at h
  show WC _ _ _ ⟨[(8, .v (.int .i64 t8)), (7, .v (.int .i64 (s.length : Int))), (0, .v (.sl 1 (s.map eStr))), (1, .v (.str v))], []⟩ _ _
  refine WC.seq (WC.region ?_)
  refine lr 1 rfl trivial ?_
  refine WL.nil (WQ.thenNormal (WC.seq ?_))
  refine WC.cond rfl (fun hc1 => ?_) (fun hc1 => ?_)
  ·replace h := ite_t hc1 h
   refine WC.skip (WQ.thenNormal (WC.seq (WC.block (WC.seq (WC.region ?_)))))
   refine lr 2 rfl trivial ?_
   refine WL.nil (WQ.thenNormal (WC.seq (WC.region ?_)))
   refine lr 3 rfl trivial ?_
   obtain ⟨g1, h⟩ := grd h
   replace h := bnd h; obtain ⟨x2, hxx2, h⟩ := h
   refine WL.q [] rfl rfl rfl (q_idx tbOk rfl (by exact trivial) g1 (map_get (f := eStr) hxx2)) ?_
   refine lr 2 rfl trivial ?_
   refine WL.nil (WQ.thenNormal ?_)
   refine WC.cond rfl (fun hc2 => ?_) (fun hc2 => ?_)
   ·replace h := ite_t hc2 h
    refine WC.seq (WC.region ?_)
    refine lr 2 rfl trivial ?_
    refine WL.nil (WQ.thenNormal (WC.ret (WQ.blockRet (WQ.thenRet ?_))))
    cases h
    have he := he1 _ hf1
    subst he
    have h : some t8 = some _ := hk1
    refine WQ.thenRet (WQ.blockRet (WQ.thenRet ?_))
    cases h
    exact WQ.rets tbOk hR [] (.inl rfl) rfl rfl (Le.refl _) (by exact trivial) rfl rfl rfl rfl
   ·replace h := ite_f hc2 h
    refine WC.skip (WQ.blockNormal (WQ.thenNormal (WC.region ?_)))
    refine lr 2 rfl trivial ?_
    refine WL.nil ?_
    cases h
    exact WQ.next [] (IntKind.i64.wrap (t8 + (1 : Int))) ⟨(by exact ⟨rfl, rfl, rfl, rfl, trivial⟩), (by exact trivial), rfl, rfl, rfl, rfl⟩ (hn1 _ hf1)
  ·replace h := ite_f hc1 h
   refine WC.exit (WQ.thenExit ?_)
   cases h
   have he := he1 _ hf1
   subst he
   replace h := hk1
   try dsimp only at h
   refine WQ.thenExit (WQ.blockExit ?_)
   exact WQ.cut [] () ⟨(by exact trivial), (by exact trivial), rfl, rfl, rfl, rfl⟩ h
 ·intro _ h
  replace h : sIndex_j1 = some _ := h
  unfold sIndex_j1 at h
  show WC _ _ _ ⟨[], []⟩ _ _
  refine WC.seq (WC.region ?_)
  refine lr 1 rfl trivial ?_
  refine WL.nil (WQ.thenNormal (WC.ret ?_))
  cases h
  exact WQ.rets tbOk hR [] (.inl rfl) rfl rfl (Le.refl _) (by exact trivial) rfl rfl rfl rfl

theorem sContains_con {wg : World} (hw : WG wg) {s : (List Str)} {v : Str} {r : Bool} (h : sContains s v = some r) : Con Tryz.prog wg gl 174 [.v (.sl 1 (s.map eStr)), .v (.str v)] [] (.v (.bool r)) [] := by
 unfold sContains at h
 refine con_of_WC (S := slotsOf 0 _) Tryz.func174 rfl Tryz.ntmps174 rfl (fun t x hx => (slotsOf_get hx).2) ?_
 intro F L w ρ0 R hR
 show WC _ _ _ ⟨[(0, .v (.sl 1 (s.map eStr))), (1, .v (.str v))], []⟩ _ _
 refine WC.seq (WC.region ?_)
 refine lr 1 rfl trivial ?_
 refine WL.nil (WQ.thenNormal (WC.seq (WC.region ?_)))
 refine lr 2 rfl trivial ?_
 replace h := bnd h; obtain ⟨v2, hvv2, h⟩ := h
 refine WL.call0 fn180 rfl rfl rfl rfl (by exact trivial) rfl (sIndex_con hw hvv2) ?_
 refine lr 2 rfl trivial ?_
 refine WL.nil (WQ.thenNormal (WC.ret ?_))
 cases h
 exact WQ.rets tbOk hR [] (.inl rfl) rfl rfl (Le.refl _) (by exact trivial) rfl rfl rfl rfl

theorem holds_con {wg : World} (hw : WG wg) {r1 : ApiRule} {c : ApiCase} {r : Bool} (h : holds r1 c = some r) : Con Tryz.prog wg gl 171 [.v (.agg [.int .i64 r1.Kind, .int .i64 r1.Digits, .sl 1 (r1.Except.map eStr), .int .i64 r1.Tolerance, .int .i64 r1.Limit, .str r1.Name, .sl 7 (r1.Args.map eApiRule)]), .v (.agg [.str c.Code, .int .i64 c.Price, .bool c.Obtained, .sl 1 (c.Processes.map eStr), .sl 3 (c.Inputs.map eApiInput)])] [] (.v (.bool r)) [] := by
 unfold holds at h
 refine con_of_WC (S := slotsOf 0 _) Tryz.func171 rfl Tryz.ntmps171 rfl (fun t x hx => (slotsOf_get hx).2) ?_
 intro F L w ρ0 R hR
 show WC _ _ _ ⟨[(0, .v (.agg [.int .i64 r1.Kind, .int .i64 r1.Digits, .sl 1 (r1.Except.map eStr), .int .i64 r1.Tolerance, .int .i64 r1.Limit, .str r1.Name, .sl 7 (r1.Args.map eApiRule)])), (1, .v (.agg [.str c.Code, .int .i64 c.Price, .bool c.Obtained, .sl 1 (c.Processes.map eStr), .sl 3 (c.Inputs.map eApiInput)]))], []⟩ _ _
 refine WC.seq (WC.region ?_)
 refine lr 3 rfl trivial ?_
 refine WL.nil (WQ.thenNormal (WC.seq (WC.region ?_)))
 refine lr 3 rfl trivial ?_
 refine WL.nil (WQ.thenNormal (WC.seq (WC.seq (WC.region ?_))))
 refine lr 2 rfl trivial ?_
 refine WL.q [] rfl rfl rfl (q_ev tbOk (.v (.int .i64 (c.Inputs.length : Int))) rfl (by exact trivial) (by exact lenT)) ?_
 refine lr 1 rfl trivial ?_
 refine WL.nil (WQ.thenNormal ?_)
 refine WC.thenCut (X := Int × Int × Int) (fun gG => ⟨[(7, .v (.int .i64 gG.1)), (6, .v (.int .i64 gG.2.1)), (5, .v (.int .i64 gG.2.2)), (3, .p 3 0), (2, .p 2 0)], [(2, .blk 37 [.v (.int .i64 r1.Kind), .v (.int .i64 r1.Digits), .v (.sl 1 (r1.Except.map eStr)), .v (.int .i64 r1.Tolerance), .v (.int .i64 r1.Limit), .v (.str r1.Name), .v (.sl 7 (r1.Args.map eApiRule))]), (3, .blk 25 [.v (.str c.Code), .v (.int .i64 c.Price), .v (.bool c.Obtained), .v (.sl 1 (c.Processes.map eStr)), .v (.sl 3 (c.Inputs.map eApiInput))])]⟩) (fun gG => holds_j1 r1 c gG.1 gG.2.1 gG.2.2 = some r) ?_ ?_
 ·refine WC.block ?_
  obtain ⟨eQ1, hl1, hk1⟩ := bnd h
  clear h
  refine WC.loop (σ := Int × Int × Int × Int) (τ := (Int × Int × Int)) (fun sS => ⟨[(13, .v (.int .i64 sS.1)), (12, .v (.int .i64 (c.Inputs.length : Int))), (11, .v (.sl 3 (c.Inputs.map eApiInput))), (7, .v (.int .i64 sS.2.1)), (6, .v (.int .i64 sS.2.2.1)), (5, .v (.int .i64 sS.2.2.2)), (3, .p 3 0), (2, .p 2 0)], [(2, .blk 37 [.v (.int .i64 r1.Kind), .v (.int .i64 r1.Digits), .v (.sl 1 (r1.Except.map eStr)), .v (.int .i64 r1.Tolerance), .v (.int .i64 r1.Limit), .v (.str r1.Name), .v (.sl 7 (r1.Args.map eApiRule))]), (3, .blk 25 [.v (.str c.Code), .v (.int .i64 c.Price), .v (.bool c.Obtained), .v (.sl 1 (c.Processes.map eStr)), .v (.sl 3 (c.Inputs.map eApiInput))])]⟩) (holds_b1 r1 c) [] ((0 : Int), (0 : Int), (0 : Int), (0 : Int)) hl1 ⟨(by exact ⟨rfl, rfl, rfl, rfl, rfl, rfl, rfl, rfl, trivial⟩), (by exact ⟨rfl, rfl, trivial⟩), rfl, rfl, rfl, rfl⟩ ?_
  rintro ⟨t13, count2, violating2, foreign2⟩ m hn1 he1 hx1
  obtain ⟨o1, hf1⟩ := some_of hx1
  have h := hf1
  unfold holds_b1 at h
  show WC _ _ _ ⟨[(13, .v (.int .i64 t13)), (12, .v (.int .i64 (c.Inputs.length : Int))), (11, .v (.sl 3 (c.Inputs.map eApiInput))), (7, .v (.int .i64 count2)), (6, .v (.int .i64 violating2)), (5, .v (.int .i64 foreign2)), (3, .p 3 0), (2, .p 2 0)], [(2, .blk 37 [.v (.int .i64 r1.Kind), .v (.int .i64 r1.Digits), .v (.sl 1 (r1.Except.map eStr)), .v (.int .i64 r1.Tolerance), .v (.int .i64 r1.Limit), .v (.str r1.Name), .v (.sl 7 (r1.Args.map eApiRule))]), (3, .blk 25 [.v (.str c.Code), .v (.int .i64 c.Price), .v (.bool c.Obtained), .v (.sl 1 (c.Processes.map eStr)), .v (.sl 3 (c.Inputs.map eApiInput))])]⟩ _ _
  refine WC.seq (WC.region ?_)
  refine lr 1 rfl trivial ?_
  refine WL.nil (WQ.thenNormal (WC.seq ?_))
  refine WC.cond rfl (fun hc5 => ?_) (fun hc5 => ?_)
  ·replace h := ite_t hc5 h
   refine WC.skip (WQ.thenNormal (WC.seq ?_))
   refine WC.thenCut (X := Int × Int × Int) (fun gG => ⟨[(13, .v (.int .i64 t13)), (12, .v (.int .i64 (c.Inputs.length : Int))), (11, .v (.sl 3 (c.Inputs.map eApiInput))), (7, .v (.int .i64 gG.1)), (6, .v (.int .i64 gG.2.1)), (5, .v (.int .i64 gG.2.2)), (3, .p 3 0), (2, .p 2 0)], [(2, .blk 37 [.v (.int .i64 r1.Kind), .v (.int .i64 r1.Digits), .v (.sl 1 (r1.Except.map eStr)), .v (.int .i64 r1.Tolerance), .v (.int .i64 r1.Limit), .v (.str r1.Name), .v (.sl 7 (r1.Args.map eApiRule))]), (3, .blk 25 [.v (.str c.Code), .v (.int .i64 c.Price), .v (.bool c.Obtained), .v (.sl 1 (c.Processes.map eStr)), .v (.sl 3 (c.Inputs.map eApiInput))])]⟩) (fun gG => holds_j2 r1 c t13 gG.1 gG.2.1 gG.2.2 = some o1) ?_ ?_
   ·refine WC.block (WC.seq (WC.region ?_))
    obtain ⟨g1, h⟩ := grd h
    replace h := bnd h; obtain ⟨x2, hxx2, h⟩ := h
    refine WL.q [] rfl rfl rfl (q_idx tbOk rfl (by exact trivial) g1 (map_get (f := eApiInput) hxx2)) ?_
    refine lr 3 rfl trivial ?_
    refine WL.nil (WQ.thenNormal (WC.seq (WC.seq (WC.region ?_))))
    refine lr 2 rfl trivial ?_
    refine WL.nil (WQ.thenNormal ?_)
    refine WC.cond rfl (fun hc6 => ?_) (fun hc6 => ?_)
    ·replace h := ite_t hc6 h
     refine WC.exit (WQ.thenExit (WQ.blockExit ?_))
     exact WQ.cut [] (count2, violating2, foreign2) ⟨(by exact ⟨rfl, rfl, rfl, rfl, rfl, rfl, rfl, rfl, trivial⟩), (by exact ⟨rfl, rfl, trivial⟩), rfl, rfl, rfl, rfl⟩ h
    ·replace h := ite_f hc6 h
     refine WC.skip (WQ.thenNormal (WC.seq (WC.region ?_)))
     refine lr 3 rfl trivial ?_
     refine WL.nil (WQ.thenNormal (WC.seq (WC.region ?_)))
     refine lr 5 rfl trivial ?_
     refine WL.nil (WQ.thenNormal (WC.seq (WC.region ?_)))
     refine lr 9 rfl (by exact sideR) ?_
     replace h := bnd h; obtain ⟨v5, hvv5, h⟩ := h
     refine WL.gcall0 fn172 rfl rfl rfl rfl rfl (fun _ => (by exact sideR)) rfl (fun hg => (violates_con hw (ite_t hg hvv5))) ?_
     refine lr 1 rfl (by exact sideR) ?_
     refine WL.nil (WQ.thenNormal ?_)
     refine WC.cond rfl (fun hc7 => ?_) (fun hc7 => ?_)
     ·replace h := ite_t hc7 h
      refine WC.region ?_
      refine lr 5 rfl trivial ?_
      refine WL.nil (WQ.blockNormal ?_)
      exact WQ.cut [] ((IntKind.i64.wrap (count2 + (1 : Int))), (IntKind.i64.wrap (violating2 + x2.Value)), (IntKind.i64.wrap (foreign2 + x2.Value))) ⟨(by exact ⟨rfl, rfl, rfl, rfl, rfl, rfl, rfl, rfl, trivial⟩), (by exact ⟨rfl, rfl, trivial⟩), rfl, rfl, rfl, rfl⟩ h
     ·replace h := ite_f hc7 h
      refine WC.skip (WQ.blockNormal ?_)
      exact WQ.cut [] ((IntKind.i64.wrap (count2 + (1 : Int))), violating2, (IntKind.i64.wrap (foreign2 + x2.Value))) ⟨(by exact ⟨rfl, rfl, rfl, rfl, rfl, rfl, rfl, rfl, trivial⟩), (by exact ⟨rfl, rfl, trivial⟩), rfl, rfl, rfl, rfl⟩ h
   ·rintro ⟨count6, violating6, foreign6⟩ h
    replace h : holds_j2 r1 c t13 count6 violating6 foreign6 = some _ := h
    unfold holds_j2 at h
    show WC _ _ _ ⟨[(13, .v (.int .i64 t13)), (12, .v (.int .i64 (c.Inputs.length : Int))), (11, .v (.sl 3 (c.Inputs.map eApiInput))), (7, .v (.int .i64 count6)), (6, .v (.int .i64 violating6)), (5, .v (.int .i64 foreign6)), (3, .p 3 0), (2, .p 2 0)], [(2, .blk 37 [.v (.int .i64 r1.Kind), .v (.int .i64 r1.Digits), .v (.sl 1 (r1.Except.map eStr)), .v (.int .i64 r1.Tolerance), .v (.int .i64 r1.Limit), .v (.str r1.Name), .v (.sl 7 (r1.Args.map eApiRule))]), (3, .blk 25 [.v (.str c.Code), .v (.int .i64 c.Price), .v (.bool c.Obtained), .v (.sl 1 (c.Processes.map eStr)), .v (.sl 3 (c.Inputs.map eApiInput))])]⟩ _ _
    refine WC.region ?_
    refine lr 2 rfl trivial ?_
    refine WL.nil ?_
    cases h
    exact WQ.next [] ((IntKind.i64.wrap (t13 + (1 : Int))), count6, violating6, foreign6) ⟨(by exact ⟨rfl, rfl, rfl, rfl, rfl, rfl, rfl, rfl, trivial⟩), (by exact ⟨rfl, rfl, trivial⟩), rfl, rfl, rfl, rfl⟩ (hn1 _ hf1)
  ·replace h := ite_f hc5 h
   refine WC.exit (WQ.thenExit ?_)
   cases h
   have he := he1 _ hf1
   subst he
   replace h := hk1
   try dsimp only at h
   refine WQ.thenExit (WQ.blockExit ?_)
   exact WQ.cut [] (count2, violating2, foreign2) ⟨(by exact ⟨rfl, rfl, rfl, rfl, rfl, trivial⟩), (by exact ⟨rfl, rfl, trivial⟩), rfl, rfl, rfl, rfl⟩ h
 ·rintro ⟨count, violating, foreign⟩ h
  replace h : holds_j1 r1 c count violating foreign = some _ := h
  unfold holds_j1 at h
  show WC _ _ _ ⟨[(7, .v (.int .i64 count)), (6, .v (.int .i64 violating)), (5, .v (.int .i64 foreign)), (3, .p 3 0), (2, .p 2 0)], [(2, .blk 37 [.v (.int .i64 r1.Kind), .v (.int .i64 r1.Digits), .v (.sl 1 (r1.Except.map eStr)), .v (.int .i64 r1.Tolerance), .v (.int .i64 r1.Limit), .v (.str r1.Name), .v (.sl 7 (r1.Args.map eApiRule))]), (3, .blk 25 [.v (.str c.Code), .v (.int .i64 c.Price), .v (.bool c.Obtained), .v (.sl 1 (c.Processes.map eStr)), .v (.sl 3 (c.Inputs.map eApiInput))])]⟩ _ _
  refine WC.seq (WC.seq (WC.region ?_))
  refine lr 2 rfl trivial ?_
  refine WL.nil (WQ.thenNormal (WC.block (WC.seq (WC.region ?_))))
  refine lr 2 rfl trivial ?_
  refine WL.nil (WQ.thenNormal ?_)
  refine WC.cond rfl (fun hc1 => ?_) (fun hc1 => ?_)
  ·replace h := ite_t hc1 h
   refine WC.seq (WC.region ?_)
   refine lr 7 rfl (by exact sideR) ?_
   refine WL.nil (WQ.thenNormal (WC.ret (WQ.blockRet (WQ.thenRet ?_))))
   cases h
   exact WQ.rets tbOk hR [] (.inl rfl) rfl rfl (Le.refl _) (by exact trivial) rfl rfl rfl rfl
  ·replace h := ite_f hc1 h
   refine WC.seq (WC.region ?_)
   refine lr 2 rfl trivial ?_
   refine WL.nil (WQ.thenNormal ?_)
   refine WC.cond rfl (fun hc2 => ?_) (fun hc2 => ?_)
   ·replace h := ite_t hc2 h
    refine WC.seq (WC.region ?_)
    refine lr 5 rfl trivial ?_
    replace h := bnd h; obtain ⟨v, hvv, h⟩ := h
    refine WL.call0 fn173 rfl rfl rfl rfl (by exact trivial) rfl (atMost_con hw hvv) ?_
    refine lr 1 rfl trivial ?_
    refine WL.nil (WQ.thenNormal (WC.ret (WQ.blockRet (WQ.thenRet ?_))))
    cases h
    exact WQ.rets tbOk hR [] (.inl rfl) rfl rfl (Le.refl _) (by exact trivial) rfl rfl rfl rfl
   ·replace h := ite_f hc2 h
    refine WC.seq (WC.region ?_)
    refine lr 2 rfl trivial ?_
    refine WL.nil (WQ.thenNormal ?_)
    refine WC.cond rfl (fun hc3 => ?_) (fun hc3 => ?_)
    ·replace h := ite_t hc3 h
     refine WC.seq (WC.region ?_)
     refine lr 5 rfl trivial ?_
     replace h := bnd h; obtain ⟨v2, hvv2, h⟩ := h
     refine WL.call0 fn173 rfl rfl rfl rfl (by exact trivial) rfl (atMost_con hw hvv2) ?_
     refine lr 1 rfl trivial ?_
     refine WL.nil (WQ.thenNormal (WC.ret (WQ.blockRet (WQ.thenRet ?_))))
     cases h
     exact WQ.rets tbOk hR [] (.inl rfl) rfl rfl (Le.refl _) (by exact trivial) rfl rfl rfl rfl
    ·replace h := ite_f hc3 h
     refine WC.seq (WC.region ?_)
     refine lr 2 rfl trivial ?_
     refine WL.nil (WQ.thenNormal ?_)
     refine WC.cond rfl (fun hc4 => ?_) (fun hc4 => ?_)
     ·replace h := ite_t hc4 h
      refine WC.seq (WC.region ?_)
      refine lr 4 rfl trivial ?_
      replace h := bnd h; obtain ⟨v3, hvv3, h⟩ := h
      refine WL.call0 fn174 rfl rfl rfl rfl (by exact trivial) rfl (sContains_con hw hvv3) ?_
      refine lr 1 rfl trivial ?_
      refine WL.nil (WQ.thenNormal (WC.ret (WQ.blockRet (WQ.thenRet ?_))))
      cases h
      exact WQ.rets tbOk hR [] (.inl rfl) rfl rfl (Le.refl _) (by exact trivial) rfl rfl rfl rfl
     ·replace h := ite_f hc4 h
      refine WC.skip (WQ.blockNormal (WQ.thenNormal (WC.seq (WC.region ?_))))
      refine lr 1 rfl trivial ?_
      refine WL.nil (WQ.thenNormal (WC.ret ?_))
      cases h
      exact WQ.rets tbOk hR [] (.inl rfl) rfl rfl (Le.refl _) (by exact trivial) rfl rfl rfl rfl

theorem growInt_con {wg : World} (hw : WG wg) {n1 : Int} {r : (List Int)} (h : growInt n1 = some r) : Con Tryz.prog wg gl 168 [.v (.raw (.slice none 0 0)), .v (.int .i64 n1)] [] (.r 500) [(500, .row 3 1 (r.map eInt_i64))] := by
 unfold growInt at h
 refine con_of_WC (S := slotsOf 0 _) Tryz.func168 rfl Tryz.ntmps168 rfl (fun t x hx => (slotsOf_get hx).2) ?_
 intro F L w ρ0 R hR
 show WC _ _ _ ⟨[(0, .v (.raw (.slice none 0 0))), (1, .v (.int .i64 n1))], []⟩ _ _
 refine WC.seq (WC.region ?_)
 refine lr 1 rfl trivial ?_
 refine WL.nil (WQ.thenNormal (WC.seq (WC.seq (WC.region ?_))))
 refine lr 2 rfl trivial ?_
 refine WL.nil (WQ.thenNormal ?_)
 refine WC.cond rfl (fun hc1 => ?_) (fun hc1 => ?_)
 ·replace h := ite_t hc1 h
  cases h
 ·replace h := ite_f hc1 h
  refine WC.skip (WQ.thenNormal (WC.seq (WC.seq (WC.region ?_))))
  refine lr 2 rfl trivial ?_
  refine WL.q [] rfl rfl rfl (q_nil ap26 rfl (by exact trivial)) ?_
  refine lr 5 rfl trivial ?_
  refine WL.nil (WQ.thenNormal (WC.seq (WC.region ?_)))
  refine lr 2 rfl trivial ?_
  refine WL.nil (WQ.thenNormal ?_)
  refine WC.thenCut (X := (List Int)) (fun gG => ⟨[(0, .r 1000)], [(1000, .row 3 1 (gG.map eInt_i64))]⟩) (fun gG => growInt_j1 gG = some r) ?_ ?_
  ·refine WC.cond rfl (fun hc2 => ?_) (fun hc2 => ?_)
   ·replace h := ite_t hc2 h
    refine WC.region ?_
    refine lr 2 rfl trivial ?_
    refine WL.q [] rfl rfl rfl (q_nil ap26 rfl (by exact trivial)) ?_
    refine WL.q [] rfl rfl rfl (q_nil ap26 rfl (by exact sideR)) ?_
    refine lr 1 rfl trivial ?_
    obtain ⟨g1, h⟩ := grd h
    refine WL.growRow tbOk (List.replicate (IntKind.i64.wrap (n1 - (IntKind.i64.wrap ((0 : Int) - (0 : Int))))).toNat [.raw (.int .i64 0)]) ap26 rfl rfl rfl rfl rfl (by exact sideR) g1 rfl rfl ?_
    refine lr 2 rfl trivial ?_
    refine WL.rcut tbOk (([] : (List Int)).map eInt_i64) rfl rfl rfl rfl (by exact sideR) rfl ⟨Int.le_refl 0, Int.natCast_nonneg _⟩ rfl rfl ?_
    refine lr 1 rfl trivial ?_
    refine WL.nil ?_
    exact WQ.cut [(1000, 25)] [] ⟨(by exact ⟨rfl, trivial⟩), (by exact ⟨rfl, trivial⟩), rfl, rfl, rfl, rfl⟩ h
   ·replace h := ite_f hc2 h
    refine WC.skip ?_
    refine WQ.rowNil 0 1000 3 1 rfl rfl ?_
    exact WQ.cut [] [] ⟨(by exact ⟨rfl, trivial⟩), (by exact ⟨rfl, trivial⟩), rfl, rfl, rfl, rfl⟩ h
  ·intro s h
   replace h : growInt_j1 s = some _ := h
   unfold growInt_j1 at h
   show WC _ _ _ ⟨[(0, .r 1000)], [(1000, .row 3 1 (s.map eInt_i64))]⟩ _ _
   refine WC.seq (WC.region ?_)
   refine lr 2 rfl trivial ?_
   refine WL.nil (WQ.thenNormal (WC.ret ?_))
   cases h
   exact WQ.rets tbOk hR [(500, 1000)] (.inl rfl) rfl rfl (Le.refl _) (by exact ⟨rfl, trivial⟩) rfl rfl rfl rfl

theorem concatInt_con {wg : World} (hw : WG wg) {slices : (List (List Int))} {r : (List Int)} (h : concatInt slices = some r) : Con Tryz.prog wg gl 167 [.v (.sl 1 (slices.map eLInt_i64))] [] (.r 500) [(500, .row 3 1 (r.map eInt_i64))] := by
 unfold concatInt at h
 refine con_of_WC (S := slotsOf 0 _) Tryz.func167 rfl Tryz.ntmps167 rfl (fun t x hx => (slotsOf_get hx).2) ?_
 intro F L w ρ0 R hR
 show WC _ _ _ ⟨[(0, .v (.sl 1 (slices.map eLInt_i64)))], []⟩ _ _
 refine WC.seq (WC.region ?_)
 refine lr 1 rfl trivial ?_
 refine WL.nil (WQ.thenNormal (WC.seq (WC.region ?_)))
 refine lr 1 rfl trivial ?_
 refine WL.nil (WQ.thenNormal (WC.seq (WC.seq (WC.region ?_))))
 refine lr 1 rfl trivial ?_
 refine WL.q [] rfl rfl rfl (q_ev tbOk (.v (.int .i64 (slices.length : Int))) rfl (by exact trivial) (by exact lenT)) ?_
 refine lr 1 rfl trivial ?_
 refine WL.nil (WQ.thenNormal ?_)
 refine WC.thenCut (X := Int) (fun gG => ⟨[(3, .v (.int .i64 gG)), (0, .v (.sl 1 (slices.map eLInt_i64)))], []⟩) (fun gG => concatInt_j1 slices gG = some r) ?_ ?_
 ·refine WC.block ?_
  obtain ⟨eQ2, hl2, hk2⟩ := bnd h
  clear h
  refine WC.loop (σ := Int × Int) (τ := (Int)) (fun sS => ⟨[(11, .v (.int .i64 sS.1)), (10, .v (.int .i64 (slices.length : Int))), (9, .v (.sl 1 (slices.map eLInt_i64))), (3, .v (.int .i64 sS.2)), (0, .v (.sl 1 (slices.map eLInt_i64)))], []⟩) (concatInt_b2 slices) [] ((0 : Int), (0 : Int)) hl2 ⟨(by exact ⟨rfl, rfl, rfl, rfl, rfl, trivial⟩), (by exact trivial), rfl, rfl, rfl, rfl⟩ ?_
  rintro ⟨t11, size2⟩ m hn2 he2 hx2
  obtain ⟨o2, hf2⟩ := some_of hx2
  have h := hf2
  unfold concatInt_b2 at h
  show WC _ _ _ ⟨[(11, .v (.int .i64 t11)), (10, .v (.int .i64 (slices.length : Int))), (9, .v (.sl 1 (slices.map eLInt_i64))), (3, .v (.int .i64 size2)), (0, .v (.sl 1 (slices.map eLInt_i64)))], []⟩ _ _
  refine WC.seq (WC.region ?_)
  refine lr 1 rfl trivial ?_
  refine WL.nil (WQ.thenNormal (WC.seq ?_))
  refine WC.cond rfl (fun hc2 => ?_) (fun hc2 => ?_)
  ·replace h := ite_t hc2 h
   refine WC.skip (WQ.thenNormal (WC.seq (WC.block (WC.seq (WC.region ?_)))))
   obtain ⟨g3, h⟩ := grd h
   replace h := bnd h; obtain ⟨x4, hxx4, h⟩ := h
   refine WL.q [] rfl rfl rfl (q_idx tbOk rfl (by exact trivial) g3 (map_get (f := eLInt_i64) hxx4)) ?_
   refine lr 2 rfl trivial ?_
   refine WL.nil (WQ.thenNormal (WC.seq (WC.region ?_)))
   refine lr 2 rfl trivial ?_
   refine WL.q [] rfl rfl rfl (q_ev tbOk (.v (.int .i64 (x4.length : Int))) rfl (by exact trivial) (by exact lenT)) ?_
   refine lr 2 rfl trivial ?_
   refine WL.nil (WQ.thenNormal (WC.seq (WC.region ?_)))
   refine lr 2 rfl trivial ?_
   refine WL.nil (WQ.thenNormal ?_)
   refine WC.cond rfl (fun hc3 => ?_) (fun hc3 => ?_)
   ·replace h := ite_t hc3 h
    cases h
   ·replace h := ite_f hc3 h
    refine WC.skip (WQ.blockNormal (WQ.thenNormal (WC.region ?_)))
    refine lr 2 rfl trivial ?_
    refine WL.nil ?_
    cases h
    exact WQ.next [] ((IntKind.i64.wrap (t11 + (1 : Int))), (IntKind.i64.wrap (size2 + (x4.length : Int)))) ⟨(by exact ⟨rfl, rfl, rfl, rfl, rfl, trivial⟩), (by exact trivial), rfl, rfl, rfl, rfl⟩ (hn2 _ hf2)
  ·replace h := ite_f hc2 h
   refine WC.exit (WQ.thenExit ?_)
   cases h
   have he := he2 _ hf2
   subst he
   replace h := hk2
   try dsimp only at h
   refine WQ.thenExit (WQ.blockExit ?_)
   exact WQ.cut [] size2 ⟨(by exact ⟨rfl, rfl, trivial⟩), (by exact trivial), rfl, rfl, rfl, rfl⟩ h
 ·intro size h
  replace h : concatInt_j1 slices size = some _ := h
  unfold concatInt_j1 at h
  show WC _ _ _ ⟨[(3, .v (.int .i64 size)), (0, .v (.sl 1 (slices.map eLInt_i64)))], []⟩ _ _
  refine WC.seq (WC.region ?_)
  refine lr 1 rfl trivial ?_
  replace h := bnd h; obtain ⟨v, hvv, h⟩ := h
  refine WL.callO [] [(500, 24)] [24] fn168 rfl rfl rfl rfl (by exact trivial) (growInt_con hw hvv) rfl rfl (by exact trivial) rfl rfl rfl rfl rfl rfl ?_
  refine lr 1 rfl trivial ?_
  refine WL.nil (WQ.thenNormal (WC.seq (WC.seq (WC.region ?_))))
  refine lr 1 rfl trivial ?_
  refine WL.q [] rfl rfl rfl (q_ev tbOk (.v (.int .i64 (slices.length : Int))) rfl (by exact trivial) (by exact lenT)) ?_
  refine lr 1 rfl trivial ?_
  refine WL.nil (WQ.thenNormal ?_)
  refine WC.thenCut (X := (List Int)) (fun gG => ⟨[(6, .r 1006)], [(1006, .row 3 1 (gG.map eInt_i64))]⟩) (fun gG => concatInt_j2 gG = some r) ?_ ?_
  ·refine WC.block ?_
   obtain ⟨eQ1, hl1, hk1⟩ := bnd h
   clear h
   refine WC.loop (σ := Int × (List Int)) (τ := ((List Int))) (fun sS => ⟨[(27, .v (.int .i64 sS.1)), (26, .v (.int .i64 (slices.length : Int))), (25, .v (.sl 1 (slices.map eLInt_i64))), (6, .r 1006)], [(1006, .row 3 1 (sS.2.map eInt_i64))]⟩) (concatInt_b1 slices) [(1006, 24)] ((0 : Int), v) hl1 ⟨(by exact ⟨rfl, rfl, rfl, rfl, trivial⟩), (by exact ⟨rfl, trivial⟩), rfl, rfl, rfl, rfl⟩ ?_
   rintro ⟨t27, newslice2⟩ m hn1 he1 hx1
   obtain ⟨o1, hf1⟩ := some_of hx1
   have h := hf1
   unfold concatInt_b1 at h
   show WC _ _ _ ⟨[(27, .v (.int .i64 t27)), (26, .v (.int .i64 (slices.length : Int))), (25, .v (.sl 1 (slices.map eLInt_i64))), (6, .r 1006)], [(1006, .row 3 1 (newslice2.map eInt_i64))]⟩ _ _
   refine WC.seq (WC.region ?_)
   refine lr 1 rfl trivial ?_
   refine WL.nil (WQ.thenNormal (WC.seq ?_))
   refine WC.cond rfl (fun hc1 => ?_) (fun hc1 => ?_)
   ·replace h := ite_t hc1 h
    refine WC.skip (WQ.thenNormal (WC.seq (WC.block (WC.seq (WC.region ?_)))))
    obtain ⟨g1, h⟩ := grd h
    replace h := bnd h; obtain ⟨x2, hxx2, h⟩ := h
    refine WL.q [] rfl rfl rfl (q_idx tbOk rfl (by exact trivial) g1 (map_get (f := eLInt_i64) hxx2)) ?_
    refine lr 2 rfl trivial ?_
    refine WL.nil (WQ.thenNormal (WC.region ?_))
    refine lr 2 rfl trivial ?_
    obtain ⟨g2, h⟩ := grd h
    refine WL.append tbOk ((newslice2 ++ x2).map eInt_i64) [33, 1006] ap26 rfl rfl rfl rfl (fun _ e => by cases e; rfl) (by exact trivial) (map_cells (f := eInt_i64) (xs := x2) fun _ => rfl) (by have := g2; simp only [List.length_map, List.length_nil, List.length_cons] at this ⊢; omega) rfl rfl (by simp only [List.map_append]; try rfl) rfl ?_
    refine lr 1 rfl trivial ?_
    refine WL.nil (WQ.blockNormal (WQ.thenNormal (WC.region ?_)))
    refine lr 2 rfl trivial ?_
    refine WL.nil ?_
    cases h
    exact WQ.next [(1006, 33)] ((IntKind.i64.wrap (t27 + (1 : Int))), (newslice2 ++ x2)) ⟨(by exact ⟨rfl, rfl, rfl, rfl, trivial⟩), (by exact ⟨rfl, trivial⟩), rfl, rfl, rfl, rfl⟩ (hn1 _ hf1)
   ·replace h := ite_f hc1 h
    refine WC.exit (WQ.thenExit ?_)
    cases h
    have he := he1 _ hf1
    subst he
    replace h := hk1
    try dsimp only at h
    refine WQ.thenExit (WQ.blockExit ?_)
    exact WQ.cut [] newslice2 ⟨(by exact ⟨rfl, trivial⟩), (by exact ⟨rfl, trivial⟩), rfl, rfl, rfl, rfl⟩ h
  ·intro newslice h
   replace h : concatInt_j2 newslice = some _ := h
   unfold concatInt_j2 at h
   show WC _ _ _ ⟨[(6, .r 1006)], [(1006, .row 3 1 (newslice.map eInt_i64))]⟩ _ _
   refine WC.seq (WC.region ?_)
   refine lr 2 rfl trivial ?_
   refine WL.nil (WQ.thenNormal (WC.ret ?_))
   cases h
   exact WQ.rets tbOk hR [(500, 1006)] (.inl rfl) rfl rfl (Le.refl _) (by exact ⟨rfl, trivial⟩) rfl rfl rfl rfl

theorem testOf_n_con {wg : World} (hw : WG wg) (n : Nat) : ∀ {r1 : ApiRule} {r : RuleTest} (h : testOf_n n r1 = some r), Con Tryz.prog wg gl 35 [.v (.agg [.int .i64 r1.Kind, .int .i64 r1.Digits, .sl 1 (r1.Except.map eStr), .int .i64 r1.Tolerance, .int .i64 r1.Limit, .str r1.Name, .sl 7 (r1.Args.map eApiRule)])] [] (.v (.ifc (tRuleTest r) (pRuleTest r))) [] := by
 induction n with
 | zero => intros; rename_i h; cases h
 | succ n ih =>
 intro r1 r h
 replace h : testOf_F (testOf_n n) r1 = some r := h
 unfold testOf_F at h
 refine con_of_WC (S := slotsOf 0 _) Tryz.func35 rfl Tryz.ntmps35 rfl (fun t x hx => (slotsOf_get hx).2) ?_
 intro F L w ρ0 R hR
 show WC _ _ _ ⟨[(0, .v (.agg [.int .i64 r1.Kind, .int .i64 r1.Digits, .sl 1 (r1.Except.map eStr), .int .i64 r1.Tolerance, .int .i64 r1.Limit, .str r1.Name, .sl 7 (r1.Args.map eApiRule)]))], []⟩ _ _
 refine WC.seq (WC.region ?_)
 refine lr 2 rfl trivial ?_
 refine WL.nil (WQ.thenNormal (WC.seq (WC.region ?_)))
 refine lr 1 rfl trivial ?_
 refine WL.nil (WQ.thenNormal (WC.seq (WC.seq (WC.region ?_))))
 refine lr 2 rfl trivial ?_
 refine WL.q [] rfl rfl rfl (q_ev tbOk (.v (.int .i64 (r1.Args.length : Int))) rfl (by exact trivial) (by exact lenT)) ?_
 refine lr 1 rfl trivial ?_
 refine WL.nil (WQ.thenNormal ?_)
 refine WC.thenCut (X := (List RuleTest)) (fun gG => ⟨[(3, .r 1003), (1, .p 1 0)], [(1003, .row 63 1 (gG.map eRuleTest)), (1, .blk 37 [.v (.int .i64 r1.Kind), .v (.int .i64 r1.Digits), .v (.sl 1 (r1.Except.map eStr)), .v (.int .i64 r1.Tolerance), .v (.int .i64 r1.Limit), .v (.str r1.Name), .v (.sl 7 (r1.Args.map eApiRule))])]⟩) (fun gG => testOf_j1 (testOf_n n) r1 gG = some r) ?_ ?_
 ·refine WC.block ?_
  obtain ⟨eQ1, hl1, hk1⟩ := bnd h
  clear h
  refine WC.rowNil 3 1003 63 1 rfl rfl ?_
  refine WC.loop (σ := Int × (List RuleTest)) (τ := ((List RuleTest))) (fun sS => ⟨[(9, .v (.int .i64 sS.1)), (8, .v (.int .i64 (r1.Args.length : Int))), (7, .v (.sl 7 (r1.Args.map eApiRule))), (3, .r 1003), (1, .p 1 0)], [(1003, .row 63 1 (sS.2.map eRuleTest)), (1, .blk 37 [.v (.int .i64 r1.Kind), .v (.int .i64 r1.Digits), .v (.sl 1 (r1.Except.map eStr)), .v (.int .i64 r1.Tolerance), .v (.int .i64 r1.Limit), .v (.str r1.Name), .v (.sl 7 (r1.Args.map eApiRule))])]⟩) (testOf_b1 (testOf_n n) r1) [] ((0 : Int), []) hl1 ⟨(by exact ⟨rfl, rfl, rfl, rfl, rfl, trivial⟩), (by exact ⟨rfl, rfl, trivial⟩), rfl, rfl, rfl, rfl⟩ ?_
  rintro ⟨t92, l2⟩ m hn1 he1 hx1
  obtain ⟨o1, hf1⟩ := some_of hx1
  have h := hf1
  unfold testOf_b1 at h
  show WC _ _ _ ⟨[(9, .v (.int .i64 t92)), (8, .v (.int .i64 (r1.Args.length : Int))), (7, .v (.sl 7 (r1.Args.map eApiRule))), (3, .r 1003), (1, .p 1 0)], [(1003, .row 63 1 (l2.map eRuleTest)), (1, .blk 37 [.v (.int .i64 r1.Kind), .v (.int .i64 r1.Digits), .v (.sl 1 (r1.Except.map eStr)), .v (.int .i64 r1.Tolerance), .v (.int .i64 r1.Limit), .v (.str r1.Name), .v (.sl 7 (r1.Args.map eApiRule))])]⟩ _ _
  refine WC.seq (WC.region ?_)
  refine lr 1 rfl trivial ?_
  refine WL.nil (WQ.thenNormal (WC.seq ?_))
  refine WC.cond rfl (fun hc3 => ?_) (fun hc3 => ?_)
  ·replace h := ite_t hc3 h
   refine WC.skip (WQ.thenNormal (WC.seq (WC.block (WC.seq (WC.region ?_)))))
   obtain ⟨g1, h⟩ := grd h
   replace h := bnd h; obtain ⟨x3, hxx3, h⟩ := h
   refine WL.q [] rfl rfl rfl (q_idx tbOk rfl (by exact trivial) g1 (map_getE hxx3 (eApiRule_eq _))) ?_
   refine lr 3 rfl trivial ?_
   refine WL.nil (WQ.thenNormal (WC.region ?_))
   refine lr 2 rfl trivial ?_
   replace h := bnd h; obtain ⟨v3, hvv3, h⟩ := h
   refine WL.call0 fn35 rfl rfl rfl rfl (by exact trivial) rfl (ih hvv3) ?_
   refine lr 1 rfl trivial ?_
   obtain ⟨g2, h⟩ := grd h
   refine WL.append tbOk ((l2 ++ [v3]).map eRuleTest) [17, 1003] ap81 rfl rfl rfl rfl (fun _ e => by cases e; rfl) (by exact trivial) (map_cells (f := eRuleTest) (xs := [v3]) fun _ => rfl) (by have := g2; simp only [List.length_map, List.length_nil, List.length_cons] at this ⊢; omega) rfl rfl (by simp only [List.map_append]; try rfl) rfl ?_
   refine lr 1 rfl trivial ?_
   refine WL.nil (WQ.blockNormal (WQ.thenNormal (WC.region ?_)))
   refine lr 2 rfl trivial ?_
   refine WL.nil ?_
   cases h
   exact WQ.next [(1003, 17)] ((IntKind.i64.wrap (t92 + (1 : Int))), (l2 ++ [v3])) ⟨(by exact ⟨rfl, rfl, rfl, rfl, rfl, trivial⟩), (by exact ⟨rfl, rfl, trivial⟩), rfl, rfl, rfl, rfl⟩ (hn1 _ hf1)
  ·replace h := ite_f hc3 h
   refine WC.exit (WQ.thenExit ?_)
   cases h
   have he := he1 _ hf1
   subst he
   replace h := hk1
   try dsimp only at h
   refine WQ.thenExit (WQ.blockExit ?_)
   exact WQ.cut [] l2 ⟨(by exact ⟨rfl, rfl, trivial⟩), (by exact ⟨rfl, rfl, trivial⟩), rfl, rfl, rfl, rfl⟩ h
 ·intro l h
  replace h : testOf_j1 (testOf_n n) r1 l = some _ := h
  unfold testOf_j1 at h
  show WC _ _ _ ⟨[(3, .r 1003), (1, .p 1 0)], [(1003, .row 63 1 (l.map eRuleTest)), (1, .blk 37 [.v (.int .i64 r1.Kind), .v (.int .i64 r1.Digits), .v (.sl 1 (r1.Except.map eStr)), .v (.int .i64 r1.Tolerance), .v (.int .i64 r1.Limit), .v (.str r1.Name), .v (.sl 7 (r1.Args.map eApiRule))])]⟩ _ _
  refine WC.seq (WC.seq (WC.region ?_))
  refine lr 2 rfl trivial ?_
  refine WL.nil (WQ.thenNormal (WC.block (WC.seq (WC.region ?_))))
  refine lr 2 rfl trivial ?_
  refine WL.nil (WQ.thenNormal ?_)
  refine WC.cond rfl (fun hc1 => ?_) (fun hc1 => ?_)
  ·replace h := ite_t hc1 h
   refine WC.seq ?_
   refine WC.publish 1003 rfl rfl ?_
   refine WC.region ?_
   refine lr 3 rfl trivial ?_
   refine WL.nil (WQ.thenNormal (WC.ret (WQ.blockRet (WQ.thenRet ?_))))
   cases h
   exact WQ.rets tbOk (r := .v (.ifc (tRuleTest (RuleTest.all l)) (pRuleTest (RuleTest.all l)))) hR [] (.inl rfl) rfl rfl (Le.of_eq (congrArg SV.v (RuleTest_all _).symm)) (by exact trivial) rfl rfl rfl rfl
  ·replace h := ite_f hc1 h
   refine WC.seq (WC.region ?_)
   refine lr 2 rfl trivial ?_
   refine WL.nil (WQ.thenNormal ?_)
   refine WC.cond rfl (fun hc2 => ?_) (fun hc2 => ?_)
   ·replace h := ite_t hc2 h
    refine WC.seq ?_
    refine WC.publish 1003 rfl rfl ?_
    refine WC.region ?_
    refine lr 3 rfl trivial ?_
    refine WL.nil (WQ.thenNormal (WC.ret (WQ.blockRet (WQ.thenRet ?_))))
    cases h
    exact WQ.rets tbOk (r := .v (.ifc (tRuleTest (RuleTest.any l)) (pRuleTest (RuleTest.any l)))) hR [] (.inl rfl) rfl rfl (Le.of_eq (congrArg SV.v (RuleTest_any _).symm)) (by exact trivial) rfl rfl rfl rfl
   ·replace h := ite_f hc2 h
    refine WC.skip (WQ.blockNormal (WQ.thenNormal (WC.seq (WC.region ?_))))
    refine lr 4 rfl trivial ?_
    refine WL.nil (WQ.thenNormal (WC.ret ?_))
    cases h
    exact WQ.rets tbOk (r := .v (.ifc (tRuleTest (RuleTest.one (⟨r1⟩ : RuleSingle))) (pRuleTest (RuleTest.one (⟨r1⟩ : RuleSingle))))) hR [] (.inl rfl) rfl rfl (Le.of_eq (congrArg SV.v (RuleTest_one _).symm)) (by exact trivial) rfl rfl rfl rfl
theorem testOf_con {wg : World} (hw : WG wg) {r1 : ApiRule} {r : RuleTest} (h : testOf r1 = some r) : Con Tryz.prog wg gl 35 [.v (.agg [.int .i64 r1.Kind, .int .i64 r1.Digits, .sl 1 (r1.Except.map eStr), .int .i64 r1.Tolerance, .int .i64 r1.Limit, .str r1.Name, .sl 7 (r1.Args.map eApiRule)])] [] (.v (.ifc (tRuleTest r) (pRuleTest r))) [] := testOf_n_con hw _ h

theorem singleW_con {wg : World} (hw : WG wg) {s : RuleSingle} {c : ApiCase} {r : (List Int) × Bool} (h : singleW s c = some r) : Con Tryz.prog wg gl 170 [.v (.agg [.int .i64 s.rule.Kind, .int .i64 s.rule.Digits, .sl 1 (s.rule.Except.map eStr), .int .i64 s.rule.Tolerance, .int .i64 s.rule.Limit, .str s.rule.Name, .sl 7 (s.rule.Args.map eApiRule)]), .v (.agg [.str c.Code, .int .i64 c.Price, .bool c.Obtained, .sl 1 (c.Processes.map eStr), .sl 3 (c.Inputs.map eApiInput)])] [] (.tup [.v (.sl 1 (r.1.map eInt_i64)), .v (.bool r.2)]) [] := by
 unfold singleW at h
 refine con_of_WC (S := slotsOf 0 _) Tryz.func170 rfl Tryz.ntmps170 rfl (fun t x hx => (slotsOf_get hx).2) ?_
 intro F L w ρ0 R hR
 show WC _ _ _ ⟨[(0, .v (.agg [.int .i64 s.rule.Kind, .int .i64 s.rule.Digits, .sl 1 (s.rule.Except.map eStr), .int .i64 s.rule.Tolerance, .int .i64 s.rule.Limit, .str s.rule.Name, .sl 7 (s.rule.Args.map eApiRule)])), (1, .v (.agg [.str c.Code, .int .i64 c.Price, .bool c.Obtained, .sl 1 (c.Processes.map eStr), .sl 3 (c.Inputs.map eApiInput)]))], []⟩ _ _
 refine WC.seq (WC.region ?_)
 refine lr 4 rfl trivial ?_
 refine WL.nil (WQ.thenNormal (WC.seq (WC.region ?_)))
 refine lr 3 rfl trivial ?_
 replace h := bnd h; obtain ⟨v, hvv, h⟩ := h
 refine WL.call0 fn171 rfl rfl rfl rfl (by exact trivial) rfl (holds_con hw hvv) ?_
 refine lr 2 rfl trivial ?_
 refine WL.nil (WQ.thenNormal (WC.ret ?_))
 cases h
 exact WQ.rets tbOk (r := .tup [.v (.sl 1 ([].map eInt_i64)), .v (.bool v)]) hR [] (.inl rfl) rfl rfl (Le.tup (.cons (Le.nil 1) (.cons (Le.refl _) .nil))) (by exact trivial) rfl rfl rfl rfl

theorem singleF_con {wg : World} (hw : WG wg) {s : RuleSingle} {c : ApiCase} {path : (List Int)} {r : (List Int) × Bool} (h : singleF s c path = some r) : Con Tryz.prog wg gl 169 [.v (.agg [.int .i64 s.rule.Kind, .int .i64 s.rule.Digits, .sl 1 (s.rule.Except.map eStr), .int .i64 s.rule.Tolerance, .int .i64 s.rule.Limit, .str s.rule.Name, .sl 7 (s.rule.Args.map eApiRule)]), .v (.agg [.str c.Code, .int .i64 c.Price, .bool c.Obtained, .sl 1 (c.Processes.map eStr), .sl 3 (c.Inputs.map eApiInput)]), .v (.sl 1 (path.map eInt_i64))] [] (.tup [.v (.sl 1 (r.1.map eInt_i64)), .v (.bool r.2)]) [] := by
 unfold singleF at h
 refine con_of_WC (S := slotsOf 0 _) Tryz.func169 rfl Tryz.ntmps169 rfl (fun t x hx => (slotsOf_get hx).2) ?_
 intro F L w ρ0 R hR
 show WC _ _ _ ⟨[(0, .v (.agg [.int .i64 s.rule.Kind, .int .i64 s.rule.Digits, .sl 1 (s.rule.Except.map eStr), .int .i64 s.rule.Tolerance, .int .i64 s.rule.Limit, .str s.rule.Name, .sl 7 (s.rule.Args.map eApiRule)])), (1, .v (.agg [.str c.Code, .int .i64 c.Price, .bool c.Obtained, .sl 1 (c.Processes.map eStr), .sl 3 (c.Inputs.map eApiInput)])), (2, .v (.sl 1 (path.map eInt_i64)))], []⟩ _ _
 refine WC.seq (WC.region ?_)
 refine lr 4 rfl trivial ?_
 refine WL.nil (WQ.thenNormal (WC.seq (WC.region ?_)))
 refine lr 4 rfl trivial ?_
 replace h := bnd h; obtain ⟨v, hvv, h⟩ := h
 refine WL.call0 fn171 rfl rfl rfl rfl (by exact trivial) rfl (holds_con hw hvv) ?_
 refine lr 2 rfl trivial ?_
 refine WL.nil (WQ.thenNormal (WC.ret ?_))
 cases h
 exact WQ.rets tbOk (r := .tup [.v (.sl 1 (path.map eInt_i64)), .v (.bool v)]) hR [] (.inl rfl) rfl rfl (Le.tup (.cons (Le.refl _) (.cons (Le.refl _) .nil))) (by exact trivial) rfl rfl rfl rfl

theorem everyW_con {wg : World} (hw : WG wg) {fM : (RuleTest → ApiCase → Option ((List Int) × Bool))} (ih : ∀ {x : RuleTest} {y0 : ApiCase} {v : (List Int) × Bool}, fM x y0 = some v → ConI Tryz.prog wg gl "customs/rule.witness" (tRuleTest x) (pRuleTest x) [.v (.agg [.str y0.Code, .int .i64 y0.Price, .bool y0.Obtained, .sl 1 (y0.Processes.map eStr), .sl 3 (y0.Inputs.map eApiInput)])] (.tup [.v (.sl 1 (v.1.map eInt_i64)), .v (.bool v.2)])) {l : (List RuleTest)} {c : ApiCase} {r : (List Int) × Bool} (h : everyW fM l c = some r) : Con Tryz.prog wg gl 164 [.v (.sl 1 (l.map eRuleTest)), .v (.agg [.str c.Code, .int .i64 c.Price, .bool c.Obtained, .sl 1 (c.Processes.map eStr), .sl 3 (c.Inputs.map eApiInput)])] [] (.tup [.v (.sl 1 (r.1.map eInt_i64)), .v (.bool r.2)]) [] := by
 unfold everyW at h
 refine con_of_WC (S := slotsOf 0 _) Tryz.func164 rfl Tryz.ntmps164 rfl (fun t x hx => (slotsOf_get hx).2) ?_
 intro F L w ρ0 R hR
 show WC _ _ _ ⟨[(0, .v (.sl 1 (l.map eRuleTest))), (1, .v (.agg [.str c.Code, .int .i64 c.Price, .bool c.Obtained, .sl 1 (c.Processes.map eStr), .sl 3 (c.Inputs.map eApiInput)]))], []⟩ _ _
 refine WC.seq (WC.region ?_)
 refine lr 3 rfl trivial ?_
 refine WL.nil (WQ.thenNormal (WC.seq (WC.region ?_)))
 refine lr 1 rfl trivial ?_
 refine WL.nil (WQ.thenNormal (WC.seq (WC.seq (WC.region ?_))))
 refine lr 1 rfl trivial ?_
 refine WL.q [] rfl rfl rfl (q_ev tbOk (.v (.int .i64 (l.length : Int))) rfl (by exact trivial) (by exact lenT)) ?_
 refine lr 1 rfl trivial ?_
 refine WL.nil (WQ.thenNormal ?_)
 refine WC.thenCut (X := (List Int)) (fun gG => ⟨[(6, .r 1006)], [(1006, .row 3 1 (gG.map eInt_i64))]⟩) (fun gG => everyW_j1 fM gG = some r) ?_ ?_
 ·refine WC.block ?_
  obtain ⟨eQ1, hl1, hk1⟩ := bnd h
  clear h
  refine WC.rowNil 6 1006 3 1 rfl rfl ?_
  refine WC.loop (σ := Int × (List Int)) (τ := (((List Int) × Bool) ⊕ ((List Int)))) (fun sS => ⟨[(13, .v (.int .i64 sS.1)), (12, .v (.int .i64 (l.length : Int))), (11, .v (.sl 1 (l.map eRuleTest))), (6, .r 1006), (3, .p 3 0)], [(1006, .row 3 1 (sS.2.map eInt_i64)), (3, .blk 25 [.v (.str c.Code), .v (.int .i64 c.Price), .v (.bool c.Obtained), .v (.sl 1 (c.Processes.map eStr)), .v (.sl 3 (c.Inputs.map eApiInput))])]⟩) (everyW_b1 fM l c) [] ((0 : Int), []) hl1 ⟨(by exact ⟨rfl, rfl, rfl, rfl, rfl, trivial⟩), (by exact ⟨rfl, rfl, trivial⟩), rfl, rfl, rfl, rfl⟩ ?_
  rintro ⟨t132, path2⟩ m hn1 he1 hx1
  obtain ⟨o1, hf1⟩ := some_of hx1
  have h := hf1
  unfold everyW_b1 at h
  show WC _ _ _ ⟨[(13, .v (.int .i64 t132)), (12, .v (.int .i64 (l.length : Int))), (11, .v (.sl 1 (l.map eRuleTest))), (6, .r 1006), (3, .p 3 0)], [(1006, .row 3 1 (path2.map eInt_i64)), (3, .blk 25 [.v (.str c.Code), .v (.int .i64 c.Price), .v (.bool c.Obtained), .v (.sl 1 (c.Processes.map eStr)), .v (.sl 3 (c.Inputs.map eApiInput))])]⟩ _ _
  refine WC.seq (WC.region ?_)
  refine lr 1 rfl trivial ?_
  refine WL.nil (WQ.thenNormal (WC.seq ?_))
  refine WC.cond rfl (fun hc1 => ?_) (fun hc1 => ?_)
  ·replace h := ite_t hc1 h
   refine WC.skip (WQ.thenNormal (WC.seq (WC.block (WC.seq (WC.region ?_)))))
   obtain ⟨g1, h⟩ := grd h
   replace h := bnd h; obtain ⟨x3, hxx3, h⟩ := h
   refine WL.q [] rfl rfl rfl (q_idx tbOk rfl (by exact trivial) g1 (map_get (f := eRuleTest) hxx3)) ?_
   refine lr 2 rfl trivial ?_
   refine WL.nil (WQ.thenNormal (WC.seq (WC.region ?_)))
   refine lr 2 rfl trivial ?_
   replace h := bnd h; obtain ⟨v3, hvv3, h⟩ := h
   refine WL.meth rfl rfl rfl rfl (by exact trivial) rfl (ih hvv3) ?_
   refine lr 5 rfl trivial ?_
   refine WL.nil (WQ.thenNormal (WC.seq (WC.seq (WC.region ?_))))
   refine lr 2 rfl trivial ?_
   refine WL.nil (WQ.thenNormal ?_)
   refine WC.cond rfl (fun hc2 => ?_) (fun hc2 => ?_)
   ·replace h := ite_t hc2 h
    refine WC.seq (WC.region ?_)
    refine lr 2 rfl trivial ?_
    refine WL.nil (WQ.thenNormal (WC.ret (WQ.thenRet (WQ.blockRet (WQ.thenRet ?_)))))
    cases h
    have he := he1 _ hf1
    subst he
    have h : some ([], false) = some _ := hk1
    refine WQ.thenRet (WQ.blockRet (WQ.thenRet ?_))
    cases h
    exact WQ.rets tbOk (r := .tup [.v (.sl 1 ([].map eInt_i64)), .v (.bool false)]) hR [] (.inl rfl) rfl rfl (Le.tup (.cons (Le.nil 1) (.cons (Le.refl _) .nil))) (by exact trivial) rfl rfl rfl rfl
   ·replace h := ite_f hc2 h
    refine WC.skip (WQ.thenNormal (WC.region ?_))
    refine lr 2 rfl trivial ?_
    obtain ⟨g2, h⟩ := grd h
    refine WL.append tbOk ((path2 ++ v3.1).map eInt_i64) [27, 1006] ap26 rfl rfl rfl rfl (fun _ e => by cases e; rfl) (by exact trivial) (map_cells (f := eInt_i64) (xs := v3.1) fun _ => rfl) (by have := g2; simp only [List.length_map, List.length_nil, List.length_cons] at this ⊢; omega) rfl rfl (by simp only [List.map_append]; try rfl) rfl ?_
    refine lr 1 rfl trivial ?_
    refine WL.nil (WQ.blockNormal (WQ.thenNormal (WC.region ?_)))
    refine lr 2 rfl trivial ?_
    refine WL.nil ?_
    cases h
    exact WQ.next [(1006, 27)] ((IntKind.i64.wrap (t132 + (1 : Int))), (path2 ++ v3.1)) ⟨(by exact ⟨rfl, rfl, rfl, rfl, rfl, trivial⟩), (by exact ⟨rfl, rfl, trivial⟩), rfl, rfl, rfl, rfl⟩ (hn1 _ hf1)
  ·replace h := ite_f hc1 h
   refine WC.exit (WQ.thenExit ?_)
   cases h
   have he := he1 _ hf1
   subst he
   replace h := hk1
   try dsimp only at h
   refine WQ.thenExit (WQ.blockExit ?_)
   exact WQ.cut [] path2 ⟨(by exact ⟨rfl, trivial⟩), (by exact ⟨rfl, trivial⟩), rfl, rfl, rfl, rfl⟩ h
 ·intro path h
  replace h : everyW_j1 fM path = some _ := h
  unfold everyW_j1 at h
  show WC _ _ _ ⟨[(6, .r 1006)], [(1006, .row 3 1 (path.map eInt_i64))]⟩ _ _
  refine WC.seq (WC.region ?_)
  refine lr 3 rfl trivial ?_
  refine WL.nil (WQ.thenNormal (WC.ret ?_))
  refine WQ.publish 1006 rfl rfl ?_
  cases h
  exact WQ.rets tbOk (r := .tup [.v (.sl 1 (path.map eInt_i64)), .v (.bool true)]) hR [] (.inl rfl) rfl rfl (Le.tup (.cons (Le.refl _) (.cons (Le.refl _) .nil))) (by exact trivial) rfl rfl rfl rfl

theorem someW_con {wg : World} (hw : WG wg) {fM : (RuleTest → ApiCase → Option ((List Int) × Bool))} (ih : ∀ {x : RuleTest} {y0 : ApiCase} {v : (List Int) × Bool}, fM x y0 = some v → ConI Tryz.prog wg gl "customs/rule.witness" (tRuleTest x) (pRuleTest x) [.v (.agg [.str y0.Code, .int .i64 y0.Price, .bool y0.Obtained, .sl 1 (y0.Processes.map eStr), .sl 3 (y0.Inputs.map eApiInput)])] (.tup [.v (.sl 1 (v.1.map eInt_i64)), .v (.bool v.2)])) {l : (List RuleTest)} {c : ApiCase} {r : (List Int) × Bool} (h : someW fM l c = some r) : Con Tryz.prog wg gl 166 [.v (.sl 1 (l.map eRuleTest)), .v (.agg [.str c.Code, .int .i64 c.Price, .bool c.Obtained, .sl 1 (c.Processes.map eStr), .sl 3 (c.Inputs.map eApiInput)])] [] (.tup [.v (.sl 1 (r.1.map eInt_i64)), .v (.bool r.2)]) [] := by
 unfold someW at h
 refine con_of_WC (S := slotsOf 0 _) Tryz.func166 rfl Tryz.ntmps166 rfl (fun t x hx => (slotsOf_get hx).2) ?_
 intro F L w ρ0 R hR
 show WC _ _ _ ⟨[(0, .v (.sl 1 (l.map eRuleTest))), (1, .v (.agg [.str c.Code, .int .i64 c.Price, .bool c.Obtained, .sl 1 (c.Processes.map eStr), .sl 3 (c.Inputs.map eApiInput)]))], []⟩ _ _
 refine WC.seq (WC.region ?_)
 refine lr 3 rfl trivial ?_
 refine WL.nil (WQ.thenNormal (WC.seq (WC.seq (WC.region ?_))))
 refine lr 1 rfl trivial ?_
 refine WL.q [] rfl rfl rfl (q_ev tbOk (.v (.int .i64 (l.length : Int))) rfl (by exact trivial) (by exact lenT)) ?_
 refine lr 1 rfl trivial ?_
 refine WL.nil (WQ.thenNormal ?_)
 refine WC.thenCut (X := Unit) (fun gG => ⟨[], []⟩) (fun gG => someW_j1 fM  = some r) ?_ ?_
 ·refine WC.block ?_
  obtain ⟨eQ1, hl1, hk1⟩ := bnd h
  clear h
  refine WC.loop (σ := Int) (τ := (((List Int) × Bool) ⊕ (Unit))) (fun sS => ⟨[(12, .v (.int .i64 sS)), (11, .v (.int .i64 (l.length : Int))), (10, .v (.sl 1 (l.map eRuleTest))), (3, .p 3 0)], [(3, .blk 25 [.v (.str c.Code), .v (.int .i64 c.Price), .v (.bool c.Obtained), .v (.sl 1 (c.Processes.map eStr)), .v (.sl 3 (c.Inputs.map eApiInput))])]⟩) (someW_b1 fM l c) [] (0 : Int) hl1 ⟨(by exact ⟨rfl, rfl, rfl, rfl, trivial⟩), (by exact ⟨rfl, trivial⟩), rfl, rfl, rfl, rfl⟩ ?_
  intro t12 m hn1 he1 hx1
  obtain ⟨o1, hf1⟩ := some_of hx1
  have h := hf1
  unfold someW_b1 at h
  show WC _ _ _ ⟨[(12, .v (.int .i64 t12)), (11, .v (.int .i64 (l.length : Int))), (10, .v (.sl 1 (l.map eRuleTest))), (3, .p 3 0)], [(3, .blk 25 [.v (.str c.Code), .v (.int .i64 c.Price), .v (.bool c.Obtained), .v (.sl 1 (c.Processes.map eStr)), .v (.sl 3 (c.Inputs.map eApiInput))])]⟩ _ _
  refine WC.seq (WC.region ?_)
  refine lr 1 rfl trivial ?_
  refine WL.nil (WQ.thenNormal (WC.seq ?_))
  refine WC.cond rfl (fun hc1 => ?_) (fun hc1 => ?_)
  ·replace h := ite_t hc1 h
   refine WC.skip (WQ.thenNormal (WC.seq (WC.block (WC.seq (WC.region ?_)))))
   refine lr 1 rfl trivial ?_
   obtain ⟨g1, h⟩ := grd h
   replace h := bnd h; obtain ⟨x2, hxx2, h⟩ := h
   refine WL.q [] rfl rfl rfl (q_idx tbOk rfl (by exact trivial) g1 (map_get (f := eRuleTest) hxx2)) ?_
   refine lr 3 rfl trivial ?_
   refine WL.nil (WQ.thenNormal (WC.seq (WC.region ?_)))
   refine lr 2 rfl trivial ?_
   replace h := bnd h; obtain ⟨v3, hvv3, h⟩ := h
   refine WL.meth rfl rfl rfl rfl (by exact trivial) rfl (ih hvv3) ?_
   refine lr 5 rfl trivial ?_
   refine WL.nil (WQ.thenNormal (WC.seq (WC.region ?_)))
   refine lr 1 rfl trivial ?_
   refine WL.nil (WQ.thenNormal ?_)
   refine WC.cond rfl (fun hc2 => ?_) (fun hc2 => ?_)
   ·replace h := ite_t hc2 h
    refine WC.seq (WC.region ?_)
    refine lr 4 rfl trivial ?_
    replace h := bnd h; obtain ⟨v4, hvv4, h⟩ := h
    refine WL.callO [] [(500, 28)] [28] fn167 rfl rfl rfl rfl (by exact trivial) (concatInt_con hw hvv4) rfl rfl (by exact trivial) rfl rfl rfl rfl rfl rfl ?_
    refine lr 2 rfl trivial ?_
    refine WL.nil (WQ.thenNormal (WC.ret (WQ.blockRet (WQ.thenRet ?_))))
    cases h
    have he := he1 _ hf1
    subst he
    have h : some (v4, true) = some _ := hk1
    refine WQ.thenRet (WQ.blockRet (WQ.thenRet ?_))
    refine WQ.publish 28 rfl rfl ?_
    cases h
    exact WQ.rets tbOk (r := .tup [.v (.sl 1 (v4.map eInt_i64)), .v (.bool true)]) hR [] (.inl rfl) rfl rfl (Le.tup (.cons (Le.refl _) (.cons (Le.refl _) .nil))) (by exact trivial) rfl rfl rfl rfl
   ·replace h := ite_f hc2 h
    refine WC.skip (WQ.blockNormal (WQ.thenNormal (WC.region ?_)))
    refine lr 2 rfl trivial ?_
    refine WL.nil ?_
    cases h
    exact WQ.next [] (IntKind.i64.wrap (t12 + (1 : Int))) ⟨(by exact ⟨rfl, rfl, rfl, rfl, trivial⟩), (by exact ⟨rfl, trivial⟩), rfl, rfl, rfl, rfl⟩ (hn1 _ hf1)
  ·replace h := ite_f hc1 h
   refine WC.exit (WQ.thenExit ?_)
   cases h
   have he := he1 _ hf1
   subst he
   replace h := hk1
   try dsimp only at h
   refine WQ.thenExit (WQ.blockExit ?_)
   exact WQ.cut [] () ⟨(by exact trivial), (by exact trivial), rfl, rfl, rfl, rfl⟩ h
 ·intro _ h
  replace h : someW_j1 fM = some _ := h
  unfold someW_j1 at h
  show WC _ _ _ ⟨[], []⟩ _ _
  refine WC.seq (WC.region ?_)
  refine lr 2 rfl trivial ?_
  refine WL.nil (WQ.thenNormal (WC.ret ?_))
  cases h
  exact WQ.rets tbOk (r := .tup [.v (.sl 1 ([].map eInt_i64)), .v (.bool false)]) hR [] (.inl rfl) rfl rfl (Le.tup (.cons (Le.nil 1) (.cons (Le.refl _) .nil))) (by exact trivial) rfl rfl rfl rfl

theorem everyF_con {wg : World} (hw : WG wg) {fM : (RuleTest → ApiCase → (List Int) → Option ((List Int) × Bool))} (ih : ∀ {x : RuleTest} {y0 : ApiCase} {y1 : (List Int)} {v : (List Int) × Bool}, fM x y0 y1 = some v → ConI Tryz.prog wg gl "customs/rule.follow" (tRuleTest x) (pRuleTest x) [.v (.agg [.str y0.Code, .int .i64 y0.Price, .bool y0.Obtained, .sl 1 (y0.Processes.map eStr), .sl 3 (y0.Inputs.map eApiInput)]), .v (.sl 1 (y1.map eInt_i64))] (.tup [.v (.sl 1 (v.1.map eInt_i64)), .v (.bool v.2)])) {l : (List RuleTest)} {c : ApiCase} {path : (List Int)} {r : (List Int) × Bool} (h : everyF fM l c path = some r) : Con Tryz.prog wg gl 163 [.v (.sl 1 (l.map eRuleTest)), .v (.agg [.str c.Code, .int .i64 c.Price, .bool c.Obtained, .sl 1 (c.Processes.map eStr), .sl 3 (c.Inputs.map eApiInput)]), .v (.sl 1 (path.map eInt_i64))] [] (.tup [.v (.sl 1 (r.1.map eInt_i64)), .v (.bool r.2)]) [] := by
 unfold everyF at h
 refine con_of_WC (S := slotsOf 0 _) Tryz.func163 rfl Tryz.ntmps163 rfl (fun t x hx => (slotsOf_get hx).2) ?_
 intro F L w ρ0 R hR
 show WC _ _ _ ⟨[(0, .v (.sl 1 (l.map eRuleTest))), (1, .v (.agg [.str c.Code, .int .i64 c.Price, .bool c.Obtained, .sl 1 (c.Processes.map eStr), .sl 3 (c.Inputs.map eApiInput)])), (2, .v (.sl 1 (path.map eInt_i64)))], []⟩ _ _
 refine WC.seq (WC.region ?_)
 refine lr 3 rfl trivial ?_
 refine WL.nil (WQ.thenNormal (WC.seq (WC.seq (WC.region ?_))))
 refine lr 1 rfl trivial ?_
 refine WL.q [] rfl rfl rfl (q_ev tbOk (.v (.int .i64 (l.length : Int))) rfl (by exact trivial) (by exact lenT)) ?_
 refine lr 1 rfl trivial ?_
 refine WL.nil (WQ.thenNormal ?_)
 refine WC.thenCut (X := (List Int)) (fun gG => ⟨[(2, .v (.sl 1 (gG.map eInt_i64)))], []⟩) (fun gG => everyF_j1 fM gG = some r) ?_ ?_
 ·refine WC.block ?_
  obtain ⟨eQ1, hl1, hk1⟩ := bnd h
  clear h
  refine WC.loop (σ := Int × (List Int)) (τ := (((List Int) × Bool) ⊕ ((List Int)))) (fun sS => ⟨[(14, .v (.int .i64 sS.1)), (13, .v (.int .i64 (l.length : Int))), (12, .v (.sl 1 (l.map eRuleTest))), (4, .p 4 0), (2, .v (.sl 1 (sS.2.map eInt_i64)))], [(4, .blk 25 [.v (.str c.Code), .v (.int .i64 c.Price), .v (.bool c.Obtained), .v (.sl 1 (c.Processes.map eStr)), .v (.sl 3 (c.Inputs.map eApiInput))])]⟩) (everyF_b1 fM l c) [] ((0 : Int), path) hl1 ⟨(by exact ⟨rfl, rfl, rfl, rfl, rfl, trivial⟩), (by exact ⟨rfl, trivial⟩), rfl, rfl, rfl, rfl⟩ ?_
  rintro ⟨t14, path3⟩ m hn1 he1 hx1
  obtain ⟨o1, hf1⟩ := some_of hx1
  have h := hf1
  unfold everyF_b1 at h
  show WC _ _ _ ⟨[(14, .v (.int .i64 t14)), (13, .v (.int .i64 (l.length : Int))), (12, .v (.sl 1 (l.map eRuleTest))), (4, .p 4 0), (2, .v (.sl 1 (path3.map eInt_i64)))], [(4, .blk 25 [.v (.str c.Code), .v (.int .i64 c.Price), .v (.bool c.Obtained), .v (.sl 1 (c.Processes.map eStr)), .v (.sl 3 (c.Inputs.map eApiInput))])]⟩ _ _
  refine WC.seq (WC.region ?_)
  refine lr 1 rfl trivial ?_
  refine WL.nil (WQ.thenNormal (WC.seq ?_))
  refine WC.cond rfl (fun hc1 => ?_) (fun hc1 => ?_)
  ·replace h := ite_t hc1 h
   refine WC.skip (WQ.thenNormal (WC.seq (WC.block (WC.seq (WC.region ?_)))))
   obtain ⟨g1, h⟩ := grd h
   replace h := bnd h; obtain ⟨x2, hxx2, h⟩ := h
   refine WL.q [] rfl rfl rfl (q_idx tbOk rfl (by exact trivial) g1 (map_get (f := eRuleTest) hxx2)) ?_
   refine lr 2 rfl trivial ?_
   refine WL.nil (WQ.thenNormal (WC.seq (WC.region ?_)))
   refine lr 3 rfl trivial ?_
   replace h := bnd h; obtain ⟨v2, hvv2, h⟩ := h
   refine WL.meth rfl rfl rfl rfl (by exact trivial) rfl (ih hvv2) ?_
   refine lr 5 rfl trivial ?_
   refine WL.nil (WQ.thenNormal (WC.seq (WC.seq (WC.region ?_))))
   refine lr 2 rfl trivial ?_
   refine WL.nil (WQ.thenNormal ?_)
   refine WC.cond rfl (fun hc2 => ?_) (fun hc2 => ?_)
   ·replace h := ite_t hc2 h
    refine WC.seq (WC.region ?_)
    refine lr 2 rfl trivial ?_
    refine WL.nil (WQ.thenNormal (WC.ret (WQ.thenRet (WQ.blockRet (WQ.thenRet ?_)))))
    cases h
    have he := he1 _ hf1
    subst he
    have h : some ([], false) = some _ := hk1
    refine WQ.thenRet (WQ.blockRet (WQ.thenRet ?_))
    cases h
    exact WQ.rets tbOk (r := .tup [.v (.sl 1 ([].map eInt_i64)), .v (.bool false)]) hR [] (.inl rfl) rfl rfl (Le.tup (.cons (Le.nil 1) (.cons (Le.refl _) .nil))) (by exact trivial) rfl rfl rfl rfl
   ·replace h := ite_f hc2 h
    refine WC.skip (WQ.thenNormal (WC.region ?_))
    refine lr 2 rfl trivial ?_
    refine WL.nil (WQ.blockNormal (WQ.thenNormal (WC.region ?_)))
    refine lr 2 rfl trivial ?_
    refine WL.nil ?_
    cases h
    exact WQ.next [] ((IntKind.i64.wrap (t14 + (1 : Int))), v2.1) ⟨(by exact ⟨rfl, rfl, rfl, rfl, rfl, trivial⟩), (by exact ⟨rfl, trivial⟩), rfl, rfl, rfl, rfl⟩ (hn1 _ hf1)
  ·replace h := ite_f hc1 h
   refine WC.exit (WQ.thenExit ?_)
   cases h
   have he := he1 _ hf1
   subst he
   replace h := hk1
   try dsimp only at h
   refine WQ.thenExit (WQ.blockExit ?_)
   exact WQ.cut [] path3 ⟨(by exact ⟨rfl, trivial⟩), (by exact trivial), rfl, rfl, rfl, rfl⟩ h
 ·intro path2 h
  replace h : everyF_j1 fM path2 = some _ := h
  unfold everyF_j1 at h
  show WC _ _ _ ⟨[(2, .v (.sl 1 (path2.map eInt_i64)))], []⟩ _ _
  refine WC.seq (WC.region ?_)
  refine lr 3 rfl trivial ?_
  refine WL.nil (WQ.thenNormal (WC.ret ?_))
  cases h
  exact WQ.rets tbOk (r := .tup [.v (.sl 1 (path2.map eInt_i64)), .v (.bool true)]) hR [] (.inl rfl) rfl rfl (Le.tup (.cons (Le.refl _) (.cons (Le.refl _) .nil))) (by exact trivial) rfl rfl rfl rfl

theorem someF_con {wg : World} (hw : WG wg) {fM : (RuleTest → ApiCase → (List Int) → Option ((List Int) × Bool))} (ih : ∀ {x : RuleTest} {y0 : ApiCase} {y1 : (List Int)} {v : (List Int) × Bool}, fM x y0 y1 = some v → ConI Tryz.prog wg gl "customs/rule.follow" (tRuleTest x) (pRuleTest x) [.v (.agg [.str y0.Code, .int .i64 y0.Price, .bool y0.Obtained, .sl 1 (y0.Processes.map eStr), .sl 3 (y0.Inputs.map eApiInput)]), .v (.sl 1 (y1.map eInt_i64))] (.tup [.v (.sl 1 (v.1.map eInt_i64)), .v (.bool v.2)])) {l : (List RuleTest)} {c : ApiCase} {path : (List Int)} {r : (List Int) × Bool} (h : someF fM l c path = some r) : Con Tryz.prog wg gl 165 [.v (.sl 1 (l.map eRuleTest)), .v (.agg [.str c.Code, .int .i64 c.Price, .bool c.Obtained, .sl 1 (c.Processes.map eStr), .sl 3 (c.Inputs.map eApiInput)]), .v (.sl 1 (path.map eInt_i64))] [] (.tup [.v (.sl 1 (r.1.map eInt_i64)), .v (.bool r.2)]) [] := by
 unfold someF at h
 refine con_of_WC (S := slotsOf 0 _) Tryz.func165 rfl Tryz.ntmps165 rfl (fun t x hx => (slotsOf_get hx).2) ?_
 intro F L w ρ0 R hR
 show WC _ _ _ ⟨[(0, .v (.sl 1 (l.map eRuleTest))), (1, .v (.agg [.str c.Code, .int .i64 c.Price, .bool c.Obtained, .sl 1 (c.Processes.map eStr), .sl 3 (c.Inputs.map eApiInput)])), (2, .v (.sl 1 (path.map eInt_i64)))], []⟩ _ _
 refine WC.seq (WC.region ?_)
 refine lr 3 rfl trivial ?_
 refine WL.nil (WQ.thenNormal (WC.seq (WC.seq (WC.region ?_))))
 refine lr 1 rfl trivial ?_
 refine WL.q [] rfl rfl rfl (q_ev tbOk (.v (.int .i64 (path.length : Int))) rfl (by exact trivial) (by exact lenT)) ?_
 refine lr 3 rfl (by exact sideR) ?_
 obtain ⟨g1, h⟩ := grd h
 refine WL.gq [] rfl rfl rfl rfl (fun hg => q_idx tbOk rfl (by exact sideR) (g1 hg).1 (map_getD (f := eInt_i64) (g1 hg).2 (g1 hg).1)) ?_
 refine lr 5 rfl (by exact sideR) ?_
 obtain ⟨g2, h⟩ := grd h
 refine WL.gq [] rfl rfl rfl rfl (fun hg => q_idx tbOk rfl (by exact sideR) (g2 hg).1 (map_getD (f := eInt_i64) (g2 hg).2 (g2 hg).1)) ?_
 refine lr 2 rfl (by exact sideR) ?_
 refine WL.gq [] rfl rfl rfl rfl (fun hg => q_ev tbOk (.v (.int .i64 (l.length : Int))) rfl (by exact sideR) (by exact lenT)) ?_
 refine lr 2 rfl (by exact sideR) ?_
 refine WL.nil (WQ.thenNormal ?_)
 refine WC.cond rfl (fun hc1 => ?_) (fun hc1 => ?_)
 ·replace h := ite_t hc1 h
  refine WC.seq (WC.region ?_)
  refine lr 2 rfl trivial ?_
  refine WL.nil (WQ.thenNormal (WC.ret (WQ.thenRet ?_)))
  cases h
  exact WQ.rets tbOk (r := .tup [.v (.sl 1 ([].map eInt_i64)), .v (.bool false)]) hR [] (.inl rfl) rfl rfl (Le.tup (.cons (Le.nil 1) (.cons (Le.refl _) .nil))) (by exact trivial) rfl rfl rfl rfl
 ·replace h := ite_f hc1 h
  refine WC.skip (WQ.thenNormal (WC.seq (WC.order mixed ?_)))
  refine wr 2 rfl trivial ?_
  replace h := bnd h; obtain ⟨x, hxx, h⟩ := h
  refine WR.q [] rfl rfl rfl (q_idx tbOk rfl (by exact trivial) (by decide) (map_get (f := eInt_i64) hxx)) ?_
  refine wr 1 rfl trivial ?_
  obtain ⟨g3, h⟩ := grd h
  replace h := bnd h; obtain ⟨x2, hxx2, h⟩ := h
  refine WR.q [] rfl rfl rfl (q_idx tbOk rfl (by exact trivial) g3 (map_get (f := eRuleTest) hxx2)) ?_
  refine wr 3 rfl trivial ?_
  obtain ⟨g4, h⟩ := grd h
  refine WR.q [] rfl rfl rfl (q_ev tbOk (.v (.sl 1 ((path.drop (1 : Int).toNat).map eInt_i64))) rfl (by exact sideR) (by exact tdT)) ?_
  refine wr 2 rfl trivial ?_
  replace h := bnd h; obtain ⟨v, hvv, h⟩ := h
  refine WR.meth rfl rfl rfl rfl (by exact trivial) rfl (ih hvv) ?_
  refine wr 4 rfl trivial ?_
  refine WR.nil (by kernel_rfl) (WQ.thenNormal (WC.ret ?_))
  cases h
  exact WQ.rets tbOk (r := .tup [.v (.sl 1 (v.1.map eInt_i64)), .v (.bool v.2)]) hR [] (.inl rfl) rfl rfl (Le.tup (.cons (Le.refl _) (.cons (Le.refl _) .nil))) (by exact trivial) rfl rfl rfl rfl

end Go.Proofs.YtfeleiepnifbcaaGreatDoor
