/- Contracts: the program's functions compute the plain ones; by program (gen.py). -/
import Derived.Test.YtfeleiepnifbcaaGreatDoorLib
import Derived.Test.YtfeleiepnifbcaaGreatDoorPh
import Derived.Test.YtfeleiepnifbcaaGreatDoorCa
import Derived.Test.YtfeleiepnifbcaaGreatDoorCb
set_option linter.unusedVariables false
set_option linter.unusedSimpArgs false
set_option maxHeartbeats 4000000
set_option maxRecDepth 20000
namespace Go.Proofs.YtfeleiepnifbcaaGreatDoor
open Go.V Go.C

theorem r01Add_con {wg : World} (hw : WG wg) {a : Customsref01Wide} {b : Customsref01Wide} {r : Customsref01Wide × Bool} (h : r01Add a b = some r) : Con Tryz.prog wg gl 66 [.v (.agg [.int .u64 a.Hi, .int .u64 a.Lo]), .v (.agg [.int .u64 b.Hi, .int .u64 b.Lo])] [] (.tup [.v (.agg [.int .u64 r.1.Hi, .int .u64 r.1.Lo]), .v (.bool r.2)]) [] := by
 unfold r01Add at h
 refine con_of_WC (S := slotsOf 0 _) Tryz.func66 rfl Tryz.ntmps66 rfl (fun t x hx => (slotsOf_get hx).2) ?_
 intro F L w ρ0 R hR
 show WC _ _ _ ⟨[(0, .v (.agg [.int .u64 a.Hi, .int .u64 a.Lo])), (1, .v (.agg [.int .u64 b.Hi, .int .u64 b.Lo]))], []⟩ _ _
 refine WC.seq (WC.region ?_)
 refine lr 4 rfl trivial ?_
 refine WL.nil (WQ.thenNormal (WC.seq (WC.order mixed ?_)))
 refine wr 12 rfl trivial ?_
 refine WR.nil (by kernel_rfl) (WQ.thenNormal (WC.seq (WC.region ?_)))
 refine lr 5 rfl trivial ?_
 refine WL.nil (WQ.thenNormal (WC.seq (WC.seq (WC.region ?_))))
 refine lr 4 rfl trivial ?_
 refine WL.nil (WQ.thenNormal ?_)
 refine WC.thenCut (X := Bool × Int) (fun gG => ⟨[(8, .v (.bool gG.1)), (7, .v (.int .u64 gG.2)), (6, .v (.int .u64 (IntKind.u64.wrap (a.Lo + b.Lo)))), (4, .p 4 0)], [(4, .blk 90 [.v (.int .u64 0), .v (.int .u64 0)])]⟩) (fun gG => r01Add_j1 a b gG.1 gG.2 = some r) ?_ ?_
 ·refine WC.cond rfl (fun hc1 => ?_) (fun hc1 => ?_)
  ·replace h := ite_t hc1 h
   refine WC.seq (WC.region ?_)
   refine lr 3 rfl trivial ?_
   refine WL.nil (WQ.thenNormal (WC.region ?_))
   refine lr 6 rfl (by exact sideR) ?_
   refine WL.nil ?_
   exact WQ.cut [] ((bif (decide ((IntKind.u64.wrap (a.Hi + b.Hi)) < a.Hi)) then true else ((IntKind.u64.wrap ((IntKind.u64.wrap (a.Hi + b.Hi)) + (1 : Int))) == (0 : Int))), (IntKind.u64.wrap ((IntKind.u64.wrap (a.Hi + b.Hi)) + (1 : Int)))) ⟨(by exact ⟨rfl, rfl, rfl, rfl, trivial⟩), (by exact ⟨rfl, trivial⟩), rfl, rfl, rfl, rfl⟩ h
  ·replace h := ite_f hc1 h
   refine WC.skip ?_
   exact WQ.cut [] ((decide ((IntKind.u64.wrap (a.Hi + b.Hi)) < a.Hi)), (IntKind.u64.wrap (a.Hi + b.Hi))) ⟨(by exact ⟨rfl, rfl, rfl, rfl, trivial⟩), (by exact ⟨rfl, trivial⟩), rfl, rfl, rfl, rfl⟩ h
 ·rintro ⟨over, hi⟩ h
  replace h : r01Add_j1 a b over hi = some _ := h
  unfold r01Add_j1 at h
  show WC _ _ _ ⟨[(8, .v (.bool over)), (7, .v (.int .u64 hi)), (6, .v (.int .u64 (IntKind.u64.wrap (a.Lo + b.Lo)))), (4, .p 4 0)], [(4, .blk 90 [.v (.int .u64 0), .v (.int .u64 0)])]⟩ _ _
  refine WC.seq (WC.region ?_)
  refine lr 6 rfl trivial ?_
  refine WL.nil (WQ.thenNormal (WC.ret ?_))
  cases h
  exact WQ.rets tbOk (r := .tup [.v (.agg [.int .u64 ((⟨hi, (IntKind.u64.wrap (a.Lo + b.Lo))⟩ : Customsref01Wide).Hi), .int .u64 ((⟨hi, (IntKind.u64.wrap (a.Lo + b.Lo))⟩ : Customsref01Wide).Lo)]), .v (.bool over)]) hR [] (.inl rfl) rfl rfl (Le.tup (.cons (Le.refl _) (.cons (Le.refl _) .nil))) (by exact trivial) rfl rfl rfl rfl

theorem r01Mul_con {wg : World} (hw : WG wg) {a : Int} {b : Int} {r : Customsref01Wide} (h : r01Mul a b = some r) : Con Tryz.prog wg gl 52 [.v (.int .u64 a), .v (.int .u64 b)] [] (.v (.agg [.int .u64 r.Hi, .int .u64 r.Lo])) [] := by
 unfold r01Mul at h
 refine con_of_WC (S := slotsOf 0 _) Tryz.func52 rfl Tryz.ntmps52 rfl (fun t x hx => (slotsOf_get hx).2) ?_
 intro F L w ρ0 R hR
 show WC _ _ _ ⟨[(0, .v (.int .u64 a)), (1, .v (.int .u64 b))], []⟩ _ _
 refine WC.seq (WC.region ?_)
 refine lr 1 rfl trivial ?_
 refine WL.nil (WQ.thenNormal (WC.seq (WC.region ?_)))
 refine lr 3 rfl trivial ?_
 refine WL.nil (WQ.thenNormal (WC.seq (WC.seq (WC.region ?_))))
 refine lr 1 rfl trivial ?_
 refine WL.nil (WQ.thenNormal ?_)
 refine WC.thenCut (X := Int × Int) (fun gG => ⟨[(5, .p 5 0), (4, .p 4 0)], [(4, .blk 90 [.v (.int .u64 0), .v (.int .u64 0)]), (5, .blk 90 [.v (.int .u64 gG.1), .v (.int .u64 gG.2)])]⟩) (fun gG => r01Mul_j1 gG.1 gG.2 = some r) ?_ ?_
 ·refine WC.block ?_
  obtain ⟨eQ1, hl1, hk1⟩ := bnd h
  clear h
  refine WC.loop (σ := Int × Int × Int) (τ := (Int × Int)) (fun sS => ⟨[(6, .v (.int .i64 sS.1)), (5, .p 5 0), (4, .p 4 0), (0, .v (.int .u64 a)), (1, .v (.int .u64 b))], [(4, .blk 90 [.v (.int .u64 0), .v (.int .u64 0)]), (5, .blk 90 [.v (.int .u64 sS.2.1), .v (.int .u64 sS.2.2)])]⟩) (r01Mul_b1 a b) [] ((63 : Int), 0, 0) hl1 ⟨(by exact ⟨rfl, rfl, rfl, rfl, rfl, trivial⟩), (by exact ⟨rfl, rfl, trivial⟩), rfl, rfl, rfl, rfl⟩ ?_
  rintro ⟨i, c5_02, c5_12⟩ m hn1 he1 hx1
  obtain ⟨o1, hf1⟩ := some_of hx1
  have h := hf1
  unfold r01Mul_b1 at h
  show WC _ _ _ ⟨[(6, .v (.int .i64 i)), (5, .p 5 0), (4, .p 4 0), (0, .v (.int .u64 a)), (1, .v (.int .u64 b))], [(4, .blk 90 [.v (.int .u64 0), .v (.int .u64 0)]), (5, .blk 90 [.v (.int .u64 c5_02), .v (.int .u64 c5_12)])]⟩ _ _
  refine WC.seq (WC.seq (WC.region ?_))
  refine lr 2 rfl trivial ?_
  refine WL.nil (WQ.thenNormal ?_)
  refine WC.cond rfl (fun hc1 => ?_) (fun hc1 => ?_)
  ·replace h := ite_t hc1 h
   refine WC.skip (WQ.thenNormal (WC.seq ?_))
   refine WC.thenCut (X := Int × Int) (fun gG => ⟨[(6, .v (.int .i64 i)), (5, .p 5 0), (4, .p 4 0), (0, .v (.int .u64 a)), (1, .v (.int .u64 b))], [(4, .blk 90 [.v (.int .u64 0), .v (.int .u64 0)]), (5, .blk 90 [.v (.int .u64 gG.1), .v (.int .u64 gG.2)])]⟩) (fun gG => r01Mul_j2 a b i gG.1 gG.2 = some o1) ?_ ?_
   ·refine WC.block (WC.seq (WC.region ?_))
    refine lr 2 rfl trivial ?_
    replace h := bnd h; obtain ⟨v3, hvv3, h⟩ := h
    refine WL.call0 fn66 rfl rfl rfl rfl (by exact trivial) rfl (r01Add_con hw hvv3) ?_
    refine lr 4 rfl trivial ?_
    refine WL.nil (WQ.thenNormal (WC.seq (WC.region ?_)))
    obtain ⟨g1, h⟩ := grd h
    refine lr 5 rfl (by repeat' (first | exact trivial | assumption | intro _ | exact g1 (by assumption) | apply And.intro | exact sideT | (refine and_i ?_ ?_))) ?_
    refine WL.nil (WQ.thenNormal ?_)
    refine WC.cond rfl (fun hc2 => ?_) (fun hc2 => ?_)
    ·replace h := ite_t hc2 h
     refine WC.region ?_
     refine lr 3 rfl trivial ?_
     replace h := bnd h; obtain ⟨v4, hvv4, h⟩ := h
     refine WL.call0 fn66 rfl rfl rfl rfl (by exact trivial) rfl (r01Add_con hw hvv4) ?_
     refine lr 4 rfl trivial ?_
     refine WL.nil (WQ.blockNormal ?_)
     exact WQ.cut [] (v4.1.Hi, v4.1.Lo) ⟨(by exact ⟨rfl, rfl, rfl, rfl, rfl, trivial⟩), (by exact ⟨rfl, rfl, trivial⟩), rfl, rfl, rfl, rfl⟩ h
    ·replace h := ite_f hc2 h
     refine WC.skip (WQ.blockNormal ?_)
     exact WQ.cut [] (v3.1.Hi, v3.1.Lo) ⟨(by exact ⟨rfl, rfl, rfl, rfl, rfl, trivial⟩), (by exact ⟨rfl, rfl, trivial⟩), rfl, rfl, rfl, rfl⟩ h
   ·rintro ⟨c5_06, c5_16⟩ h
    replace h : r01Mul_j2 a b i c5_06 c5_16 = some _ := h
    unfold r01Mul_j2 at h
    show WC _ _ _ ⟨[(6, .v (.int .i64 i)), (5, .p 5 0), (4, .p 4 0), (0, .v (.int .u64 a)), (1, .v (.int .u64 b))], [(4, .blk 90 [.v (.int .u64 0), .v (.int .u64 0)]), (5, .blk 90 [.v (.int .u64 c5_06), .v (.int .u64 c5_16)])]⟩ _ _
    refine WC.region ?_
    refine lr 3 rfl trivial ?_
    refine WL.nil ?_
    cases h
    exact WQ.next [] ((IntKind.i64.wrap (i - (1 : Int))), c5_06, c5_16) ⟨(by exact ⟨rfl, rfl, rfl, rfl, rfl, trivial⟩), (by exact ⟨rfl, rfl, trivial⟩), rfl, rfl, rfl, rfl⟩ (hn1 _ hf1)
  ·replace h := ite_f hc1 h
   refine WC.exit (WQ.thenExit ?_)
   cases h
   have he := he1 _ hf1
   subst he
   replace h := hk1
   try dsimp only at h
   refine WQ.thenExit (WQ.blockExit ?_)
   exact WQ.cut [] (c5_02, c5_12) ⟨(by exact ⟨rfl, rfl, trivial⟩), (by exact ⟨rfl, rfl, trivial⟩), rfl, rfl, rfl, rfl⟩ h
 ·rintro ⟨c5_0, c5_1⟩ h
  replace h : r01Mul_j1 c5_0 c5_1 = some _ := h
  unfold r01Mul_j1 at h
  show WC _ _ _ ⟨[(5, .p 5 0), (4, .p 4 0)], [(4, .blk 90 [.v (.int .u64 0), .v (.int .u64 0)]), (5, .blk 90 [.v (.int .u64 c5_0), .v (.int .u64 c5_1)])]⟩ _ _
  refine WC.seq (WC.region ?_)
  refine lr 2 rfl trivial ?_
  refine WL.nil (WQ.thenNormal (WC.ret ?_))
  cases h
  exact WQ.rets tbOk hR [] (.inl rfl) rfl rfl (Le.refl _) (by exact trivial) rfl rfl rfl rfl

theorem r01Less_con {wg : World} (hw : WG wg) {a : Customsref01Wide} {b : Customsref01Wide} {r : Bool} (h : r01Less a b = some r) : Con Tryz.prog wg gl 65 [.v (.agg [.int .u64 a.Hi, .int .u64 a.Lo]), .v (.agg [.int .u64 b.Hi, .int .u64 b.Lo])] [] (.v (.bool r)) [] := by
 unfold r01Less at h
 refine con_of_WC (S := slotsOf 0 _) Tryz.func65 rfl Tryz.ntmps65 rfl (fun t x hx => (slotsOf_get hx).2) ?_
 intro F L w ρ0 R hR
 show WC _ _ _ ⟨[(0, .v (.agg [.int .u64 a.Hi, .int .u64 a.Lo])), (1, .v (.agg [.int .u64 b.Hi, .int .u64 b.Lo]))], []⟩ _ _
 refine WC.seq (WC.region ?_)
 refine lr 3 rfl trivial ?_
 refine WL.nil (WQ.thenNormal (WC.seq (WC.region ?_)))
 refine lr 20 rfl (by exact sideR) ?_
 refine WL.nil (WQ.thenNormal (WC.ret ?_))
 cases h
 exact WQ.rets tbOk hR [] (.inl rfl) rfl rfl (Le.refl _) (by exact trivial) rfl rfl rfl rfl

theorem r01Order_con {wg : World} (hw : WG wg) {a : Customsref01Wide} {b : Customsref01Wide} {r : Int} (h : r01Order a b = some r) : Con Tryz.prog wg gl 51 [.v (.agg [.int .u64 a.Hi, .int .u64 a.Lo]), .v (.agg [.int .u64 b.Hi, .int .u64 b.Lo])] [] (.v (.int .i64 r)) [] := by
 unfold r01Order at h
 refine con_of_WC (S := slotsOf 0 _) Tryz.func51 rfl Tryz.ntmps51 rfl (fun t x hx => (slotsOf_get hx).2) ?_
 intro F L w ρ0 R hR
 show WC _ _ _ ⟨[(0, .v (.agg [.int .u64 a.Hi, .int .u64 a.Lo])), (1, .v (.agg [.int .u64 b.Hi, .int .u64 b.Lo]))], []⟩ _ _
 refine WC.seq (WC.region ?_)
 refine lr 3 rfl trivial ?_
 refine WL.nil (WQ.thenNormal (WC.seq (WC.block (WC.seq (WC.region ?_)))))
 refine lr 2 rfl trivial ?_
 replace h := bnd h; obtain ⟨v, hvv, h⟩ := h
 refine WL.call0 fn65 rfl rfl rfl rfl (by exact trivial) rfl (r01Less_con hw hvv) ?_
 refine lr 1 rfl trivial ?_
 refine WL.nil (WQ.thenNormal ?_)
 refine WC.cond rfl (fun hc1 => ?_) (fun hc1 => ?_)
 ·replace h := ite_t hc1 h
  refine WC.seq (WC.region ?_)
  refine lr 1 rfl trivial ?_
  refine WL.nil (WQ.thenNormal (WC.ret (WQ.blockRet (WQ.thenRet ?_))))
  cases h
  exact WQ.rets tbOk hR [] (.inl rfl) rfl rfl (Le.refl _) (by exact trivial) rfl rfl rfl rfl
 ·replace h := ite_f hc1 h
  refine WC.seq (WC.region ?_)
  refine lr 2 rfl trivial ?_
  replace h := bnd h; obtain ⟨v2, hvv2, h⟩ := h
  refine WL.call0 fn65 rfl rfl rfl rfl (by exact trivial) rfl (r01Less_con hw hvv2) ?_
  refine lr 1 rfl trivial ?_
  refine WL.nil (WQ.thenNormal ?_)
  refine WC.cond rfl (fun hc2 => ?_) (fun hc2 => ?_)
  ·replace h := ite_t hc2 h
   refine WC.seq (WC.region ?_)
   refine lr 1 rfl trivial ?_
   refine WL.nil (WQ.thenNormal (WC.ret (WQ.blockRet (WQ.thenRet ?_))))
   cases h
   exact WQ.rets tbOk hR [] (.inl rfl) rfl rfl (Le.refl _) (by exact trivial) rfl rfl rfl rfl
  ·replace h := ite_f hc2 h
   refine WC.skip (WQ.blockNormal (WQ.thenNormal (WC.seq (WC.region ?_))))
   refine lr 1 rfl trivial ?_
   refine WL.nil (WQ.thenNormal (WC.ret ?_))
   cases h
   exact WQ.rets tbOk hR [] (.inl rfl) rfl rfl (Le.refl _) (by exact trivial) rfl rfl rfl rfl

theorem r02Same_con {wg : World} (hw : WG wg) {a : (List Int)} {b : (List Int)} {r : Bool} (h : r02Same a b = some r) : Con Tryz.prog wg gl 19 [.v (.sl 1 (a.map eInt_i64)), .v (.sl 1 (b.map eInt_i64))] [] (.v (.bool r)) [] := by
 unfold r02Same at h
 refine con_of_WC (S := slotsOf 0 _) Tryz.func19 rfl Tryz.ntmps19 rfl (fun t x hx => (slotsOf_get hx).2) ?_
 intro F L w ρ0 R hR
 show WC _ _ _ ⟨[(0, .v (.sl 1 (a.map eInt_i64))), (1, .v (.sl 1 (b.map eInt_i64)))], []⟩ _ _
 refine WC.seq (WC.region ?_)
 refine lr 1 rfl trivial ?_
 refine WL.nil (WQ.thenNormal (WC.seq (WC.seq (WC.region ?_))))
 refine lr 1 rfl trivial ?_
 refine WL.q [] rfl rfl rfl (q_ev tbOk (.v (.int .i64 (a.length : Int))) rfl (by exact trivial) (by exact lenT)) ?_
 refine lr 1 rfl trivial ?_
 refine WL.q [] rfl rfl rfl (q_ev tbOk (.v (.int .i64 (b.length : Int))) rfl (by exact trivial) (by exact lenT)) ?_
 refine lr 1 rfl trivial ?_
 refine WL.nil (WQ.thenNormal ?_)
 refine WC.cond rfl (fun hc1 => ?_) (fun hc1 => ?_)
 ·replace h := ite_t hc1 h
  refine WC.seq (WC.region ?_)
  refine lr 1 rfl trivial ?_
  refine WL.nil (WQ.thenNormal (WC.ret (WQ.thenRet ?_)))
  cases h
  exact WQ.rets tbOk hR [] (.inl rfl) rfl rfl (Le.refl _) (by exact trivial) rfl rfl rfl rfl
 ·replace h := ite_f hc1 h
  refine WC.skip (WQ.thenNormal (WC.seq (WC.seq (WC.region ?_))))
  refine lr 1 rfl trivial ?_
  refine WL.nil (WQ.thenNormal ?_)
  refine WC.thenCut (X := Unit) (fun gG => ⟨[], []⟩) (fun gG => r02Same_j1  = some r) ?_ ?_
  ·refine WC.block ?_
   obtain ⟨eQ1, hl1, hk1⟩ := bnd h
   clear h
   refine WC.loop (σ := Int) (τ := ((Bool) ⊕ (Unit))) (fun sS => ⟨[(5, .v (.int .i64 sS)), (0, .v (.sl 1 (a.map eInt_i64))), (1, .v (.sl 1 (b.map eInt_i64)))], []⟩) (r02Same_b1 a b) [] (0 : Int) hl1 ⟨(by exact ⟨rfl, rfl, rfl, trivial⟩), (by exact trivial), rfl, rfl, rfl, rfl⟩ ?_
   intro i m hn1 he1 hx1
   obtain ⟨o1, hf1⟩ := some_of hx1
   have h := hf1
   unfold r02Same_b1 at h
   show WC _ _ _ ⟨[(5, .v (.int .i64 i)), (0, .v (.sl 1 (a.map eInt_i64))), (1, .v (.sl 1 (b.map eInt_i64)))], []⟩ _ _
   refine WC.seq (WC.seq (WC.region ?_))
   refine lr 2 rfl trivial ?_
   refine WL.q [] rfl rfl rfl (q_ev tbOk (.v (.int .i64 (a.length : Int))) rfl (by exact trivial) (by exact lenT)) ?_
   refine lr 1 rfl trivial ?_
   refine WL.nil (WQ.thenNormal ?_)
   refine WC.cond rfl (fun hc2 => ?_) (fun hc2 => ?_)
   ·replace h := ite_t hc2 h
    refine WC.skip (WQ.thenNormal (WC.seq (WC.block (WC.seq (WC.order mixed ?_)))))
    refine wr 2 rfl trivial ?_
    obtain ⟨g1, h⟩ := grd h
    replace h := bnd h; obtain ⟨x3, hxx3, h⟩ := h
    refine WR.q [] rfl rfl rfl (q_idx tbOk rfl (by exact trivial) g1 (map_get (f := eInt_i64) hxx3)) ?_
    refine wr 3 rfl trivial ?_
    obtain ⟨g2, h⟩ := grd h
    replace h := bnd h; obtain ⟨x4, hxx4, h⟩ := h
    refine WR.q [] rfl rfl rfl (q_idx tbOk rfl (by exact trivial) g2 (map_get (f := eInt_i64) hxx4)) ?_
    refine wr 2 rfl trivial ?_
    refine WR.nil (by kernel_rfl) (WQ.thenNormal ?_)
    refine WC.cond rfl (fun hc3 => ?_) (fun hc3 => ?_)
    ·replace h := ite_t hc3 h
     refine WC.seq (WC.region ?_)
     refine lr 1 rfl trivial ?_
     refine WL.nil (WQ.thenNormal (WC.ret (WQ.blockRet (WQ.thenRet ?_))))
     cases h
     have he := he1 _ hf1
     subst he
     have h : some false = some _ := hk1
     refine WQ.thenRet (WQ.blockRet (WQ.thenRet ?_))
     cases h
     exact WQ.rets tbOk hR [] (.inl rfl) rfl rfl (Le.refl _) (by exact trivial) rfl rfl rfl rfl
    ·replace h := ite_f hc3 h
     refine WC.skip (WQ.blockNormal (WQ.thenNormal (WC.region ?_)))
     refine lr 3 rfl trivial ?_
     refine WL.nil ?_
     cases h
     exact WQ.next [] (IntKind.i64.wrap (i + (1 : Int))) ⟨(by exact ⟨rfl, rfl, rfl, trivial⟩), (by exact trivial), rfl, rfl, rfl, rfl⟩ (hn1 _ hf1)
   ·replace h := ite_f hc2 h
    refine WC.exit (WQ.thenExit ?_)
    cases h
    have he := he1 _ hf1
    subst he
    replace h := hk1
    try dsimp only at h
    refine WQ.thenExit (WQ.blockExit ?_)
    exact WQ.cut [] () ⟨(by exact trivial), (by exact trivial), rfl, rfl, rfl, rfl⟩ h
  ·intro _ h
   replace h : r02Same_j1 = some _ := h
   unfold r02Same_j1 at h
   show WC _ _ _ ⟨[], []⟩ _ _
   refine WC.seq (WC.region ?_)
   refine lr 1 rfl trivial ?_
   refine WL.nil (WQ.thenNormal (WC.ret ?_))
   cases h
   exact WQ.rets tbOk hR [] (.inl rfl) rfl rfl (Le.refl _) (by exact trivial) rfl rfl rfl rfl

theorem refPrefix_con {wg : World} (hw : WG wg) {code : Str} {p : Str} {r : Bool} (h : refPrefix code p = some r) : Con Tryz.prog wg gl 50 [.v (.str code), .v (.str p)] [] (.v (.bool r)) [] := by
 unfold refPrefix at h
 refine con_of_WC (S := slotsOf 0 _) Tryz.func50 rfl Tryz.ntmps50 rfl (fun t x hx => (slotsOf_get hx).2) ?_
 intro F L w ρ0 R hR
 show WC _ _ _ ⟨[(0, .v (.str code)), (1, .v (.str p))], []⟩ _ _
 refine WC.seq (WC.region ?_)
 refine lr 1 rfl trivial ?_
 refine WL.nil (WQ.thenNormal (WC.seq (WC.region ?_)))
 obtain ⟨g1, h⟩ := grd h
 refine lr 14 rfl (by repeat' (first | exact trivial | assumption | intro _ | exact g1 (by assumption) | apply And.intro | exact sideT | (refine and_i ?_ ?_))) ?_
 refine WL.nil (WQ.thenNormal (WC.ret ?_))
 cases h
 exact WQ.rets tbOk hR [] (.inl rfl) rfl rfl (Le.refl _) (by exact trivial) rfl rfl rfl rfl

theorem refHas_con {wg : World} (hw : WG wg) {l : (List Str)} {s : Str} {r : Bool} (h : refHas l s = some r) : Con Tryz.prog wg gl 38 [.v (.sl 1 (l.map eStr)), .v (.str s)] [] (.v (.bool r)) [] := by
 unfold refHas at h
 refine con_of_WC (S := slotsOf 0 _) Tryz.func38 rfl Tryz.ntmps38 rfl (fun t x hx => (slotsOf_get hx).2) ?_
 intro F L w ρ0 R hR
 show WC _ _ _ ⟨[(0, .v (.sl 1 (l.map eStr))), (1, .v (.str s))], []⟩ _ _
 refine WC.seq (WC.region ?_)
 refine lr 1 rfl trivial ?_
 refine WL.nil (WQ.thenNormal (WC.seq (WC.seq (WC.region ?_))))
 refine lr 1 rfl trivial ?_
 refine WL.nil (WQ.thenNormal ?_)
 refine WC.thenCut (X := Unit) (fun gG => ⟨[], []⟩) (fun gG => refHas_j1  = some r) ?_ ?_
 ·refine WC.block ?_
  obtain ⟨eQ1, hl1, hk1⟩ := bnd h
  clear h
  refine WC.loop (σ := Int) (τ := ((Bool) ⊕ (Unit))) (fun sS => ⟨[(5, .v (.int .i64 sS)), (0, .v (.sl 1 (l.map eStr))), (1, .v (.str s))], []⟩) (refHas_b1 l s) [] (0 : Int) hl1 ⟨(by exact ⟨rfl, rfl, rfl, trivial⟩), (by exact trivial), rfl, rfl, rfl, rfl⟩ ?_
  intro i m hn1 he1 hx1
  obtain ⟨o1, hf1⟩ := some_of hx1
  have h := hf1
  unfold refHas_b1 at h
  show WC _ _ _ ⟨[(5, .v (.int .i64 i)), (0, .v (.sl 1 (l.map eStr))), (1, .v (.str s))], []⟩ _ _
  refine WC.seq (WC.seq (WC.region ?_))
  refine lr 2 rfl trivial ?_
  refine WL.q [] rfl rfl rfl (q_ev tbOk (.v (.int .i64 (l.length : Int))) rfl (by exact trivial) (by exact lenT)) ?_
  refine lr 1 rfl trivial ?_
  refine WL.nil (WQ.thenNormal ?_)
  refine WC.cond rfl (fun hc1 => ?_) (fun hc1 => ?_)
  ·replace h := ite_t hc1 h
   refine WC.skip (WQ.thenNormal (WC.seq (WC.block (WC.seq (WC.region ?_)))))
   refine lr 2 rfl trivial ?_
   obtain ⟨g1, h⟩ := grd h
   replace h := bnd h; obtain ⟨x2, hxx2, h⟩ := h
   refine WL.q [] rfl rfl rfl (q_idx tbOk rfl (by exact trivial) g1 (map_get (f := eStr) hxx2)) ?_
   refine lr 3 rfl trivial ?_
   refine WL.nil (WQ.thenNormal ?_)
   refine WC.cond rfl (fun hc2 => ?_) (fun hc2 => ?_)
   ·replace h := ite_t hc2 h
    refine WC.seq (WC.region ?_)
    refine lr 1 rfl trivial ?_
    refine WL.nil (WQ.thenNormal (WC.ret (WQ.blockRet (WQ.thenRet ?_))))
    cases h
    have he := he1 _ hf1
    subst he
    have h : some true = some _ := hk1
    refine WQ.thenRet (WQ.blockRet (WQ.thenRet ?_))
    cases h
    exact WQ.rets tbOk hR [] (.inl rfl) rfl rfl (Le.refl _) (by exact trivial) rfl rfl rfl rfl
   ·replace h := ite_f hc2 h
    refine WC.skip (WQ.blockNormal (WQ.thenNormal (WC.region ?_)))
    refine lr 3 rfl trivial ?_
    refine WL.nil ?_
    cases h
    exact WQ.next [] (IntKind.i64.wrap (i + (1 : Int))) ⟨(by exact ⟨rfl, rfl, rfl, trivial⟩), (by exact trivial), rfl, rfl, rfl, rfl⟩ (hn1 _ hf1)
  ·replace h := ite_f hc1 h
   refine WC.exit (WQ.thenExit ?_)
   cases h
   have he := he1 _ hf1
   subst he
   replace h := hk1
   try dsimp only at h
   refine WQ.thenExit (WQ.blockExit ?_)
   exact WQ.cut [] () ⟨(by exact trivial), (by exact trivial), rfl, rfl, rfl, rfl⟩ h
 ·intro _ h
  replace h : refHas_j1 = some _ := h
  unfold refHas_j1 at h
  show WC _ _ _ ⟨[], []⟩ _ _
  refine WC.seq (WC.region ?_)
  refine lr 1 rfl trivial ?_
  refine WL.nil (WQ.thenNormal (WC.ret ?_))
  cases h
  exact WQ.rets tbOk hR [] (.inl rfl) rfl rfl (Le.refl _) (by exact trivial) rfl rfl rfl rfl

theorem rViolates_con {wg : World} (hw : WG wg) {r1 : ApiRule} {c : ApiCase} {x : ApiInput} {r : Bool} (h : rViolates r1 c x = some r) : Con Tryz.prog wg gl 36 [.v (.agg [.int .i64 r1.Kind, .int .i64 r1.Digits, .sl 1 (r1.Except.map eStr), .int .i64 r1.Tolerance, .int .i64 r1.Limit, .str r1.Name, .sl 7 (r1.Args.map eApiRule)]), .v (.agg [.str c.Code, .int .i64 c.Price, .bool c.Obtained, .sl 1 (c.Processes.map eStr), .sl 3 (c.Inputs.map eApiInput)]), .v (.agg [.str x.Code, .int .i64 x.Value, .bool x.Originating])] [] (.v (.bool r)) [] := by
 unfold rViolates at h
 refine con_of_WC (S := slotsOf 0 _) Tryz.func36 rfl Tryz.ntmps36 rfl (fun t x hx => (slotsOf_get hx).2) ?_
 intro F L w ρ0 R hR
 show WC _ _ _ ⟨[(0, .v (.agg [.int .i64 r1.Kind, .int .i64 r1.Digits, .sl 1 (r1.Except.map eStr), .int .i64 r1.Tolerance, .int .i64 r1.Limit, .str r1.Name, .sl 7 (r1.Args.map eApiRule)])), (1, .v (.agg [.str c.Code, .int .i64 c.Price, .bool c.Obtained, .sl 1 (c.Processes.map eStr), .sl 3 (c.Inputs.map eApiInput)])), (2, .v (.agg [.str x.Code, .int .i64 x.Value, .bool x.Originating]))], []⟩ _ _
 refine WC.seq (WC.region ?_)
 refine lr 4 rfl trivial ?_
 refine WL.nil (WQ.thenNormal (WC.seq (WC.seq (WC.order mixed ?_))))
 obtain ⟨g1, h⟩ := grd h
 obtain ⟨g2, h⟩ := grd h
 refine wr 11 rfl (by repeat' (first | exact trivial | assumption | intro _ | exact g1 (by assumption) | exact g2 (by assumption) | apply And.intro | exact sideT | (refine and_i ?_ ?_))) ?_
 refine WR.nil (by kernel_rfl) (WQ.thenNormal ?_)
 refine WC.cond rfl (fun hc1 => ?_) (fun hc1 => ?_)
 ·replace h := ite_t hc1 h
  refine WC.seq (WC.region ?_)
  refine lr 1 rfl trivial ?_
  refine WL.nil (WQ.thenNormal (WC.ret (WQ.thenRet ?_)))
  cases h
  exact WQ.rets tbOk hR [] (.inl rfl) rfl rfl (Le.refl _) (by exact trivial) rfl rfl rfl rfl
 ·replace h := ite_f hc1 h
  refine WC.skip (WQ.thenNormal (WC.seq (WC.seq (WC.region ?_))))
  refine lr 1 rfl trivial ?_
  refine WL.nil (WQ.thenNormal ?_)
  refine WC.thenCut (X := Unit) (fun gG => ⟨[], []⟩) (fun gG => rViolates_j1  = some r) ?_ ?_
  ·refine WC.block ?_
   obtain ⟨eQ1, hl1, hk1⟩ := bnd h
   clear h
   refine WC.loop (σ := Int) (τ := ((Bool) ⊕ (Unit))) (fun sS => ⟨[(7, .v (.int .i64 sS)), (5, .p 5 0), (3, .p 3 0)], [(3, .blk 37 [.v (.int .i64 r1.Kind), .v (.int .i64 r1.Digits), .v (.sl 1 (r1.Except.map eStr)), .v (.int .i64 r1.Tolerance), .v (.int .i64 r1.Limit), .v (.str r1.Name), .v (.sl 7 (r1.Args.map eApiRule))]), (5, .blk 28 [.v (.str x.Code), .v (.int .i64 x.Value), .v (.bool x.Originating)])]⟩) (rViolates_b1 r1 x) [] (0 : Int) hl1 ⟨(by exact ⟨rfl, rfl, rfl, trivial⟩), (by exact ⟨rfl, rfl, trivial⟩), rfl, rfl, rfl, rfl⟩ ?_
   intro i m hn1 he1 hx1
   obtain ⟨o1, hf1⟩ := some_of hx1
   have h := hf1
   unfold rViolates_b1 at h
   show WC _ _ _ ⟨[(7, .v (.int .i64 i)), (5, .p 5 0), (3, .p 3 0)], [(3, .blk 37 [.v (.int .i64 r1.Kind), .v (.int .i64 r1.Digits), .v (.sl 1 (r1.Except.map eStr)), .v (.int .i64 r1.Tolerance), .v (.int .i64 r1.Limit), .v (.str r1.Name), .v (.sl 7 (r1.Args.map eApiRule))]), (5, .blk 28 [.v (.str x.Code), .v (.int .i64 x.Value), .v (.bool x.Originating)])]⟩ _ _
   refine WC.seq (WC.seq (WC.region ?_))
   refine lr 3 rfl trivial ?_
   refine WL.q [] rfl rfl rfl (q_ev tbOk (.v (.int .i64 (r1.Except.length : Int))) rfl (by exact trivial) (by exact lenT)) ?_
   refine lr 1 rfl trivial ?_
   refine WL.nil (WQ.thenNormal ?_)
   refine WC.cond rfl (fun hc2 => ?_) (fun hc2 => ?_)
   ·replace h := ite_t hc2 h
    refine WC.skip (WQ.thenNormal (WC.seq (WC.block (WC.seq (WC.order mixed ?_)))))
    refine wr 5 rfl trivial ?_
    obtain ⟨g3, h⟩ := grd h
    replace h := bnd h; obtain ⟨x3, hxx3, h⟩ := h
    refine WR.q [] rfl rfl rfl (q_idx tbOk rfl (by exact trivial) g3 (map_get (f := eStr) hxx3)) ?_
    refine wr 1 rfl trivial ?_
    replace h := bnd h; obtain ⟨v2, hvv2, h⟩ := h
    refine WR.call0 fn50 rfl rfl rfl rfl (by exact trivial) rfl (refPrefix_con hw hvv2) ?_
    refine WR.nil (by kernel_rfl) (WQ.thenNormal ?_)
    refine WC.cond rfl (fun hc3 => ?_) (fun hc3 => ?_)
    ·replace h := ite_t hc3 h
     refine WC.seq (WC.region ?_)
     refine lr 1 rfl trivial ?_
     refine WL.nil (WQ.thenNormal (WC.ret (WQ.blockRet (WQ.thenRet ?_))))
     cases h
     have he := he1 _ hf1
     subst he
     have h : some true = some _ := hk1
     refine WQ.thenRet (WQ.blockRet (WQ.thenRet ?_))
     cases h
     exact WQ.rets tbOk hR [] (.inl rfl) rfl rfl (Le.refl _) (by exact trivial) rfl rfl rfl rfl
    ·replace h := ite_f hc3 h
     refine WC.skip (WQ.blockNormal (WQ.thenNormal (WC.region ?_)))
     refine lr 3 rfl trivial ?_
     refine WL.nil ?_
     cases h
     exact WQ.next [] (IntKind.i64.wrap (i + (1 : Int))) ⟨(by exact ⟨rfl, rfl, rfl, trivial⟩), (by exact ⟨rfl, rfl, trivial⟩), rfl, rfl, rfl, rfl⟩ (hn1 _ hf1)
   ·replace h := ite_f hc2 h
    refine WC.exit (WQ.thenExit ?_)
    cases h
    have he := he1 _ hf1
    subst he
    replace h := hk1
    try dsimp only at h
    refine WQ.thenExit (WQ.blockExit ?_)
    exact WQ.cut [] () ⟨(by exact trivial), (by exact trivial), rfl, rfl, rfl, rfl⟩ h
  ·intro _ h
   replace h : rViolates_j1 = some _ := h
   unfold rViolates_j1 at h
   show WC _ _ _ ⟨[], []⟩ _ _
   refine WC.seq (WC.region ?_)
   refine lr 1 rfl trivial ?_
   refine WL.nil (WQ.thenNormal (WC.ret ?_))
   cases h
   exact WQ.rets tbOk hR [] (.inl rfl) rfl rfl (Le.refl _) (by exact trivial) rfl rfl rfl rfl

theorem rWithin_con {wg : World} (hw : WG wg) {sum : Int} {share : Int} {price : Int} {r : Bool} (h : rWithin sum share price = some r) : Con Tryz.prog wg gl 37 [.v (.int .i64 sum), .v (.int .i64 share), .v (.int .i64 price)] [] (.v (.bool r)) [] := by
 unfold rWithin at h
 refine con_of_WC (S := slotsOf 0 _) Tryz.func37 rfl Tryz.ntmps37 rfl (fun t x hx => (slotsOf_get hx).2) ?_
 intro F L w ρ0 R hR
 show WC _ _ _ ⟨[(0, .v (.int .i64 sum)), (1, .v (.int .i64 share)), (2, .v (.int .i64 price))], []⟩ _ _
 refine WC.seq (WC.region ?_)
 refine lr 1 rfl trivial ?_
 refine WL.nil (WQ.thenNormal (WC.seq (WC.region ?_)))
 refine lr 2 rfl trivial ?_
 replace h := bnd h; obtain ⟨v, hvv, h⟩ := h
 refine WL.call0 fn52 rfl rfl rfl rfl (by exact trivial) rfl (r01Mul_con hw hvv) ?_
 refine lr 4 rfl trivial ?_
 replace h := bnd h; obtain ⟨v2, hvv2, h⟩ := h
 refine WL.call0 fn52 rfl rfl rfl rfl (by exact trivial) rfl (r01Mul_con hw hvv2) ?_
 replace h := bnd h; obtain ⟨v3, hvv3, h⟩ := h
 refine WL.call0 fn51 rfl rfl rfl rfl (by exact trivial) rfl (r01Order_con hw hvv3) ?_
 refine lr 2 rfl trivial ?_
 refine WL.nil (WQ.thenNormal (WC.ret ?_))
 cases h
 exact WQ.rets tbOk hR [] (.inl rfl) rfl rfl (Le.refl _) (by exact trivial) rfl rfl rfl rfl

theorem rHolds_n_con {wg : World} (hw : WG wg) (n : Nat) : ∀ {r1 : ApiRule} {c : ApiCase} {r : Bool} (h : rHolds_n n r1 c = some r), Con Tryz.prog wg gl 18 [.v (.agg [.int .i64 r1.Kind, .int .i64 r1.Digits, .sl 1 (r1.Except.map eStr), .int .i64 r1.Tolerance, .int .i64 r1.Limit, .str r1.Name, .sl 7 (r1.Args.map eApiRule)]), .v (.agg [.str c.Code, .int .i64 c.Price, .bool c.Obtained, .sl 1 (c.Processes.map eStr), .sl 3 (c.Inputs.map eApiInput)])] [] (.v (.bool r)) [] := by
 induction n with
 | zero => intros; rename_i h; cases h
 | succ n ih =>
 intro r1 c r h
 replace h : rHolds_F (rHolds_n n) r1 c = some r := h
 unfold rHolds_F at h
 refine con_of_WC (S := slotsOf 0 _) Tryz.func18 rfl Tryz.ntmps18 rfl (fun t x hx => (slotsOf_get hx).2) ?_
 intro F L w ρ0 R hR
 show WC _ _ _ ⟨[(0, .v (.agg [.int .i64 r1.Kind, .int .i64 r1.Digits, .sl 1 (r1.Except.map eStr), .int .i64 r1.Tolerance, .int .i64 r1.Limit, .str r1.Name, .sl 7 (r1.Args.map eApiRule)])), (1, .v (.agg [.str c.Code, .int .i64 c.Price, .bool c.Obtained, .sl 1 (c.Processes.map eStr), .sl 3 (c.Inputs.map eApiInput)]))], []⟩ _ _
 refine WC.seq (WC.region ?_)
 refine lr 3 rfl trivial ?_
 refine WL.nil (WQ.thenNormal (WC.seq (WC.region ?_)))
 refine lr 3 rfl trivial ?_
 refine WL.nil (WQ.thenNormal (WC.seq (WC.seq (WC.region ?_))))
 refine lr 1 rfl trivial ?_
 refine WL.nil (WQ.thenNormal ?_)
 refine WC.thenCut (X := Int × Int) (fun gG => ⟨[(7, .v (.int .i64 (0 : Int))), (6, .v (.int .i64 gG.1)), (5, .v (.int .i64 gG.2)), (3, .p 3 0), (2, .p 2 0)], [(2, .blk 37 [.v (.int .i64 r1.Kind), .v (.int .i64 r1.Digits), .v (.sl 1 (r1.Except.map eStr)), .v (.int .i64 r1.Tolerance), .v (.int .i64 r1.Limit), .v (.str r1.Name), .v (.sl 7 (r1.Args.map eApiRule))]), (3, .blk 25 [.v (.str c.Code), .v (.int .i64 c.Price), .v (.bool c.Obtained), .v (.sl 1 (c.Processes.map eStr)), .v (.sl 3 (c.Inputs.map eApiInput))])]⟩) (fun gG => rHolds_j1 (rHolds_n n) r1 c gG.1 gG.2 = some r) ?_ ?_
 ·refine WC.block ?_
  obtain ⟨eQ2, hl2, hk2⟩ := bnd h
  clear h
  refine WC.loop (σ := Int × Int × Int) (τ := (Int × Int)) (fun sS => ⟨[(8, .v (.int .i64 sS.1)), (7, .v (.int .i64 (0 : Int))), (6, .v (.int .i64 sS.2.1)), (5, .v (.int .i64 sS.2.2)), (3, .p 3 0), (2, .p 2 0)], [(2, .blk 37 [.v (.int .i64 r1.Kind), .v (.int .i64 r1.Digits), .v (.sl 1 (r1.Except.map eStr)), .v (.int .i64 r1.Tolerance), .v (.int .i64 r1.Limit), .v (.str r1.Name), .v (.sl 7 (r1.Args.map eApiRule))]), (3, .blk 25 [.v (.str c.Code), .v (.int .i64 c.Price), .v (.bool c.Obtained), .v (.sl 1 (c.Processes.map eStr)), .v (.sl 3 (c.Inputs.map eApiInput))])]⟩) (rHolds_b2 (rHolds_n n) r1 c) [] ((0 : Int), (0 : Int), (0 : Int)) hl2 ⟨(by exact ⟨rfl, rfl, rfl, rfl, rfl, rfl, trivial⟩), (by exact ⟨rfl, rfl, trivial⟩), rfl, rfl, rfl, rfl⟩ ?_
  rintro ⟨i3, foreign2, sum2⟩ m hn2 he2 hx2
  obtain ⟨o2, hf2⟩ := some_of hx2
  have h := hf2
  unfold rHolds_b2 at h
  show WC _ _ _ ⟨[(8, .v (.int .i64 i3)), (7, .v (.int .i64 (0 : Int))), (6, .v (.int .i64 foreign2)), (5, .v (.int .i64 sum2)), (3, .p 3 0), (2, .p 2 0)], [(2, .blk 37 [.v (.int .i64 r1.Kind), .v (.int .i64 r1.Digits), .v (.sl 1 (r1.Except.map eStr)), .v (.int .i64 r1.Tolerance), .v (.int .i64 r1.Limit), .v (.str r1.Name), .v (.sl 7 (r1.Args.map eApiRule))]), (3, .blk 25 [.v (.str c.Code), .v (.int .i64 c.Price), .v (.bool c.Obtained), .v (.sl 1 (c.Processes.map eStr)), .v (.sl 3 (c.Inputs.map eApiInput))])]⟩ _ _
  refine WC.seq (WC.seq (WC.region ?_))
  refine lr 3 rfl trivial ?_
  refine WL.q [] rfl rfl rfl (q_ev tbOk (.v (.int .i64 (c.Inputs.length : Int))) rfl (by exact trivial) (by exact lenT)) ?_
  refine lr 1 rfl trivial ?_
  refine WL.nil (WQ.thenNormal ?_)
  refine WC.cond rfl (fun hc8 => ?_) (fun hc8 => ?_)
  ·replace h := ite_t hc8 h
   refine WC.skip (WQ.thenNormal (WC.seq ?_))
   refine WC.thenCut (X := Int × Int) (fun gG => ⟨[(8, .v (.int .i64 i3)), (7, .v (.int .i64 (0 : Int))), (6, .v (.int .i64 gG.1)), (5, .v (.int .i64 gG.2)), (3, .p 3 0), (2, .p 2 0)], [(2, .blk 37 [.v (.int .i64 r1.Kind), .v (.int .i64 r1.Digits), .v (.sl 1 (r1.Except.map eStr)), .v (.int .i64 r1.Tolerance), .v (.int .i64 r1.Limit), .v (.str r1.Name), .v (.sl 7 (r1.Args.map eApiRule))]), (3, .blk 25 [.v (.str c.Code), .v (.int .i64 c.Price), .v (.bool c.Obtained), .v (.sl 1 (c.Processes.map eStr)), .v (.sl 3 (c.Inputs.map eApiInput))])]⟩) (fun gG => rHolds_j4 (rHolds_n n) r1 c i3 gG.1 gG.2 = some o2) ?_ ?_
   ·refine WC.block (WC.seq (WC.region ?_))
    refine lr 3 rfl trivial ?_
    obtain ⟨g2, h⟩ := grd h
    replace h := bnd h; obtain ⟨x4, hxx4, h⟩ := h
    refine WL.q [] rfl rfl rfl (q_idx tbOk rfl (by exact trivial) g2 (map_get (f := eApiInput) hxx4)) ?_
    refine lr 3 rfl trivial ?_
    refine WL.nil (WQ.thenNormal (WC.seq (WC.seq (WC.region ?_))))
    refine lr 2 rfl trivial ?_
    refine WL.nil (WQ.thenNormal ?_)
    refine WC.cond rfl (fun hc9 => ?_) (fun hc9 => ?_)
    ·replace h := ite_t hc9 h
     refine WC.exit (WQ.thenExit (WQ.blockExit ?_))
     exact WQ.cut [] (foreign2, sum2) ⟨(by exact ⟨rfl, rfl, rfl, rfl, rfl, rfl, trivial⟩), (by exact ⟨rfl, rfl, trivial⟩), rfl, rfl, rfl, rfl⟩ h
    ·replace h := ite_f hc9 h
     refine WC.skip (WQ.thenNormal (WC.seq (WC.region ?_)))
     refine lr 3 rfl trivial ?_
     refine WL.nil (WQ.thenNormal (WC.seq (WC.region ?_)))
     refine lr 11 rfl (by exact sideR) ?_
     replace h := bnd h; obtain ⟨v7, hvv7, h⟩ := h
     refine WL.gcall0 fn36 rfl rfl rfl rfl rfl (fun _ => (by exact sideR)) rfl (fun hg => (rViolates_con hw (ite_t hg hvv7))) ?_
     refine lr 2 rfl (by exact sideR) ?_
     refine WL.nil (WQ.thenNormal ?_)
     refine WC.cond rfl (fun hc10 => ?_) (fun hc10 => ?_)
     ·replace h := ite_t hc10 h
      refine WC.region ?_
      refine lr 5 rfl trivial ?_
      refine WL.nil (WQ.blockNormal ?_)
      exact WQ.cut [] ((IntKind.i64.wrap (foreign2 + (1 : Int))), (IntKind.i64.wrap (sum2 + x4.Value))) ⟨(by exact ⟨rfl, rfl, rfl, rfl, rfl, rfl, trivial⟩), (by exact ⟨rfl, rfl, trivial⟩), rfl, rfl, rfl, rfl⟩ h
     ·replace h := ite_f hc10 h
      refine WC.skip (WQ.blockNormal ?_)
      exact WQ.cut [] ((IntKind.i64.wrap (foreign2 + (1 : Int))), sum2) ⟨(by exact ⟨rfl, rfl, rfl, rfl, rfl, rfl, trivial⟩), (by exact ⟨rfl, rfl, trivial⟩), rfl, rfl, rfl, rfl⟩ h
   ·rintro ⟨foreign6, sum6⟩ h
    replace h : rHolds_j4 (rHolds_n n) r1 c i3 foreign6 sum6 = some _ := h
    unfold rHolds_j4 at h
    show WC _ _ _ ⟨[(8, .v (.int .i64 i3)), (7, .v (.int .i64 (0 : Int))), (6, .v (.int .i64 foreign6)), (5, .v (.int .i64 sum6)), (3, .p 3 0), (2, .p 2 0)], [(2, .blk 37 [.v (.int .i64 r1.Kind), .v (.int .i64 r1.Digits), .v (.sl 1 (r1.Except.map eStr)), .v (.int .i64 r1.Tolerance), .v (.int .i64 r1.Limit), .v (.str r1.Name), .v (.sl 7 (r1.Args.map eApiRule))]), (3, .blk 25 [.v (.str c.Code), .v (.int .i64 c.Price), .v (.bool c.Obtained), .v (.sl 1 (c.Processes.map eStr)), .v (.sl 3 (c.Inputs.map eApiInput))])]⟩ _ _
    refine WC.region ?_
    refine lr 3 rfl trivial ?_
    refine WL.nil ?_
    cases h
    exact WQ.next [] ((IntKind.i64.wrap (i3 + (1 : Int))), foreign6, sum6) ⟨(by exact ⟨rfl, rfl, rfl, rfl, rfl, rfl, trivial⟩), (by exact ⟨rfl, rfl, trivial⟩), rfl, rfl, rfl, rfl⟩ (hn2 _ hf2)
  ·replace h := ite_f hc8 h
   refine WC.exit (WQ.thenExit ?_)
   cases h
   have he := he2 _ hf2
   subst he
   replace h := hk2
   try dsimp only at h
   refine WQ.thenExit (WQ.blockExit ?_)
   exact WQ.cut [] (foreign2, sum2) ⟨(by exact ⟨rfl, rfl, rfl, rfl, rfl, trivial⟩), (by exact ⟨rfl, rfl, trivial⟩), rfl, rfl, rfl, rfl⟩ h
 ·rintro ⟨foreign, sum⟩ h
  replace h : rHolds_j1 (rHolds_n n) r1 c foreign sum = some _ := h
  unfold rHolds_j1 at h
  show WC _ _ _ ⟨[(7, .v (.int .i64 (0 : Int))), (6, .v (.int .i64 foreign)), (5, .v (.int .i64 sum)), (3, .p 3 0), (2, .p 2 0)], [(2, .blk 37 [.v (.int .i64 r1.Kind), .v (.int .i64 r1.Digits), .v (.sl 1 (r1.Except.map eStr)), .v (.int .i64 r1.Tolerance), .v (.int .i64 r1.Limit), .v (.str r1.Name), .v (.sl 7 (r1.Args.map eApiRule))]), (3, .blk 25 [.v (.str c.Code), .v (.int .i64 c.Price), .v (.bool c.Obtained), .v (.sl 1 (c.Processes.map eStr)), .v (.sl 3 (c.Inputs.map eApiInput))])]⟩ _ _
  refine WC.seq (WC.seq (WC.region ?_))
  refine lr 1 rfl trivial ?_
  refine WL.nil (WQ.thenNormal ?_)
  refine WC.thenCut (X := Int) (fun gG => ⟨[(7, .v (.int .i64 gG)), (6, .v (.int .i64 foreign)), (5, .v (.int .i64 sum)), (3, .p 3 0), (2, .p 2 0)], [(2, .blk 37 [.v (.int .i64 r1.Kind), .v (.int .i64 r1.Digits), .v (.sl 1 (r1.Except.map eStr)), .v (.int .i64 r1.Tolerance), .v (.int .i64 r1.Limit), .v (.str r1.Name), .v (.sl 7 (r1.Args.map eApiRule))]), (3, .blk 25 [.v (.str c.Code), .v (.int .i64 c.Price), .v (.bool c.Obtained), .v (.sl 1 (c.Processes.map eStr)), .v (.sl 3 (c.Inputs.map eApiInput))])]⟩) (fun gG => rHolds_j2 (rHolds_n n) r1 c foreign sum gG = some r) ?_ ?_
  ·refine WC.block ?_
   obtain ⟨eQ1, hl1, hk1⟩ := bnd h
   clear h
   refine WC.loop (σ := Int × Int) (τ := (Int)) (fun sS => ⟨[(10, .v (.int .i64 sS.1)), (7, .v (.int .i64 sS.2)), (6, .v (.int .i64 foreign)), (5, .v (.int .i64 sum)), (3, .p 3 0), (2, .p 2 0)], [(2, .blk 37 [.v (.int .i64 r1.Kind), .v (.int .i64 r1.Digits), .v (.sl 1 (r1.Except.map eStr)), .v (.int .i64 r1.Tolerance), .v (.int .i64 r1.Limit), .v (.str r1.Name), .v (.sl 7 (r1.Args.map eApiRule))]), (3, .blk 25 [.v (.str c.Code), .v (.int .i64 c.Price), .v (.bool c.Obtained), .v (.sl 1 (c.Processes.map eStr)), .v (.sl 3 (c.Inputs.map eApiInput))])]⟩) (rHolds_b1 (rHolds_n n) r1 c foreign sum) [] ((0 : Int), (0 : Int)) hl1 ⟨(by exact ⟨rfl, rfl, rfl, rfl, rfl, rfl, trivial⟩), (by exact ⟨rfl, rfl, trivial⟩), rfl, rfl, rfl, rfl⟩ ?_
   rintro ⟨i, n12⟩ m hn1 he1 hx1
   obtain ⟨o1, hf1⟩ := some_of hx1
   have h := hf1
   unfold rHolds_b1 at h
   show WC _ _ _ ⟨[(10, .v (.int .i64 i)), (7, .v (.int .i64 n12)), (6, .v (.int .i64 foreign)), (5, .v (.int .i64 sum)), (3, .p 3 0), (2, .p 2 0)], [(2, .blk 37 [.v (.int .i64 r1.Kind), .v (.int .i64 r1.Digits), .v (.sl 1 (r1.Except.map eStr)), .v (.int .i64 r1.Tolerance), .v (.int .i64 r1.Limit), .v (.str r1.Name), .v (.sl 7 (r1.Args.map eApiRule))]), (3, .blk 25 [.v (.str c.Code), .v (.int .i64 c.Price), .v (.bool c.Obtained), .v (.sl 1 (c.Processes.map eStr)), .v (.sl 3 (c.Inputs.map eApiInput))])]⟩ _ _
   refine WC.seq (WC.seq (WC.region ?_))
   refine lr 3 rfl trivial ?_
   refine WL.q [] rfl rfl rfl (q_ev tbOk (.v (.int .i64 (r1.Args.length : Int))) rfl (by exact trivial) (by exact lenT)) ?_
   refine lr 1 rfl trivial ?_
   refine WL.nil (WQ.thenNormal ?_)
   refine WC.cond rfl (fun hc6 => ?_) (fun hc6 => ?_)
   ·replace h := ite_t hc6 h
    refine WC.skip (WQ.thenNormal (WC.seq ?_))
    refine WC.thenCut (X := Int) (fun gG => ⟨[(7, .v (.int .i64 gG)), (10, .v (.int .i64 i)), (6, .v (.int .i64 foreign)), (5, .v (.int .i64 sum)), (3, .p 3 0), (2, .p 2 0)], [(2, .blk 37 [.v (.int .i64 r1.Kind), .v (.int .i64 r1.Digits), .v (.sl 1 (r1.Except.map eStr)), .v (.int .i64 r1.Tolerance), .v (.int .i64 r1.Limit), .v (.str r1.Name), .v (.sl 7 (r1.Args.map eApiRule))]), (3, .blk 25 [.v (.str c.Code), .v (.int .i64 c.Price), .v (.bool c.Obtained), .v (.sl 1 (c.Processes.map eStr)), .v (.sl 3 (c.Inputs.map eApiInput))])]⟩) (fun gG => rHolds_j3 (rHolds_n n) r1 c foreign sum i gG = some o1) ?_ ?_
    ·refine WC.block (WC.seq (WC.order mixed ?_))
     refine wr 3 rfl trivial ?_
     obtain ⟨g1, h⟩ := grd h
     replace h := bnd h; obtain ⟨x2, hxx2, h⟩ := h
     refine WR.q [] rfl rfl rfl (q_idx tbOk rfl (by exact trivial) g1 (map_getE hxx2 (eApiRule_eq _))) ?_
     refine wr 2 rfl trivial ?_
     replace h := bnd h; obtain ⟨v5, hvv5, h⟩ := h
     refine WR.call0 fn18 rfl rfl rfl rfl (by exact trivial) rfl (ih hvv5) ?_
     refine WR.nil (by kernel_rfl) (WQ.thenNormal ?_)
     refine WC.cond rfl (fun hc7 => ?_) (fun hc7 => ?_)
     ·replace h := ite_t hc7 h
      refine WC.region ?_
      refine lr 3 rfl trivial ?_
      refine WL.nil (WQ.blockNormal ?_)
      exact WQ.cut [] (IntKind.i64.wrap (n12 + (1 : Int))) ⟨(by exact ⟨rfl, rfl, rfl, rfl, rfl, rfl, trivial⟩), (by exact ⟨rfl, rfl, trivial⟩), rfl, rfl, rfl, rfl⟩ h
     ·replace h := ite_f hc7 h
      refine WC.skip (WQ.blockNormal ?_)
      exact WQ.cut [] n12 ⟨(by exact ⟨rfl, rfl, rfl, rfl, rfl, rfl, trivial⟩), (by exact ⟨rfl, rfl, trivial⟩), rfl, rfl, rfl, rfl⟩ h
    ·intro n16 h
     replace h : rHolds_j3 (rHolds_n n) r1 c foreign sum i n16 = some _ := h
     unfold rHolds_j3 at h
     show WC _ _ _ ⟨[(7, .v (.int .i64 n16)), (10, .v (.int .i64 i)), (6, .v (.int .i64 foreign)), (5, .v (.int .i64 sum)), (3, .p 3 0), (2, .p 2 0)], [(2, .blk 37 [.v (.int .i64 r1.Kind), .v (.int .i64 r1.Digits), .v (.sl 1 (r1.Except.map eStr)), .v (.int .i64 r1.Tolerance), .v (.int .i64 r1.Limit), .v (.str r1.Name), .v (.sl 7 (r1.Args.map eApiRule))]), (3, .blk 25 [.v (.str c.Code), .v (.int .i64 c.Price), .v (.bool c.Obtained), .v (.sl 1 (c.Processes.map eStr)), .v (.sl 3 (c.Inputs.map eApiInput))])]⟩ _ _
     refine WC.region ?_
     refine lr 3 rfl trivial ?_
     refine WL.nil ?_
     cases h
     exact WQ.next [] ((IntKind.i64.wrap (i + (1 : Int))), n16) ⟨(by exact ⟨rfl, rfl, rfl, rfl, rfl, rfl, trivial⟩), (by exact ⟨rfl, rfl, trivial⟩), rfl, rfl, rfl, rfl⟩ (hn1 _ hf1)
   ·replace h := ite_f hc6 h
    refine WC.exit (WQ.thenExit ?_)
    cases h
    have he := he1 _ hf1
    subst he
    replace h := hk1
    try dsimp only at h
    refine WQ.thenExit (WQ.blockExit ?_)
    exact WQ.cut [] n12 ⟨(by exact ⟨rfl, rfl, rfl, rfl, rfl, trivial⟩), (by exact ⟨rfl, rfl, trivial⟩), rfl, rfl, rfl, rfl⟩ h
  ·intro n1 h
   replace h : rHolds_j2 (rHolds_n n) r1 c foreign sum n1 = some _ := h
   unfold rHolds_j2 at h
   show WC _ _ _ ⟨[(7, .v (.int .i64 n1)), (6, .v (.int .i64 foreign)), (5, .v (.int .i64 sum)), (3, .p 3 0), (2, .p 2 0)], [(2, .blk 37 [.v (.int .i64 r1.Kind), .v (.int .i64 r1.Digits), .v (.sl 1 (r1.Except.map eStr)), .v (.int .i64 r1.Tolerance), .v (.int .i64 r1.Limit), .v (.str r1.Name), .v (.sl 7 (r1.Args.map eApiRule))]), (3, .blk 25 [.v (.str c.Code), .v (.int .i64 c.Price), .v (.bool c.Obtained), .v (.sl 1 (c.Processes.map eStr)), .v (.sl 3 (c.Inputs.map eApiInput))])]⟩ _ _
   refine WC.seq (WC.seq (WC.region ?_))
   refine lr 2 rfl trivial ?_
   refine WL.nil (WQ.thenNormal (WC.block (WC.seq (WC.region ?_))))
   refine lr 2 rfl trivial ?_
   refine WL.nil (WQ.thenNormal ?_)
   refine WC.cond rfl (fun hc1 => ?_) (fun hc1 => ?_)
   ·replace h := ite_t hc1 h
    refine WC.seq (WC.region ?_)
    refine lr 7 rfl (by exact sideR) ?_
    refine WL.nil (WQ.thenNormal (WC.ret (WQ.blockRet (WQ.thenRet ?_))))
    cases h
    exact WQ.rets tbOk hR [] (.inl rfl) rfl rfl (Le.refl _) (by exact trivial) rfl rfl rfl rfl
   ·replace h := ite_f hc1 h
    refine WC.seq (WC.region ?_)
    refine lr 2 rfl trivial ?_
    refine WL.nil (WQ.thenNormal ?_)
    refine WC.cond rfl (fun hc2 => ?_) (fun hc2 => ?_)
    ·replace h := ite_t hc2 h
     refine WC.seq (WC.region ?_)
     refine lr 5 rfl trivial ?_
     replace h := bnd h; obtain ⟨v, hvv, h⟩ := h
     refine WL.call0 fn37 rfl rfl rfl rfl (by exact trivial) rfl (rWithin_con hw hvv) ?_
     refine lr 1 rfl trivial ?_
     refine WL.nil (WQ.thenNormal (WC.ret (WQ.blockRet (WQ.thenRet ?_))))
     cases h
     exact WQ.rets tbOk hR [] (.inl rfl) rfl rfl (Le.refl _) (by exact trivial) rfl rfl rfl rfl
    ·replace h := ite_f hc2 h
     refine WC.seq (WC.region ?_)
     refine lr 2 rfl trivial ?_
     refine WL.nil (WQ.thenNormal ?_)
     refine WC.cond rfl (fun hc3 => ?_) (fun hc3 => ?_)
     ·replace h := ite_t hc3 h
      refine WC.seq (WC.region ?_)
      refine lr 5 rfl trivial ?_
      replace h := bnd h; obtain ⟨v2, hvv2, h⟩ := h
      refine WL.call0 fn37 rfl rfl rfl rfl (by exact trivial) rfl (rWithin_con hw hvv2) ?_
      refine lr 1 rfl trivial ?_
      refine WL.nil (WQ.thenNormal (WC.ret (WQ.blockRet (WQ.thenRet ?_))))
      cases h
      exact WQ.rets tbOk hR [] (.inl rfl) rfl rfl (Le.refl _) (by exact trivial) rfl rfl rfl rfl
     ·replace h := ite_f hc3 h
      refine WC.seq (WC.region ?_)
      refine lr 2 rfl trivial ?_
      refine WL.nil (WQ.thenNormal ?_)
      refine WC.cond rfl (fun hc4 => ?_) (fun hc4 => ?_)
      ·replace h := ite_t hc4 h
       refine WC.seq (WC.region ?_)
       refine lr 4 rfl trivial ?_
       replace h := bnd h; obtain ⟨v3, hvv3, h⟩ := h
       refine WL.call0 fn38 rfl rfl rfl rfl (by exact trivial) rfl (refHas_con hw hvv3) ?_
       refine lr 1 rfl trivial ?_
       refine WL.nil (WQ.thenNormal (WC.ret (WQ.blockRet (WQ.thenRet ?_))))
       cases h
       exact WQ.rets tbOk hR [] (.inl rfl) rfl rfl (Le.refl _) (by exact trivial) rfl rfl rfl rfl
      ·replace h := ite_f hc4 h
       refine WC.seq (WC.region ?_)
       refine lr 2 rfl trivial ?_
       refine WL.nil (WQ.thenNormal ?_)
       refine WC.cond rfl (fun hc5 => ?_) (fun hc5 => ?_)
       ·replace h := ite_t hc5 h
        refine WC.seq (WC.region ?_)
        refine lr 3 rfl trivial ?_
        refine WL.q [] rfl rfl rfl (q_ev tbOk (.v (.int .i64 (r1.Args.length : Int))) rfl (by exact trivial) (by exact lenT)) ?_
        refine lr 2 rfl trivial ?_
        refine WL.nil (WQ.thenNormal (WC.ret (WQ.blockRet (WQ.thenRet ?_))))
        cases h
        exact WQ.rets tbOk hR [] (.inl rfl) rfl rfl (Le.refl _) (by exact trivial) rfl rfl rfl rfl
       ·replace h := ite_f hc5 h
        refine WC.skip (WQ.blockNormal (WQ.thenNormal (WC.seq (WC.region ?_))))
        refine lr 3 rfl trivial ?_
        refine WL.nil (WQ.thenNormal (WC.ret ?_))
        cases h
        exact WQ.rets tbOk hR [] (.inl rfl) rfl rfl (Le.refl _) (by exact trivial) rfl rfl rfl rfl
theorem rHolds_con {wg : World} (hw : WG wg) {r1 : ApiRule} {c : ApiCase} {r : Bool} (h : rHolds r1 c = some r) : Con Tryz.prog wg gl 18 [.v (.agg [.int .i64 r1.Kind, .int .i64 r1.Digits, .sl 1 (r1.Except.map eStr), .int .i64 r1.Tolerance, .int .i64 r1.Limit, .str r1.Name, .sl 7 (r1.Args.map eApiRule)]), .v (.agg [.str c.Code, .int .i64 c.Price, .bool c.Obtained, .sl 1 (c.Processes.map eStr), .sl 3 (c.Inputs.map eApiInput)])] [] (.v (.bool r)) [] := rHolds_n_con hw _ h

theorem rWitness_n_con {wg : World} (hw : WG wg) (n : Nat) : ∀ {r1 : ApiRule} {c : ApiCase} {r : (List Int) × Bool} (h : rWitness_n n r1 c = some r), Con Tryz.prog wg gl 16 [.v (.agg [.int .i64 r1.Kind, .int .i64 r1.Digits, .sl 1 (r1.Except.map eStr), .int .i64 r1.Tolerance, .int .i64 r1.Limit, .str r1.Name, .sl 7 (r1.Args.map eApiRule)]), .v (.agg [.str c.Code, .int .i64 c.Price, .bool c.Obtained, .sl 1 (c.Processes.map eStr), .sl 3 (c.Inputs.map eApiInput)])] [] (.tup [.v (.sl 1 (r.1.map eInt_i64)), .v (.bool r.2)]) [] := by
 induction n with
 | zero => intros; rename_i h; cases h
 | succ n ih =>
 intro r1 c r h
 replace h : rWitness_F (rWitness_n n) r1 c = some r := h
 unfold rWitness_F at h
 refine con_of_WC (S := slotsOf 0 _) Tryz.func16 rfl Tryz.ntmps16 rfl (fun t x hx => (slotsOf_get hx).2) ?_
 intro F L w ρ0 R hR
 show WC _ _ _ ⟨[(0, .v (.agg [.int .i64 r1.Kind, .int .i64 r1.Digits, .sl 1 (r1.Except.map eStr), .int .i64 r1.Tolerance, .int .i64 r1.Limit, .str r1.Name, .sl 7 (r1.Args.map eApiRule)])), (1, .v (.agg [.str c.Code, .int .i64 c.Price, .bool c.Obtained, .sl 1 (c.Processes.map eStr), .sl 3 (c.Inputs.map eApiInput)]))], []⟩ _ _
 refine WC.seq (WC.region ?_)
 refine lr 4 rfl trivial ?_
 refine WL.nil (WQ.thenNormal (WC.seq (WC.seq (WC.region ?_))))
 refine lr 2 rfl trivial ?_
 replace h := bnd h; obtain ⟨v, hvv, h⟩ := h
 refine WL.call0 fn18 rfl rfl rfl rfl (by exact trivial) rfl (rHolds_con hw hvv) ?_
 refine lr 1 rfl trivial ?_
 refine WL.nil (WQ.thenNormal ?_)
 refine WC.cond rfl (fun hc1 => ?_) (fun hc1 => ?_)
 ·replace h := ite_t hc1 h
  refine WC.seq (WC.region ?_)
  refine lr 2 rfl trivial ?_
  refine WL.nil (WQ.thenNormal (WC.ret (WQ.thenRet ?_)))
  cases h
  exact WQ.rets tbOk (r := .tup [.v (.sl 1 ([].map eInt_i64)), .v (.bool false)]) hR [] (.inl rfl) rfl rfl (Le.tup (.cons (Le.nil 1) (.cons (Le.refl _) .nil))) (by exact trivial) rfl rfl rfl rfl
 ·replace h := ite_f hc1 h
  refine WC.skip (WQ.thenNormal (WC.seq (WC.region ?_)))
  refine lr 1 rfl trivial ?_
  refine WL.nil (WQ.thenNormal (WC.seq (WC.seq (WC.region ?_))))
  refine lr 1 rfl trivial ?_
  refine WL.nil (WQ.thenNormal ?_)
  refine WC.thenCut (X := (List Int)) (fun gG => ⟨[(6, .r 1006)], [(1006, .row 3 1 (gG.map eInt_i64))]⟩) (fun gG => rWitness_j1 (rWitness_n n) gG = some r) ?_ ?_
  ·refine WC.block ?_
   obtain ⟨eQ1, hl1, hk1⟩ := bnd h
   clear h
   refine WC.rowNil 6 1006 3 1 rfl rfl ?_
   refine WC.loop (σ := Int × (List Int)) (τ := (((List Int) × Bool) ⊕ ((List Int)))) (fun sS => ⟨[(7, .v (.int .i64 sS.1)), (6, .r 1006), (3, .p 3 0), (2, .p 2 0)], [(1006, .row 3 1 (sS.2.map eInt_i64)), (2, .blk 37 [.v (.int .i64 r1.Kind), .v (.int .i64 r1.Digits), .v (.sl 1 (r1.Except.map eStr)), .v (.int .i64 r1.Tolerance), .v (.int .i64 r1.Limit), .v (.str r1.Name), .v (.sl 7 (r1.Args.map eApiRule))]), (3, .blk 25 [.v (.str c.Code), .v (.int .i64 c.Price), .v (.bool c.Obtained), .v (.sl 1 (c.Processes.map eStr)), .v (.sl 3 (c.Inputs.map eApiInput))])]⟩) (rWitness_b1 (rWitness_n n) r1 c) [] ((0 : Int), []) hl1 ⟨(by exact ⟨rfl, rfl, rfl, rfl, trivial⟩), (by exact ⟨rfl, rfl, rfl, trivial⟩), rfl, rfl, rfl, rfl⟩ ?_
   rintro ⟨i2, out3⟩ m hn1 he1 hx1
   obtain ⟨o1, hf1⟩ := some_of hx1
   have h := hf1
   unfold rWitness_b1 at h
   show WC _ _ _ ⟨[(7, .v (.int .i64 i2)), (6, .r 1006), (3, .p 3 0), (2, .p 2 0)], [(1006, .row 3 1 (out3.map eInt_i64)), (2, .blk 37 [.v (.int .i64 r1.Kind), .v (.int .i64 r1.Digits), .v (.sl 1 (r1.Except.map eStr)), .v (.int .i64 r1.Tolerance), .v (.int .i64 r1.Limit), .v (.str r1.Name), .v (.sl 7 (r1.Args.map eApiRule))]), (3, .blk 25 [.v (.str c.Code), .v (.int .i64 c.Price), .v (.bool c.Obtained), .v (.sl 1 (c.Processes.map eStr)), .v (.sl 3 (c.Inputs.map eApiInput))])]⟩ _ _
   refine WC.seq (WC.seq (WC.region ?_))
   refine lr 3 rfl trivial ?_
   refine WL.q [] rfl rfl rfl (q_ev tbOk (.v (.int .i64 (r1.Args.length : Int))) rfl (by exact trivial) (by exact lenT)) ?_
   refine lr 1 rfl trivial ?_
   refine WL.nil (WQ.thenNormal ?_)
   refine WC.cond rfl (fun hc2 => ?_) (fun hc2 => ?_)
   ·replace h := ite_t hc2 h
    refine WC.skip (WQ.thenNormal (WC.seq ?_))
    refine WC.thenCut (X := (List Int)) (fun gG => ⟨[(7, .v (.int .i64 i2)), (6, .r 1006), (3, .p 3 0), (2, .p 2 0)], [(1006, .row 3 1 (gG.map eInt_i64)), (2, .blk 37 [.v (.int .i64 r1.Kind), .v (.int .i64 r1.Digits), .v (.sl 1 (r1.Except.map eStr)), .v (.int .i64 r1.Tolerance), .v (.int .i64 r1.Limit), .v (.str r1.Name), .v (.sl 7 (r1.Args.map eApiRule))]), (3, .blk 25 [.v (.str c.Code), .v (.int .i64 c.Price), .v (.bool c.Obtained), .v (.sl 1 (c.Processes.map eStr)), .v (.sl 3 (c.Inputs.map eApiInput))])]⟩) (fun gG => rWitness_j2 (rWitness_n n) r1 c i2 gG = some o1) ?_ ?_
    ·refine WC.block (WC.seq (WC.order mixed ?_))
     refine wr 3 rfl trivial ?_
     obtain ⟨g1, h⟩ := grd h
     replace h := bnd h; obtain ⟨x3, hxx3, h⟩ := h
     refine WR.q [] rfl rfl rfl (q_idx tbOk rfl (by exact trivial) g1 (map_getE hxx3 (eApiRule_eq _))) ?_
     refine wr 2 rfl trivial ?_
     replace h := bnd h; obtain ⟨v4, hvv4, h⟩ := h
     refine WR.call0 fn16 rfl rfl rfl rfl (by exact trivial) rfl (ih hvv4) ?_
     refine wr 5 rfl trivial ?_
     refine WR.nil (by kernel_rfl) (WQ.thenNormal (WC.seq (WC.seq (WC.region ?_))))
     refine lr 2 rfl trivial ?_
     refine WL.nil (WQ.thenNormal ?_)
     refine WC.cond rfl (fun hc3 => ?_) (fun hc3 => ?_)
     ·replace h := ite_t hc3 h
      refine WC.exit (WQ.thenExit (WQ.blockExit ?_))
      exact WQ.cut [] out3 ⟨(by exact ⟨rfl, rfl, rfl, rfl, trivial⟩), (by exact ⟨rfl, rfl, rfl, trivial⟩), rfl, rfl, rfl, rfl⟩ h
     ·replace h := ite_f hc3 h
      refine WC.skip (WQ.thenNormal (WC.seq (WC.seq (WC.region ?_))))
      refine lr 3 rfl trivial ?_
      refine WL.nil (WQ.thenNormal ?_)
      refine WC.cond rfl (fun hc4 => ?_) (fun hc4 => ?_)
      ·replace h := ite_t hc4 h
       refine WC.seq (WC.region ?_)
       refine lr 1 rfl trivial ?_
       refine WL.buildRow tbOk ([i2].map eInt_i64) rfl rfl rfl rfl (by exact trivial) rfl rfl ?_
       refine lr 1 rfl trivial ?_
       obtain ⟨g2, h⟩ := grd h
       refine WL.append tbOk (([i2] ++ v4.1).map eInt_i64) [39, 37] ap26 rfl rfl rfl rfl (fun _ e => by cases e; rfl) (by exact trivial) (map_cells (f := eInt_i64) (xs := v4.1) fun _ => rfl) (by have := g2; simp only [List.length_map, List.length_nil, List.length_cons] at this ⊢; omega) rfl rfl (by simp only [List.map_append]; try rfl) rfl ?_
       refine lr 2 rfl trivial ?_
       refine WL.nil (WQ.thenNormal (WC.ret (WQ.thenRet (WQ.blockRet (WQ.thenRet ?_)))))
       cases h
       have he := he1 _ hf1
       subst he
       have h : some (([i2] ++ v4.1), true) = some _ := hk1
       refine WQ.thenRet (WQ.blockRet (WQ.thenRet ?_))
       refine WQ.publish 39 rfl rfl ?_
       cases h
       exact WQ.rets tbOk (r := .tup [.v (.sl 1 (([i2] ++ v4.1).map eInt_i64)), .v (.bool true)]) hR [] (.inl rfl) rfl rfl (Le.tup (.cons (Le.refl _) (.cons (Le.refl _) .nil))) (by exact trivial) rfl rfl rfl rfl
      ·replace h := ite_f hc4 h
       refine WC.skip (WQ.thenNormal (WC.region ?_))
       refine lr 2 rfl trivial ?_
       obtain ⟨g3, h⟩ := grd h
       refine WL.append tbOk ((out3 ++ v4.1).map eInt_i64) [42, 1006] ap26 rfl rfl rfl rfl (fun _ e => by cases e; rfl) (by exact trivial) (map_cells (f := eInt_i64) (xs := v4.1) fun _ => rfl) (by have := g3; simp only [List.length_map, List.length_nil, List.length_cons] at this ⊢; omega) rfl rfl (by simp only [List.map_append]; try rfl) rfl ?_
       refine lr 1 rfl trivial ?_
       refine WL.nil (WQ.blockNormal ?_)
       exact WQ.cut [(1006, 42)] (out3 ++ v4.1) ⟨(by exact ⟨rfl, rfl, rfl, rfl, trivial⟩), (by exact ⟨rfl, rfl, rfl, trivial⟩), rfl, rfl, rfl, rfl⟩ h
    ·intro out6 h
     replace h : rWitness_j2 (rWitness_n n) r1 c i2 out6 = some _ := h
     unfold rWitness_j2 at h
     show WC _ _ _ ⟨[(7, .v (.int .i64 i2)), (6, .r 1006), (3, .p 3 0), (2, .p 2 0)], [(1006, .row 3 1 (out6.map eInt_i64)), (2, .blk 37 [.v (.int .i64 r1.Kind), .v (.int .i64 r1.Digits), .v (.sl 1 (r1.Except.map eStr)), .v (.int .i64 r1.Tolerance), .v (.int .i64 r1.Limit), .v (.str r1.Name), .v (.sl 7 (r1.Args.map eApiRule))]), (3, .blk 25 [.v (.str c.Code), .v (.int .i64 c.Price), .v (.bool c.Obtained), .v (.sl 1 (c.Processes.map eStr)), .v (.sl 3 (c.Inputs.map eApiInput))])]⟩ _ _
     refine WC.region ?_
     refine lr 3 rfl trivial ?_
     refine WL.nil ?_
     cases h
     exact WQ.next [] ((IntKind.i64.wrap (i2 + (1 : Int))), out6) ⟨(by exact ⟨rfl, rfl, rfl, rfl, trivial⟩), (by exact ⟨rfl, rfl, rfl, trivial⟩), rfl, rfl, rfl, rfl⟩ (hn1 _ hf1)
   ·replace h := ite_f hc2 h
    refine WC.exit (WQ.thenExit ?_)
    cases h
    have he := he1 _ hf1
    subst he
    replace h := hk1
    try dsimp only at h
    refine WQ.thenExit (WQ.blockExit ?_)
    exact WQ.cut [] out3 ⟨(by exact ⟨rfl, trivial⟩), (by exact ⟨rfl, trivial⟩), rfl, rfl, rfl, rfl⟩ h
  ·intro out h
   replace h : rWitness_j1 (rWitness_n n) out = some _ := h
   unfold rWitness_j1 at h
   show WC _ _ _ ⟨[(6, .r 1006)], [(1006, .row 3 1 (out.map eInt_i64))]⟩ _ _
   refine WC.seq (WC.region ?_)
   refine lr 3 rfl trivial ?_
   refine WL.nil (WQ.thenNormal (WC.ret ?_))
   refine WQ.publish 1006 rfl rfl ?_
   cases h
   exact WQ.rets tbOk (r := .tup [.v (.sl 1 (out.map eInt_i64)), .v (.bool true)]) hR [] (.inl rfl) rfl rfl (Le.tup (.cons (Le.refl _) (.cons (Le.refl _) .nil))) (by exact trivial) rfl rfl rfl rfl
theorem rWitness_con {wg : World} (hw : WG wg) {r1 : ApiRule} {c : ApiCase} {r : (List Int) × Bool} (h : rWitness r1 c = some r) : Con Tryz.prog wg gl 16 [.v (.agg [.int .i64 r1.Kind, .int .i64 r1.Digits, .sl 1 (r1.Except.map eStr), .int .i64 r1.Tolerance, .int .i64 r1.Limit, .str r1.Name, .sl 7 (r1.Args.map eApiRule)]), .v (.agg [.str c.Code, .int .i64 c.Price, .bool c.Obtained, .sl 1 (c.Processes.map eStr), .sl 3 (c.Inputs.map eApiInput)])] [] (.tup [.v (.sl 1 (r.1.map eInt_i64)), .v (.bool r.2)]) [] := rWitness_n_con hw _ h

theorem rVerifyIn_n_con {wg : World} (hw : WG wg) (n : Nat) : ∀ {r1 : ApiRule} {c : ApiCase} {path : (List Int)} {r : (List Int) × Bool} (h : rVerifyIn_n n r1 c path = some r), Con Tryz.prog wg gl 39 [.v (.agg [.int .i64 r1.Kind, .int .i64 r1.Digits, .sl 1 (r1.Except.map eStr), .int .i64 r1.Tolerance, .int .i64 r1.Limit, .str r1.Name, .sl 7 (r1.Args.map eApiRule)]), .v (.agg [.str c.Code, .int .i64 c.Price, .bool c.Obtained, .sl 1 (c.Processes.map eStr), .sl 3 (c.Inputs.map eApiInput)]), .v (.sl 1 (path.map eInt_i64))] [] (.tup [.v (.sl 1 (r.1.map eInt_i64)), .v (.bool r.2)]) [] := by
 induction n with
 | zero => intros; rename_i h; cases h
 | succ n ih =>
 intro r1 c path r h
 replace h : rVerifyIn_F (rVerifyIn_n n) r1 c path = some r := h
 unfold rVerifyIn_F at h
 refine con_of_WC (S := slotsOf 0 _) Tryz.func39 rfl Tryz.ntmps39 rfl (fun t x hx => (slotsOf_get hx).2) ?_
 intro F L w ρ0 R hR
 show WC _ _ _ ⟨[(0, .v (.agg [.int .i64 r1.Kind, .int .i64 r1.Digits, .sl 1 (r1.Except.map eStr), .int .i64 r1.Tolerance, .int .i64 r1.Limit, .str r1.Name, .sl 7 (r1.Args.map eApiRule)])), (1, .v (.agg [.str c.Code, .int .i64 c.Price, .bool c.Obtained, .sl 1 (c.Processes.map eStr), .sl 3 (c.Inputs.map eApiInput)])), (2, .v (.sl 1 (path.map eInt_i64)))], []⟩ _ _
 refine WC.seq (WC.region ?_)
 refine lr 4 rfl trivial ?_
 refine WL.nil (WQ.thenNormal (WC.seq (WC.seq (WC.region ?_))))
 refine lr 2 rfl trivial ?_
 refine WL.nil (WQ.thenNormal ?_)
 refine WC.thenCut (X := Unit) (fun gG => ⟨[(4, .p 4 0), (3, .p 3 0), (2, .v (.sl 1 (path.map eInt_i64)))], [(3, .blk 37 [.v (.int .i64 r1.Kind), .v (.int .i64 r1.Digits), .v (.sl 1 (r1.Except.map eStr)), .v (.int .i64 r1.Tolerance), .v (.int .i64 r1.Limit), .v (.str r1.Name), .v (.sl 7 (r1.Args.map eApiRule))]), (4, .blk 25 [.v (.str c.Code), .v (.int .i64 c.Price), .v (.bool c.Obtained), .v (.sl 1 (c.Processes.map eStr)), .v (.sl 3 (c.Inputs.map eApiInput))])]⟩) (fun gG => rVerifyIn_j1 (rVerifyIn_n n) r1 c path = some r) ?_ ?_
 ·refine WC.block (WC.seq (WC.region ?_))
  refine lr 2 rfl trivial ?_
  refine WL.nil (WQ.thenNormal ?_)
  refine WC.cond rfl (fun hc1 => ?_) (fun hc1 => ?_)
  ·replace h := ite_t hc1 h
   refine WC.seq (WC.seq (WC.region ?_))
   refine lr 1 rfl trivial ?_
   refine WL.nil (WQ.thenNormal ?_)
   refine WC.thenCut (X := (List Int)) (fun gG => ⟨[(2, .v (.sl 1 (gG.map eInt_i64)))], []⟩) (fun gG => rVerifyIn_j2 (rVerifyIn_n n) r1 c path gG = some r) ?_ ?_
   ·refine WC.block ?_
    obtain ⟨eQ1, hl1, hk1⟩ := bnd h
    clear h
    refine WC.loop (σ := Int × (List Int)) (τ := (((List Int) × Bool) ⊕ ((List Int)))) (fun sS => ⟨[(8, .v (.int .i64 sS.1)), (4, .p 4 0), (3, .p 3 0), (2, .v (.sl 1 (sS.2.map eInt_i64)))], [(3, .blk 37 [.v (.int .i64 r1.Kind), .v (.int .i64 r1.Digits), .v (.sl 1 (r1.Except.map eStr)), .v (.int .i64 r1.Tolerance), .v (.int .i64 r1.Limit), .v (.str r1.Name), .v (.sl 7 (r1.Args.map eApiRule))]), (4, .blk 25 [.v (.str c.Code), .v (.int .i64 c.Price), .v (.bool c.Obtained), .v (.sl 1 (c.Processes.map eStr)), .v (.sl 3 (c.Inputs.map eApiInput))])]⟩) (rVerifyIn_b1 (rVerifyIn_n n) r1 c path) [] ((0 : Int), path) hl1 ⟨(by exact ⟨rfl, rfl, rfl, rfl, trivial⟩), (by exact ⟨rfl, rfl, trivial⟩), rfl, rfl, rfl, rfl⟩ ?_
    rintro ⟨i, path3⟩ m hn1 he1 hx1
    obtain ⟨o1, hf1⟩ := some_of hx1
    have h := hf1
    unfold rVerifyIn_b1 at h
    show WC _ _ _ ⟨[(8, .v (.int .i64 i)), (4, .p 4 0), (3, .p 3 0), (2, .v (.sl 1 (path3.map eInt_i64)))], [(3, .blk 37 [.v (.int .i64 r1.Kind), .v (.int .i64 r1.Digits), .v (.sl 1 (r1.Except.map eStr)), .v (.int .i64 r1.Tolerance), .v (.int .i64 r1.Limit), .v (.str r1.Name), .v (.sl 7 (r1.Args.map eApiRule))]), (4, .blk 25 [.v (.str c.Code), .v (.int .i64 c.Price), .v (.bool c.Obtained), .v (.sl 1 (c.Processes.map eStr)), .v (.sl 3 (c.Inputs.map eApiInput))])]⟩ _ _
    refine WC.seq (WC.seq (WC.region ?_))
    refine lr 3 rfl trivial ?_
    refine WL.q [] rfl rfl rfl (q_ev tbOk (.v (.int .i64 (r1.Args.length : Int))) rfl (by exact trivial) (by exact lenT)) ?_
    refine lr 1 rfl trivial ?_
    refine WL.nil (WQ.thenNormal ?_)
    refine WC.cond rfl (fun hc2 => ?_) (fun hc2 => ?_)
    ·replace h := ite_t hc2 h
     refine WC.skip (WQ.thenNormal (WC.seq (WC.block (WC.seq (WC.order mixed ?_)))))
     refine wr 3 rfl trivial ?_
     obtain ⟨g1, h⟩ := grd h
     replace h := bnd h; obtain ⟨x2, hxx2, h⟩ := h
     refine WR.q [] rfl rfl rfl (q_idx tbOk rfl (by exact trivial) g1 (map_getE hxx2 (eApiRule_eq _))) ?_
     refine wr 3 rfl trivial ?_
     replace h := bnd h; obtain ⟨v3, hvv3, h⟩ := h
     refine WR.call0 fn39 rfl rfl rfl rfl (by exact trivial) rfl (ih hvv3) ?_
     refine wr 5 rfl trivial ?_
     refine WR.nil (by kernel_rfl) (WQ.thenNormal (WC.seq (WC.seq (WC.region ?_))))
     refine lr 2 rfl trivial ?_
     refine WL.nil (WQ.thenNormal ?_)
     refine WC.cond rfl (fun hc3 => ?_) (fun hc3 => ?_)
     ·replace h := ite_t hc3 h
      refine WC.seq (WC.region ?_)
      refine lr 2 rfl trivial ?_
      refine WL.nil (WQ.thenNormal (WC.ret (WQ.thenRet (WQ.blockRet (WQ.thenRet ?_)))))
      cases h
      have he := he1 _ hf1
      subst he
      have h : some ([], false) = some _ := hk1
      refine WQ.thenRet (WQ.blockRet (WQ.thenRet (WQ.blockRet (WQ.thenRet ?_))))
      cases h
      exact WQ.rets tbOk (r := .tup [.v (.sl 1 ([].map eInt_i64)), .v (.bool false)]) hR [] (.inl rfl) rfl rfl (Le.tup (.cons (Le.nil 1) (.cons (Le.refl _) .nil))) (by exact trivial) rfl rfl rfl rfl
     ·replace h := ite_f hc3 h
      refine WC.skip (WQ.thenNormal (WC.region ?_))
      refine lr 2 rfl trivial ?_
      refine WL.nil (WQ.blockNormal (WQ.thenNormal (WC.region ?_)))
      refine lr 3 rfl trivial ?_
      refine WL.nil ?_
      cases h
      exact WQ.next [] ((IntKind.i64.wrap (i + (1 : Int))), v3.1) ⟨(by exact ⟨rfl, rfl, rfl, rfl, trivial⟩), (by exact ⟨rfl, rfl, trivial⟩), rfl, rfl, rfl, rfl⟩ (hn1 _ hf1)
    ·replace h := ite_f hc2 h
     refine WC.exit (WQ.thenExit ?_)
     cases h
     have he := he1 _ hf1
     subst he
     replace h := hk1
     try dsimp only at h
     refine WQ.thenExit (WQ.blockExit ?_)
     exact WQ.cut [] path3 ⟨(by exact ⟨rfl, trivial⟩), (by exact trivial), rfl, rfl, rfl, rfl⟩ h
   ·intro path2 h
    replace h : rVerifyIn_j2 (rVerifyIn_n n) r1 c path path2 = some _ := h
    unfold rVerifyIn_j2 at h
    show WC _ _ _ ⟨[(2, .v (.sl 1 (path2.map eInt_i64)))], []⟩ _ _
    refine WC.seq (WC.region ?_)
    refine lr 3 rfl trivial ?_
    refine WL.nil (WQ.thenNormal (WC.ret (WQ.blockRet (WQ.thenRet ?_))))
    cases h
    exact WQ.rets tbOk (r := .tup [.v (.sl 1 (path2.map eInt_i64)), .v (.bool true)]) hR [] (.inl rfl) rfl rfl (Le.tup (.cons (Le.refl _) (.cons (Le.refl _) .nil))) (by exact trivial) rfl rfl rfl rfl
  ·replace h := ite_f hc1 h
   refine WC.seq (WC.region ?_)
   refine lr 2 rfl trivial ?_
   refine WL.nil (WQ.thenNormal ?_)
   refine WC.cond rfl (fun hc4 => ?_) (fun hc4 => ?_)
   ·replace h := ite_t hc4 h
    refine WC.seq (WC.seq (WC.order mixed ?_))
    refine wr 1 rfl trivial ?_
    refine WR.q [] rfl rfl rfl (q_ev tbOk (.v (.int .i64 (path.length : Int))) rfl (by exact trivial) (by exact lenT)) ?_
    refine wr 3 rfl (by exact sideR) ?_
    obtain ⟨g2, h⟩ := grd h
    refine WR.gq [] rfl rfl rfl rfl (fun hg => q_idx tbOk rfl (by exact sideR) (g2 hg).1 (map_getD (f := eInt_i64) (g2 hg).2 (g2 hg).1)) ?_
    refine wr 5 rfl (by exact sideR) ?_
    obtain ⟨g3, h⟩ := grd h
    refine WR.gq [] rfl rfl rfl rfl (fun hg => q_idx tbOk rfl (by exact sideR) (g3 hg).1 (map_getD (f := eInt_i64) (g3 hg).2 (g3 hg).1)) ?_
    refine wr 3 rfl (by exact sideR) ?_
    refine WR.gq [] rfl rfl rfl rfl (fun hg => q_ev tbOk (.v (.int .i64 (r1.Args.length : Int))) rfl (by exact sideR) (by exact lenT)) ?_
    refine wr 2 rfl (by exact sideR) ?_
    refine WR.nil (by kernel_rfl) (WQ.thenNormal ?_)
    refine WC.cond rfl (fun hc5 => ?_) (fun hc5 => ?_)
    ·replace h := ite_t hc5 h
     refine WC.seq (WC.region ?_)
     refine lr 2 rfl trivial ?_
     refine WL.nil (WQ.thenNormal (WC.ret (WQ.thenRet (WQ.blockRet (WQ.thenRet ?_)))))
     cases h
     exact WQ.rets tbOk (r := .tup [.v (.sl 1 ([].map eInt_i64)), .v (.bool false)]) hR [] (.inl rfl) rfl rfl (Le.tup (.cons (Le.nil 1) (.cons (Le.refl _) .nil))) (by exact trivial) rfl rfl rfl rfl
    ·replace h := ite_f hc5 h
     refine WC.skip (WQ.thenNormal (WC.seq (WC.order mixed ?_)))
     refine wr 3 rfl trivial ?_
     replace h := bnd h; obtain ⟨x3, hxx3, h⟩ := h
     refine WR.q [] rfl rfl rfl (q_idx tbOk rfl (by exact trivial) (by decide) (map_get (f := eInt_i64) hxx3)) ?_
     refine wr 1 rfl trivial ?_
     obtain ⟨g4, h⟩ := grd h
     replace h := bnd h; obtain ⟨x4, hxx4, h⟩ := h
     refine WR.q [] rfl rfl rfl (q_idx tbOk rfl (by exact trivial) g4 (map_getE hxx4 (eApiRule_eq _))) ?_
     refine wr 3 rfl trivial ?_
     obtain ⟨g5, h⟩ := grd h
     refine WR.q [] rfl rfl rfl (q_ev tbOk (.v (.sl 1 ((path.drop (1 : Int).toNat).map eInt_i64))) rfl (by exact sideR) (by exact tdT)) ?_
     replace h := bnd h; obtain ⟨v4, hvv4, h⟩ := h
     refine WR.call0 fn39 rfl rfl rfl rfl (by exact trivial) rfl (ih hvv4) ?_
     refine wr 4 rfl trivial ?_
     refine WR.nil (by kernel_rfl) (WQ.thenNormal (WC.ret (WQ.blockRet (WQ.thenRet ?_))))
     cases h
     exact WQ.rets tbOk (r := .tup [.v (.sl 1 (v4.1.map eInt_i64)), .v (.bool v4.2)]) hR [] (.inl rfl) rfl rfl (Le.tup (.cons (Le.refl _) (.cons (Le.refl _) .nil))) (by exact trivial) rfl rfl rfl rfl
   ·replace h := ite_f hc4 h
    refine WC.skip (WQ.blockNormal ?_)
    exact WQ.cut [] () ⟨(by exact ⟨rfl, rfl, rfl, trivial⟩), (by exact ⟨rfl, rfl, trivial⟩), rfl, rfl, rfl, rfl⟩ h
 ·intro _ h
  replace h : rVerifyIn_j1 (rVerifyIn_n n) r1 c path = some _ := h
  unfold rVerifyIn_j1 at h
  show WC _ _ _ ⟨[(4, .p 4 0), (3, .p 3 0), (2, .v (.sl 1 (path.map eInt_i64)))], [(3, .blk 37 [.v (.int .i64 r1.Kind), .v (.int .i64 r1.Digits), .v (.sl 1 (r1.Except.map eStr)), .v (.int .i64 r1.Tolerance), .v (.int .i64 r1.Limit), .v (.str r1.Name), .v (.sl 7 (r1.Args.map eApiRule))]), (4, .blk 25 [.v (.str c.Code), .v (.int .i64 c.Price), .v (.bool c.Obtained), .v (.sl 1 (c.Processes.map eStr)), .v (.sl 3 (c.Inputs.map eApiInput))])]⟩ _ _
  refine WC.seq (WC.region ?_)
  refine lr 3 rfl trivial ?_
  replace h := bnd h; obtain ⟨v, hvv, h⟩ := h
  refine WL.call0 fn18 rfl rfl rfl rfl (by exact trivial) rfl (rHolds_con hw hvv) ?_
  refine lr 2 rfl trivial ?_
  refine WL.nil (WQ.thenNormal (WC.ret ?_))
  cases h
  exact WQ.rets tbOk (r := .tup [.v (.sl 1 (path.map eInt_i64)), .v (.bool v)]) hR [] (.inl rfl) rfl rfl (Le.tup (.cons (Le.refl _) (.cons (Le.refl _) .nil))) (by exact trivial) rfl rfl rfl rfl
theorem rVerifyIn_con {wg : World} (hw : WG wg) {r1 : ApiRule} {c : ApiCase} {path : (List Int)} {r : (List Int) × Bool} (h : rVerifyIn r1 c path = some r) : Con Tryz.prog wg gl 39 [.v (.agg [.int .i64 r1.Kind, .int .i64 r1.Digits, .sl 1 (r1.Except.map eStr), .int .i64 r1.Tolerance, .int .i64 r1.Limit, .str r1.Name, .sl 7 (r1.Args.map eApiRule)]), .v (.agg [.str c.Code, .int .i64 c.Price, .bool c.Obtained, .sl 1 (c.Processes.map eStr), .sl 3 (c.Inputs.map eApiInput)]), .v (.sl 1 (path.map eInt_i64))] [] (.tup [.v (.sl 1 (r.1.map eInt_i64)), .v (.bool r.2)]) [] := rVerifyIn_n_con hw _ h

theorem rVerify_con {wg : World} (hw : WG wg) {r1 : ApiRule} {c : ApiCase} {path : (List Int)} {r : Bool} (h : rVerify r1 c path = some r) : Con Tryz.prog wg gl 22 [.v (.agg [.int .i64 r1.Kind, .int .i64 r1.Digits, .sl 1 (r1.Except.map eStr), .int .i64 r1.Tolerance, .int .i64 r1.Limit, .str r1.Name, .sl 7 (r1.Args.map eApiRule)]), .v (.agg [.str c.Code, .int .i64 c.Price, .bool c.Obtained, .sl 1 (c.Processes.map eStr), .sl 3 (c.Inputs.map eApiInput)]), .v (.sl 1 (path.map eInt_i64))] [] (.v (.bool r)) [] := by
 unfold rVerify at h
 refine con_of_WC (S := slotsOf 0 _) Tryz.func22 rfl Tryz.ntmps22 rfl (fun t x hx => (slotsOf_get hx).2) ?_
 intro F L w ρ0 R hR
 show WC _ _ _ ⟨[(0, .v (.agg [.int .i64 r1.Kind, .int .i64 r1.Digits, .sl 1 (r1.Except.map eStr), .int .i64 r1.Tolerance, .int .i64 r1.Limit, .str r1.Name, .sl 7 (r1.Args.map eApiRule)])), (1, .v (.agg [.str c.Code, .int .i64 c.Price, .bool c.Obtained, .sl 1 (c.Processes.map eStr), .sl 3 (c.Inputs.map eApiInput)])), (2, .v (.sl 1 (path.map eInt_i64)))], []⟩ _ _
 refine WC.seq (WC.region ?_)
 refine lr 3 rfl trivial ?_
 refine WL.nil (WQ.thenNormal (WC.seq (WC.region ?_)))
 refine lr 3 rfl trivial ?_
 replace h := bnd h; obtain ⟨v, hvv, h⟩ := h
 refine WL.call0 fn39 rfl rfl rfl rfl (by exact trivial) rfl (rVerifyIn_con hw hvv) ?_
 refine lr 5 rfl trivial ?_
 refine WL.nil (WQ.thenNormal (WC.seq (WC.region ?_)))
 refine lr 3 rfl (by exact sideR) ?_
 refine WL.gq [] rfl rfl rfl rfl (fun hg => q_ev tbOk (.v (.int .i64 (v.1.length : Int))) rfl (by exact sideR) (by exact lenT)) ?_
 refine lr 3 rfl (by exact sideR) ?_
 refine WL.nil (WQ.thenNormal (WC.ret ?_))
 cases h
 exact WQ.rets tbOk hR [] (.inl rfl) rfl rfl (Le.refl _) (by exact trivial) rfl rfl rfl rfl

end Go.Proofs.YtfeleiepnifbcaaGreatDoor
