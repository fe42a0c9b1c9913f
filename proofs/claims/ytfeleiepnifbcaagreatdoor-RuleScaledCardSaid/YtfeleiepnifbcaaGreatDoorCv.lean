/- Contracts: the program's functions compute the plain ones; by program (gen.py). -/
import Derived.Test.YtfeleiepnifbcaaGreatDoorLib
import Derived.Test.YtfeleiepnifbcaaGreatDoorPv
import Derived.Test.YtfeleiepnifbcaaGreatDoorCa
import Derived.Test.YtfeleiepnifbcaaGreatDoorCb
import Derived.Test.YtfeleiepnifbcaaGreatDoorCc
import Derived.Test.YtfeleiepnifbcaaGreatDoorCd
import Derived.Test.YtfeleiepnifbcaaGreatDoorCe
import Derived.Test.YtfeleiepnifbcaaGreatDoorCf
import Derived.Test.YtfeleiepnifbcaaGreatDoorCh
set_option linter.unusedVariables false
set_option linter.unusedSimpArgs false
set_option maxHeartbeats 4000000
set_option maxRecDepth 20000
namespace Go.Proofs.YtfeleiepnifbcaaGreatDoor
open Go.V Go.C

theorem awake12_con {wg : World} (hw : WG wg)  {r : Bool} (h : awake12  = some r) : Con Tryz.prog wg gl 13 [] [] (.v (.bool r)) [] := by
 unfold awake12 at h
 refine con_of_WC (S := slotsOf 0 _) Tryz.func13 rfl Tryz.ntmps13 rfl (fun t x hx => (slotsOf_get hx).2) ?_
 intro F L w ρ0 R hR
 show WC _ _ _ ⟨[], []⟩ _ _
 refine WC.seq (WC.region ?_)
 refine lr 1 rfl trivial ?_
 refine WL.nil (WQ.thenNormal (WC.seq (WC.region ?_)))
 refine lr 1 rfl trivial ?_
 refine WL.nil (WQ.thenNormal (WC.seq (WC.region ?_)))
 refine lr 1 rfl trivial ?_
 replace h := bnd h; obtain ⟨v, hvv, h⟩ := h
 refine WL.call0 fn31 rfl rfl rfl rfl (by exact trivial) rfl (ruleParse_con hw hvv) ?_
 refine lr 6 rfl trivial ?_
 refine WL.nil (WQ.thenNormal (WC.seq (WC.region ?_)))
 refine lr 6 rfl trivial ?_
 refine WL.nil (WQ.thenNormal (WC.seq (WC.region ?_)))
 refine lr 2 rfl trivial ?_
 replace h := bnd h; obtain ⟨v2, hvv2, h⟩ := h
 refine WL.call0 fn15 rfl rfl rfl rfl (by exact trivial) rfl (witness_con hw hvv2) ?_
 refine lr 5 rfl trivial ?_
 refine WL.nil (WQ.thenNormal (WC.seq (WC.region ?_)))
 refine lr 4 rfl (by exact sideR) ?_
 replace h := bnd h; obtain ⟨v3, hvv3, h⟩ := h
 refine WL.gcall0 fn32 rfl rfl rfl rfl rfl (fun _ => (by exact sideR)) rfl (fun hg => (ruleFormat_con hw (ite_t hg hvv3))) ?_
 refine lr 6 rfl (by exact sideR) ?_
 replace h := bnd h; obtain ⟨v4, hvv4, h⟩ := h
 refine WL.gcall0 fn17 rfl rfl rfl rfl rfl (fun _ => (by exact sideR)) rfl (fun hg => (ruleHolds_con hw (ite_t hg hvv4))) ?_
 refine lr 6 rfl (by exact sideR) ?_
 refine WL.gmake tbOk (x := .v (.sl 1 ([(1 : Int)].map eInt_i64))) rfl rfl rfl rfl rfl (fun _ => (by exact sideR)) ?_
 replace h := bnd h; obtain ⟨v5, hvv5, h⟩ := h
 refine WL.gcall0 fn19 rfl rfl rfl rfl rfl (fun _ => (by exact sideR)) rfl (fun hg => (r02Same_con hw (ite_t hg hvv5))) ?_
 refine lr 4 rfl (by exact sideR) ?_
 refine WL.gmake tbOk (x := .v (.sl 1 ([(1 : Int)].map eInt_i64))) rfl rfl rfl rfl rfl (fun _ => (by exact sideR)) ?_
 replace h := bnd h; obtain ⟨v6, hvv6, h⟩ := h
 refine WL.gcall0 fn20 rfl rfl rfl rfl rfl (fun _ => (by exact sideR)) rfl (fun hg => (verify_con hw (ite_t hg hvv6))) ?_
 refine lr 4 rfl (by exact sideR) ?_
 refine WL.gmake tbOk (x := .v (.sl 1 ([(0 : Int)].map eInt_i64))) rfl rfl rfl rfl rfl (fun _ => (by exact sideR)) ?_
 replace h := bnd h; obtain ⟨v7, hvv7, h⟩ := h
 refine WL.gcall0 fn20 rfl rfl rfl rfl rfl (fun _ => (by exact sideR)) rfl (fun hg => (verify_con hw (ite_t hg hvv7))) ?_
 refine lr 3 rfl (by exact sideR) ?_
 refine WL.nil (WQ.thenNormal (WC.ret ?_))
 cases h
 exact WQ.rets tbOk hR [] (.inl rfl) rfl rfl (Le.refl _) (by exact trivial) rfl rfl rfl rfl

theorem lawRuleCase_con {wg : World} (hw : WG wg) {raw : ApiCase} {l : (List Int)} {which : Int} {by_ : ApiInput} {at_ : Int} {r : Bool} (h : lawRuleCase raw l which by_ at_ = some r) : Con Tryz.prog wg gl 3 [.v (.agg [.str raw.Code, .int .i64 raw.Price, .bool raw.Obtained, .sl 1 (raw.Processes.map eStr), .sl 3 (raw.Inputs.map eApiInput)]), .v (.sl 1 (l.map eInt_i64)), .v (.int .i64 which), .v (.agg [.str by_.Code, .int .i64 by_.Value, .bool by_.Originating]), .v (.int .i64 at_)] [] (.v (.bool r)) [] := by
 unfold lawRuleCase at h
 refine con_of_WC (S := slotsOf 0 _) Tryz.func3 rfl Tryz.ntmps3 rfl (fun t x hx => (slotsOf_get hx).2) ?_
 intro F L w ρ0 R hR
 show WC _ _ _ ⟨[(0, .v (.agg [.str raw.Code, .int .i64 raw.Price, .bool raw.Obtained, .sl 1 (raw.Processes.map eStr), .sl 3 (raw.Inputs.map eApiInput)])), (1, .v (.sl 1 (l.map eInt_i64))), (2, .v (.int .i64 which)), (3, .v (.agg [.str by_.Code, .int .i64 by_.Value, .bool by_.Originating])), (4, .v (.int .i64 at_))], []⟩ _ _
 refine WC.seq (WC.region ?_)
 refine lr 3 rfl trivial ?_
 refine WL.nil (WQ.thenNormal (WC.seq (WC.seq (WC.region ?_))))
 refine lr 2 rfl trivial ?_
 refine WL.q [] rfl rfl rfl (q_ev tbOk (.v (.int .i64 (raw.Inputs.length : Int))) rfl (by exact trivial) (by exact lenT)) ?_
 refine lr 1 rfl trivial ?_
 refine WL.nil (WQ.thenNormal ?_)
 refine WC.thenCut (X := (List ApiInput)) (fun gG => ⟨[(8, .p 8 0), (5, .p 5 0), (1, .v (.sl 1 (l.map eInt_i64))), (2, .v (.int .i64 which)), (4, .v (.int .i64 at_))], [(8, .blk 28 [.v (.str by_.Code), .v (.int .i64 by_.Value), .v (.bool by_.Originating)]), (5, .blk 25 [.v (.str raw.Code), .v (.int .i64 raw.Price), .v (.bool raw.Obtained), .v (.sl 1 (raw.Processes.map eStr)), .v (.sl 3 (gG.map eApiInput))])]⟩) (fun gG => lawRuleCase_j1 raw l which by_ at_ gG = some r) ?_ ?_
 ·refine WC.cond rfl (fun hc6 => ?_) (fun hc6 => ?_)
  ·replace h := ite_t hc6 h
   refine WC.region ?_
   refine lr 2 rfl trivial ?_
   obtain ⟨g3, h⟩ := grd h
   refine WL.q [] rfl rfl rfl (q_ev tbOk (.v (.sl 3 (((raw.Inputs.take (110 : Int).toNat).drop (0 : Int).toNat).map eApiInput))) rfl (by exact sideR) (by exact tdT)) ?_
   refine lr 2 rfl trivial ?_
   refine WL.nil ?_
   exact WQ.cut [] ((raw.Inputs.take (110 : Int).toNat).drop (0 : Int).toNat) ⟨(by exact ⟨rfl, rfl, rfl, rfl, rfl, trivial⟩), (by exact ⟨rfl, rfl, trivial⟩), rfl, rfl, rfl, rfl⟩ h
  ·replace h := ite_f hc6 h
   refine WC.skip ?_
   exact WQ.cut [] raw.Inputs ⟨(by exact ⟨rfl, rfl, rfl, rfl, rfl, trivial⟩), (by exact ⟨rfl, rfl, trivial⟩), rfl, rfl, rfl, rfl⟩ h
 ·intro c5_4 h
  replace h : lawRuleCase_j1 raw l which by_ at_ c5_4 = some _ := h
  unfold lawRuleCase_j1 at h
  show WC _ _ _ ⟨[(8, .p 8 0), (5, .p 5 0), (1, .v (.sl 1 (l.map eInt_i64))), (2, .v (.int .i64 which)), (4, .v (.int .i64 at_))], [(8, .blk 28 [.v (.str by_.Code), .v (.int .i64 by_.Value), .v (.bool by_.Originating)]), (5, .blk 25 [.v (.str raw.Code), .v (.int .i64 raw.Price), .v (.bool raw.Obtained), .v (.sl 1 (raw.Processes.map eStr)), .v (.sl 3 (c5_4.map eApiInput))])]⟩ _ _
  refine WC.seq (WC.region ?_)
  refine lr 1 rfl trivial ?_
  replace h := bnd h; obtain ⟨v, hvv, h⟩ := h
  refine WL.call0 fn9 rfl rfl rfl rfl (by exact trivial) rfl (madeCase_con hw hvv) ?_
  refine lr 2 rfl trivial ?_
  refine WL.nil (WQ.thenNormal (WC.seq (WC.seq (WC.order mixed ?_))))
  refine wr 1 rfl trivial ?_
  replace h := bnd h; obtain ⟨v2, hvv2, h⟩ := h
  refine WR.call0 fn10 rfl rfl rfl rfl (by exact trivial) rfl (validateCase_con hw hvv2) ?_
  refine wr 1 rfl trivial ?_
  replace h := bnd h; obtain ⟨v3, hvv3, h⟩ := h
  refine WR.call0 fn11 rfl rfl rfl rfl (by exact trivial) rfl (rCase_con hw hvv3) ?_
  refine wr 3 rfl (by exact sideR) ?_
  replace h := bnd h; obtain ⟨v4, hvv4, h⟩ := h
  refine WR.gcall0 fn10 rfl rfl rfl rfl rfl (fun _ => (by exact sideR)) rfl (fun hg => (validateCase_con hw (ite_t hg hvv4))) ?_
  refine wr 2 rfl (by exact sideR) ?_
  refine WR.nil (by kernel_rfl) (WQ.thenNormal ?_)
  refine WC.cond rfl (fun hc1 => ?_) (fun hc1 => ?_)
  ·replace h := ite_t hc1 h
   refine WC.seq (WC.region ?_)
   refine lr 1 rfl trivial ?_
   refine WL.nil (WQ.thenNormal (WC.ret (WQ.thenRet ?_)))
   cases h
   exact WQ.rets tbOk hR [] (.inl rfl) rfl rfl (Le.refl _) (by exact trivial) rfl rfl rfl rfl
  ·replace h := ite_f hc1 h
   refine WC.skip (WQ.thenNormal (WC.seq (WC.seq (WC.region ?_))))
   refine lr 1 rfl trivial ?_
   replace h := bnd h; obtain ⟨v5, hvv5, h⟩ := h
   refine WL.call0 fn12 rfl rfl rfl rfl (by exact trivial) rfl (within_con hw hvv5) ?_
   refine WL.nil (WQ.thenNormal ?_)
   refine WC.thenCut (X := Str × Int × (List Str) × (List ApiInput)) (fun gG => ⟨[(11, .p 11 0)], [(11, .blk 25 [.v (.str gG.1), .v (.int .i64 gG.2.1), .v (.bool v.Obtained), .v (.sl 1 (gG.2.2.1.map eStr)), .v (.sl 3 (gG.2.2.2.map eApiInput))])]⟩) (fun gG => lawRuleCase_j2 v gG.1 gG.2.1 gG.2.2.1 gG.2.2.2 = some r) ?_ ?_
   ·refine WC.block (WC.seq (WC.region ?_))
    refine lr 2 rfl trivial ?_
    refine WL.nil (WQ.thenNormal ?_)
    refine WC.cond rfl (fun hc2 => ?_) (fun hc2 => ?_)
    ·replace h := ite_t hc2 h
     refine WC.region ?_
     refine lr 4 rfl trivial ?_
     refine WL.nil (WQ.blockNormal ?_)
     exact WQ.cut [] (raw.Code, v.Price, v.Processes, v.Inputs) ⟨(by exact ⟨rfl, trivial⟩), (by exact ⟨rfl, trivial⟩), rfl, rfl, rfl, rfl⟩ h
    ·replace h := ite_f hc2 h
     refine WC.seq (WC.region ?_)
     refine lr 2 rfl trivial ?_
     refine WL.nil (WQ.thenNormal ?_)
     refine WC.cond rfl (fun hc3 => ?_) (fun hc3 => ?_)
     ·replace h := ite_t hc3 h
      refine WC.region ?_
      refine lr 4 rfl trivial ?_
      refine WL.nil (WQ.blockNormal ?_)
      exact WQ.cut [] (v.Code, raw.Price, v.Processes, v.Inputs) ⟨(by exact ⟨rfl, trivial⟩), (by exact ⟨rfl, trivial⟩), rfl, rfl, rfl, rfl⟩ h
     ·replace h := ite_f hc3 h
      refine WC.seq (WC.region ?_)
      refine lr 2 rfl trivial ?_
      refine WL.nil (WQ.thenNormal ?_)
      refine WC.cond rfl (fun hc4 => ?_) (fun hc4 => ?_)
      ·replace h := ite_t hc4 h
       refine WC.region ?_
       refine lr 4 rfl trivial ?_
       refine WL.nil (WQ.blockNormal ?_)
       exact WQ.cut [] (v.Code, v.Price, raw.Processes, v.Inputs) ⟨(by exact ⟨rfl, trivial⟩), (by exact ⟨rfl, trivial⟩), rfl, rfl, rfl, rfl⟩ h
      ·replace h := ite_f hc4 h
       refine WC.seq (WC.region ?_)
       refine WL.buildRow tbOk (([] : (List ApiInput)).map eApiInput) rfl rfl rfl rfl (by exact trivial) rfl rfl ?_
       refine lr 2 rfl trivial ?_
       obtain ⟨g1, h⟩ := grd h
       refine WL.append tbOk (v.Inputs.map eApiInput) [37, 34] ap23 rfl rfl rfl rfl (fun _ e => by cases e; rfl) (by exact trivial) (map_cells (f := eApiInput) (xs := v.Inputs) fun _ => rfl) (by have := g1; simp only [List.length_map, List.length_nil, List.length_cons] at this ⊢; omega) rfl rfl rfl rfl ?_
       refine lr 2 rfl trivial ?_
       refine WL.nil (WQ.thenNormal (WC.seq (WC.region ?_)))
       refine lr 2 rfl trivial ?_
       refine WL.q [37] rfl rfl rfl (q_ev tbOk (.v (.int .i64 (v.Inputs.length : Int))) rfl (by exact trivial) (by exact lenT)) ?_
       refine lr 1 rfl trivial ?_
       refine WL.nil (WQ.thenNormal ?_)
       refine WC.cond rfl (fun hc5 => ?_) (fun hc5 => ?_)
       ·replace h := ite_t hc5 h
        refine WC.order mixed ?_
        refine wr 5 rfl trivial ?_
        refine WR.q [37] rfl rfl rfl (q_ev tbOk (.v (.int .i64 (v.Inputs.length : Int))) rfl (by exact trivial) (by exact lenT)) ?_
        replace h := bnd h; obtain ⟨v9, hvv9, h⟩ := h
        refine WR.call0 fn12 rfl rfl rfl rfl (by exact trivial) rfl (within_con hw hvv9) ?_
        refine wr 1 rfl trivial ?_
        obtain ⟨g2, h⟩ := grd h
        refine WR.q [37] rfl rfl rfl (q_ridx tbOk rfl (by exact trivial) rfl (by simpa only [List.length_map] using g2)) ?_
        refine WR.rstore tbOk ((v.Inputs.set v9.toNat by_).map eApiInput) rfl rfl rfl (by exact trivial) rfl (map_getD (f := eApiInput) g2.2 g2.1) rfl (mapset (f := eApiInput) (x := by_) (by rfl)) ?_
        refine WR.nil (by kernel_rfl) (WQ.blockNormal ?_)
        refine WQ.publish 37 rfl rfl ?_
        exact WQ.cut [] (v.Code, v.Price, v.Processes, (v.Inputs.set v9.toNat by_)) ⟨(by exact ⟨rfl, trivial⟩), (by exact ⟨rfl, trivial⟩), rfl, rfl, rfl, rfl⟩ h
       ·replace h := ite_f hc5 h
        refine WC.skip (WQ.blockNormal ?_)
        refine WQ.publish 37 rfl rfl ?_
        exact WQ.cut [] (v.Code, v.Price, v.Processes, v.Inputs) ⟨(by exact ⟨rfl, trivial⟩), (by exact ⟨rfl, trivial⟩), rfl, rfl, rfl, rfl⟩ h
   ·rintro ⟨c11_0, c11_1, c11_3, c11_4⟩ h
    replace h : lawRuleCase_j2 v c11_0 c11_1 c11_3 c11_4 = some _ := h
    unfold lawRuleCase_j2 at h
    show WC _ _ _ ⟨[(11, .p 11 0)], [(11, .blk 25 [.v (.str c11_0), .v (.int .i64 c11_1), .v (.bool v.Obtained), .v (.sl 1 (c11_3.map eStr)), .v (.sl 3 (c11_4.map eApiInput))])]⟩ _ _
    refine WC.seq (WC.order mixed ?_)
    refine wr 1 rfl trivial ?_
    replace h := bnd h; obtain ⟨v6, hvv6, h⟩ := h
    refine WR.call0 fn10 rfl rfl rfl rfl (by exact trivial) rfl (validateCase_con hw hvv6) ?_
    refine wr 1 rfl trivial ?_
    replace h := bnd h; obtain ⟨v7, hvv7, h⟩ := h
    refine WR.call0 fn11 rfl rfl rfl rfl (by exact trivial) rfl (rCase_con hw hvv7) ?_
    refine wr 2 rfl trivial ?_
    replace h := bnd h; obtain ⟨v8, hvv8, h⟩ := h
    refine WR.gcall0 fn13 rfl rfl rfl rfl rfl (fun _ => (by exact sideR)) rfl (fun hg => (awake12_con hw (ite_t hg hvv8))) ?_
    refine wr 2 rfl (by exact sideR) ?_
    refine WR.nil (by kernel_rfl) (WQ.thenNormal (WC.ret ?_))
    cases h
    exact WQ.rets tbOk hR [] (.inl rfl) rfl rfl (Le.refl _) (by exact trivial) rfl rfl rfl rfl

theorem lawRuleHolds_con {wg : World} (hw : WG wg) {l : (List Int)} {m1 : (List Int)} {r : Bool} (h : lawRuleHolds l m1 = some r) : Con Tryz.prog wg gl 4 [.v (.sl 1 (l.map eInt_i64)), .v (.sl 1 (m1.map eInt_i64))] [] (.v (.bool r)) [] := by
 unfold lawRuleHolds at h
 refine con_of_WC (S := slotsOf 0 _) Tryz.func4 rfl Tryz.ntmps4 rfl (fun t x hx => (slotsOf_get hx).2) ?_
 intro F L w ρ0 R hR
 show WC _ _ _ ⟨[(0, .v (.sl 1 (l.map eInt_i64))), (1, .v (.sl 1 (m1.map eInt_i64)))], []⟩ _ _
 refine WC.seq (WC.region ?_)
 refine lr 1 rfl trivial ?_
 refine WL.nil (WQ.thenNormal (WC.seq (WC.region ?_)))
 refine lr 1 rfl trivial ?_
 replace h := bnd h; obtain ⟨v, hvv, h⟩ := h
 refine WL.call0 fn14 rfl rfl rfl rfl (by exact trivial) rfl (madeRule_con hw hvv) ?_
 refine lr 1 rfl trivial ?_
 replace h := bnd h; obtain ⟨v2, hvv2, h⟩ := h
 refine WL.call0 fn9 rfl rfl rfl rfl (by exact trivial) rfl (madeCase_con hw hvv2) ?_
 refine lr 4 rfl trivial ?_
 refine WL.nil (WQ.thenNormal (WC.seq (WC.region ?_)))
 refine lr 2 rfl trivial ?_
 replace h := bnd h; obtain ⟨v3, hvv3, h⟩ := h
 refine WL.call0 fn15 rfl rfl rfl rfl (by exact trivial) rfl (witness_con hw hvv3) ?_
 refine lr 5 rfl trivial ?_
 refine WL.nil (WQ.thenNormal (WC.seq (WC.region ?_)))
 refine lr 2 rfl trivial ?_
 replace h := bnd h; obtain ⟨v4, hvv4, h⟩ := h
 refine WL.call0 fn16 rfl rfl rfl rfl (by exact trivial) rfl (rWitness_con hw hvv4) ?_
 refine lr 5 rfl trivial ?_
 refine WL.nil (WQ.thenNormal (WC.seq (WC.order mixed ?_)))
 refine wr 2 rfl trivial ?_
 replace h := bnd h; obtain ⟨v5, hvv5, h⟩ := h
 refine WR.call0 fn17 rfl rfl rfl rfl (by exact trivial) rfl (ruleHolds_con hw hvv5) ?_
 refine wr 2 rfl trivial ?_
 replace h := bnd h; obtain ⟨v6, hvv6, h⟩ := h
 refine WR.call0 fn18 rfl rfl rfl rfl (by exact trivial) rfl (rHolds_con hw hvv6) ?_
 refine wr 10 rfl (by exact sideR) ?_
 replace h := bnd h; obtain ⟨v7, hvv7, h⟩ := h
 refine WR.gcall0 fn17 rfl rfl rfl rfl rfl (fun _ => (by exact sideR)) rfl (fun hg => (ruleHolds_con hw (ite_t hg hvv7))) ?_
 refine wr 5 rfl (by exact sideR) ?_
 replace h := bnd h; obtain ⟨v8, hvv8, h⟩ := h
 refine WR.gcall0 fn19 rfl rfl rfl rfl rfl (fun _ => (by exact sideR)) rfl (fun hg => (r02Same_con hw (ite_t hg hvv8))) ?_
 refine wr 2 rfl (by exact sideR) ?_
 replace h := bnd h; obtain ⟨v9, hvv9, h⟩ := h
 refine WR.gcall0 fn13 rfl rfl rfl rfl rfl (fun _ => (by exact sideR)) rfl (fun hg => (awake12_con hw (ite_t hg hvv9))) ?_
 refine wr 2 rfl (by exact sideR) ?_
 refine WR.nil (by kernel_rfl) (WQ.thenNormal (WC.ret ?_))
 cases h
 exact WQ.rets tbOk hR [] (.inl rfl) rfl rfl (Le.refl _) (by exact trivial) rfl rfl rfl rfl

theorem lawRuleVerify_con {wg : World} (hw : WG wg) {l : (List Int)} {m1 : (List Int)} {path : (List Int)} {raw : Bool} {r : Bool} (h : lawRuleVerify l m1 path raw = some r) : Con Tryz.prog wg gl 5 [.v (.sl 1 (l.map eInt_i64)), .v (.sl 1 (m1.map eInt_i64)), .v (.sl 1 (path.map eInt_i64)), .v (.bool raw)] [] (.v (.bool r)) [] := by
 unfold lawRuleVerify at h
 refine con_of_WC (S := slotsOf 0 _) Tryz.func5 rfl Tryz.ntmps5 rfl (fun t x hx => (slotsOf_get hx).2) ?_
 intro F L w ρ0 R hR
 show WC _ _ _ ⟨[(0, .v (.sl 1 (l.map eInt_i64))), (1, .v (.sl 1 (m1.map eInt_i64))), (2, .v (.sl 1 (path.map eInt_i64))), (3, .v (.bool raw))], []⟩ _ _
 refine WC.seq (WC.region ?_)
 refine lr 1 rfl trivial ?_
 refine WL.nil (WQ.thenNormal (WC.seq (WC.region ?_)))
 refine lr 1 rfl trivial ?_
 replace h := bnd h; obtain ⟨v, hvv, h⟩ := h
 refine WL.call0 fn14 rfl rfl rfl rfl (by exact trivial) rfl (madeRule_con hw hvv) ?_
 refine lr 1 rfl trivial ?_
 replace h := bnd h; obtain ⟨v2, hvv2, h⟩ := h
 refine WL.call0 fn9 rfl rfl rfl rfl (by exact trivial) rfl (madeCase_con hw hvv2) ?_
 refine lr 4 rfl trivial ?_
 refine WL.nil (WQ.thenNormal (WC.seq (WC.region ?_)))
 refine lr 2 rfl trivial ?_
 replace h := bnd h; obtain ⟨v3, hvv3, h⟩ := h
 refine WL.call0 fn15 rfl rfl rfl rfl (by exact trivial) rfl (witness_con hw hvv3) ?_
 refine lr 5 rfl trivial ?_
 refine WL.nil (WQ.thenNormal (WC.seq (WC.seq (WC.region ?_))))
 refine lr 5 rfl (by exact sideR) ?_
 replace h := bnd h; obtain ⟨v4, hvv4, h⟩ := h
 refine WL.gcall0 fn20 rfl rfl rfl rfl rfl (fun _ => (by exact sideR)) rfl (fun hg => (verify_con hw (ite_t hg hvv4))) ?_
 refine lr 2 rfl (by exact sideR) ?_
 refine WL.nil (WQ.thenNormal ?_)
 refine WC.cond rfl (fun hc1 => ?_) (fun hc1 => ?_)
 ·replace h := ite_t hc1 h
  refine WC.seq (WC.region ?_)
  refine lr 1 rfl trivial ?_
  refine WL.nil (WQ.thenNormal (WC.ret (WQ.thenRet ?_)))
  cases h
  exact WQ.rets tbOk hR [] (.inl rfl) rfl rfl (Le.refl _) (by exact trivial) rfl rfl rfl rfl
 ·replace h := ite_f hc1 h
  refine WC.skip (WQ.thenNormal (WC.seq (WC.region ?_)))
  refine WL.buildRow tbOk (([] : (List Int)).map eInt_i64) rfl rfl rfl rfl (by exact trivial) rfl rfl ?_
  refine lr 1 rfl trivial ?_
  replace h := bnd h; obtain ⟨v5, hvv5, h⟩ := h
  refine WL.call0 fn21 rfl rfl rfl rfl (by exact trivial) rfl (madeCut_con hw hvv5) ?_
  obtain ⟨g1, h⟩ := grd h
  refine WL.append tbOk (v5.map eInt_i64) [35, 32] ap26 rfl rfl rfl rfl (fun _ e => by cases e; rfl) (by exact trivial) (map_cells (f := eInt_i64) (xs := v5) fun _ => rfl) (by have := g1; simp only [List.length_map, List.length_nil, List.length_cons] at this ⊢; omega) rfl rfl rfl rfl ?_
  refine lr 1 rfl trivial ?_
  refine WL.nil (WQ.thenNormal (WC.seq (WC.seq (WC.region ?_))))
  refine lr 1 rfl trivial ?_
  refine WL.nil (WQ.thenNormal ?_)
  refine WC.thenCut (X := (List Int)) (fun gG => ⟨[(2, .r 1002), (10, .p 10 0), (9, .p 9 0)], [(1002, .row 3 1 (gG.map eInt_i64)), (9, .blk 37 [.v (.int .i64 v.Kind), .v (.int .i64 v.Digits), .v (.sl 1 (v.Except.map eStr)), .v (.int .i64 v.Tolerance), .v (.int .i64 v.Limit), .v (.str v.Name), .v (.sl 7 (v.Args.map eApiRule))]), (10, .blk 25 [.v (.str v2.Code), .v (.int .i64 v2.Price), .v (.bool v2.Obtained), .v (.sl 1 (v2.Processes.map eStr)), .v (.sl 3 (v2.Inputs.map eApiInput))])]⟩) (fun gG => lawRuleVerify_j1 v v2 gG = some r) ?_ ?_
  ·refine WC.block ?_
   obtain ⟨eQ1, hl1, hk1⟩ := bnd h
   clear h
   refine WC.loop (σ := Int × (List Int)) (τ := ((List Int))) (fun sS => ⟨[(13, .v (.int .i64 sS.1)), (2, .r 1002), (10, .p 10 0), (9, .p 9 0), (3, .v (.bool raw))], [(1002, .row 3 1 (sS.2.map eInt_i64)), (9, .blk 37 [.v (.int .i64 v.Kind), .v (.int .i64 v.Digits), .v (.sl 1 (v.Except.map eStr)), .v (.int .i64 v.Tolerance), .v (.int .i64 v.Limit), .v (.str v.Name), .v (.sl 7 (v.Args.map eApiRule))]), (10, .blk 25 [.v (.str v2.Code), .v (.int .i64 v2.Price), .v (.bool v2.Obtained), .v (.sl 1 (v2.Processes.map eStr)), .v (.sl 3 (v2.Inputs.map eApiInput))])]⟩) (lawRuleVerify_b1 raw v v2) [(1002, 35)] ((0 : Int), v5) hl1 ⟨(by exact ⟨rfl, rfl, rfl, rfl, rfl, trivial⟩), (by exact ⟨rfl, rfl, rfl, trivial⟩), rfl, rfl, rfl, rfl⟩ ?_
   rintro ⟨i, path3⟩ m hn1 he1 hx1
   obtain ⟨o1, hf1⟩ := some_of hx1
   have h := hf1
   unfold lawRuleVerify_b1 at h
   show WC _ _ _ ⟨[(13, .v (.int .i64 i)), (2, .r 1002), (10, .p 10 0), (9, .p 9 0), (3, .v (.bool raw))], [(1002, .row 3 1 (path3.map eInt_i64)), (9, .blk 37 [.v (.int .i64 v.Kind), .v (.int .i64 v.Digits), .v (.sl 1 (v.Except.map eStr)), .v (.int .i64 v.Tolerance), .v (.int .i64 v.Limit), .v (.str v.Name), .v (.sl 7 (v.Args.map eApiRule))]), (10, .blk 25 [.v (.str v2.Code), .v (.int .i64 v2.Price), .v (.bool v2.Obtained), .v (.sl 1 (v2.Processes.map eStr)), .v (.sl 3 (v2.Inputs.map eApiInput))])]⟩ _ _
   refine WC.seq (WC.seq (WC.region ?_))
   refine lr 2 rfl trivial ?_
   refine WL.q [1002] rfl rfl rfl (q_ev tbOk (.v (.int .i64 (path3.length : Int))) rfl (by exact trivial) (by exact lenT)) ?_
   refine lr 5 rfl (by exact sideR) ?_
   refine WL.nil (WQ.thenNormal ?_)
   refine WC.cond rfl (fun hc2 => ?_) (fun hc2 => ?_)
   ·replace h := ite_t hc2 h
    refine WC.skip (WQ.thenNormal (WC.seq (WC.block (WC.region ?_))))
    refine lr 4 rfl trivial ?_
    obtain ⟨g2, h⟩ := grd h
    refine WL.q [1002] rfl rfl rfl (q_ridx tbOk rfl (by exact trivial) rfl (by simpa only [List.length_map] using g2)) ?_
    refine WL.q [1002] rfl rfl rfl (x := .v (.int .i64 (path3.getD i.toNat default))) (q_rload tbOk rfl (by exact trivial) rfl (map_getD (f := eInt_i64) g2.2 g2.1) rfl) ?_
    replace h := bnd h; obtain ⟨v12, hvv12, h⟩ := h
    refine WL.call0 fn12 rfl rfl rfl rfl (by exact trivial) rfl (within_con hw hvv12) ?_
    obtain ⟨g3, h⟩ := grd h
    refine WL.q [1002] rfl rfl rfl (q_ridx tbOk rfl (by exact trivial) rfl (by simpa only [List.length_map] using g3)) ?_
    refine WL.rstore tbOk ((path3.set i.toNat v12).map eInt_i64) rfl rfl rfl (by exact trivial) rfl (map_getD (f := eInt_i64) g3.2 g3.1) rfl (mapset (f := eInt_i64) (x := v12) (by rfl)) ?_
    refine WL.nil (WQ.blockNormal (WQ.thenNormal (WC.region ?_)))
    refine lr 3 rfl trivial ?_
    refine WL.nil ?_
    cases h
    exact WQ.next [] ((IntKind.i64.wrap (i + (1 : Int))), (path3.set i.toNat v12)) ⟨(by exact ⟨rfl, rfl, rfl, rfl, rfl, trivial⟩), (by exact ⟨rfl, rfl, rfl, trivial⟩), rfl, rfl, rfl, rfl⟩ (hn1 _ hf1)
   ·replace h := ite_f hc2 h
    refine WC.exit (WQ.thenExit ?_)
    cases h
    have he := he1 _ hf1
    subst he
    replace h := hk1
    try dsimp only at h
    refine WQ.thenExit (WQ.blockExit ?_)
    exact WQ.cut [] path3 ⟨(by exact ⟨rfl, rfl, rfl, trivial⟩), (by exact ⟨rfl, rfl, rfl, trivial⟩), rfl, rfl, rfl, rfl⟩ h
  ·intro path2 h
   replace h : lawRuleVerify_j1 v v2 path2 = some _ := h
   unfold lawRuleVerify_j1 at h
   show WC _ _ _ ⟨[(2, .r 1002), (10, .p 10 0), (9, .p 9 0)], [(1002, .row 3 1 (path2.map eInt_i64)), (9, .blk 37 [.v (.int .i64 v.Kind), .v (.int .i64 v.Digits), .v (.sl 1 (v.Except.map eStr)), .v (.int .i64 v.Tolerance), .v (.int .i64 v.Limit), .v (.str v.Name), .v (.sl 7 (v.Args.map eApiRule))]), (10, .blk 25 [.v (.str v2.Code), .v (.int .i64 v2.Price), .v (.bool v2.Obtained), .v (.sl 1 (v2.Processes.map eStr)), .v (.sl 3 (v2.Inputs.map eApiInput))])]⟩ _ _
   refine WC.seq ?_
   refine WC.publish 1002 rfl rfl ?_
   refine WC.order mixed ?_
   refine wr 3 rfl trivial ?_
   replace h := bnd h; obtain ⟨v6, hvv6, h⟩ := h
   refine WR.call0 fn20 rfl rfl rfl rfl (by exact trivial) rfl (verify_con hw hvv6) ?_
   refine wr 3 rfl trivial ?_
   replace h := bnd h; obtain ⟨v7, hvv7, h⟩ := h
   refine WR.call0 fn22 rfl rfl rfl rfl (by exact trivial) rfl (rVerify_con hw hvv7) ?_
   refine wr 5 rfl (by exact sideR) ?_
   replace h := bnd h; obtain ⟨v8, hvv8, h⟩ := h
   refine WR.gcall0 fn20 rfl rfl rfl rfl rfl (fun _ => (by exact sideR)) rfl (fun hg => (verify_con hw (ite_t hg hvv8))) ?_
   refine wr 4 rfl (by exact sideR) ?_
   replace h := bnd h; obtain ⟨v9, hvv9, h⟩ := h
   refine WR.gcall0 fn17 rfl rfl rfl rfl rfl (fun _ => (by exact sideR)) rfl (fun hg => (ruleHolds_con hw (ite_t hg hvv9))) ?_
   refine wr 3 rfl (by exact sideR) ?_
   replace h := bnd h; obtain ⟨v10, hvv10, h⟩ := h
   refine WR.gcall0 fn13 rfl rfl rfl rfl rfl (fun _ => (by exact sideR)) rfl (fun hg => (awake12_con hw (ite_t hg hvv10))) ?_
   refine wr 2 rfl (by exact sideR) ?_
   refine WR.nil (by kernel_rfl) (WQ.thenNormal (WC.ret ?_))
   cases h
   exact WQ.rets tbOk hR [] (.inl rfl) rfl rfl (Le.refl _) (by exact trivial) rfl rfl rfl rfl

theorem lawRuleMonotone_con {wg : World} (hw : WG wg) {l : (List Int)} {m1 : (List Int)} {origin : (List Int)} {value : (List Int)} {r : Bool} (h : lawRuleMonotone l m1 origin value = some r) : Con Tryz.prog wg gl 6 [.v (.sl 1 (l.map eInt_i64)), .v (.sl 1 (m1.map eInt_i64)), .v (.sl 1 (origin.map eInt_i64)), .v (.sl 1 (value.map eInt_i64))] [] (.v (.bool r)) [] := by
 unfold lawRuleMonotone at h
 refine con_of_WC (S := slotsOf 0 _) Tryz.func6 rfl Tryz.ntmps6 rfl (fun t x hx => (slotsOf_get hx).2) ?_
 intro F L w ρ0 R hR
 show WC _ _ _ ⟨[(0, .v (.sl 1 (l.map eInt_i64))), (1, .v (.sl 1 (m1.map eInt_i64))), (2, .v (.sl 1 (origin.map eInt_i64))), (3, .v (.sl 1 (value.map eInt_i64)))], []⟩ _ _
 refine WC.seq (WC.region ?_)
 refine lr 1 rfl trivial ?_
 refine WL.nil (WQ.thenNormal (WC.seq (WC.region ?_)))
 refine lr 1 rfl trivial ?_
 replace h := bnd h; obtain ⟨v, hvv, h⟩ := h
 refine WL.call0 fn14 rfl rfl rfl rfl (by exact trivial) rfl (madeRule_con hw hvv) ?_
 refine lr 1 rfl trivial ?_
 replace h := bnd h; obtain ⟨v2, hvv2, h⟩ := h
 refine WL.call0 fn9 rfl rfl rfl rfl (by exact trivial) rfl (madeCase_con hw hvv2) ?_
 refine lr 4 rfl trivial ?_
 refine WL.nil (WQ.thenNormal (WC.seq (WC.region ?_)))
 refine lr 3 rfl trivial ?_
 refine WL.nil (WQ.thenNormal (WC.seq (WC.region ?_)))
 refine WL.buildRow tbOk (([] : (List ApiInput)).map eApiInput) rfl rfl rfl rfl (by exact trivial) rfl rfl ?_
 refine lr 2 rfl trivial ?_
 obtain ⟨g1, h⟩ := grd h
 refine WL.append tbOk (v2.Inputs.map eApiInput) [22, 19] ap23 rfl rfl rfl rfl (fun _ e => by cases e; rfl) (by exact trivial) (map_cells (f := eApiInput) (xs := v2.Inputs) fun _ => rfl) (by have := g1; simp only [List.length_map, List.length_nil, List.length_cons] at this ⊢; omega) rfl rfl rfl rfl ?_
 refine lr 2 rfl trivial ?_
 refine WL.nil (WQ.thenNormal (WC.seq (WC.seq (WC.region ?_))))
 refine lr 1 rfl trivial ?_
 refine WL.nil (WQ.thenNormal ?_)
 refine WC.thenCut (X := (List ApiInput)) (fun gG => ⟨[(11, .p 11 0), (10, .p 10 0), (9, .p 9 0), (3, .v (.sl 1 (value.map eInt_i64)))], [(9, .blk 37 [.v (.int .i64 v.Kind), .v (.int .i64 v.Digits), .v (.sl 1 (v.Except.map eStr)), .v (.int .i64 v.Tolerance), .v (.int .i64 v.Limit), .v (.str v.Name), .v (.sl 7 (v.Args.map eApiRule))]), (10, .blk 25 [.v (.str v2.Code), .v (.int .i64 v2.Price), .v (.bool v2.Obtained), .v (.sl 1 (v2.Processes.map eStr)), .v (.sl 3 (v2.Inputs.map eApiInput))]), (2554, .row 28 3 (gG.map eApiInput)), (11, .blk 25 [.v (.str v2.Code), .v (.int .i64 v2.Price), .v (.bool v2.Obtained), .v (.sl 1 (v2.Processes.map eStr)), .r 2554])]⟩) (fun gG => lawRuleMonotone_j1 value v v2 gG = some r) ?_ ?_
 ·refine WC.block ?_
  obtain ⟨eQ2, hl2, hk2⟩ := bnd h
  clear h
  refine WC.loop (σ := Int × (List ApiInput)) (τ := ((List ApiInput))) (fun sS => ⟨[(12, .v (.int .i64 sS.1)), (11, .p 11 0), (10, .p 10 0), (9, .p 9 0), (2, .v (.sl 1 (origin.map eInt_i64))), (3, .v (.sl 1 (value.map eInt_i64)))], [(9, .blk 37 [.v (.int .i64 v.Kind), .v (.int .i64 v.Digits), .v (.sl 1 (v.Except.map eStr)), .v (.int .i64 v.Tolerance), .v (.int .i64 v.Limit), .v (.str v.Name), .v (.sl 7 (v.Args.map eApiRule))]), (10, .blk 25 [.v (.str v2.Code), .v (.int .i64 v2.Price), .v (.bool v2.Obtained), .v (.sl 1 (v2.Processes.map eStr)), .v (.sl 3 (v2.Inputs.map eApiInput))]), (2554, .row 28 3 (sS.2.map eApiInput)), (11, .blk 25 [.v (.str v2.Code), .v (.int .i64 v2.Price), .v (.bool v2.Obtained), .v (.sl 1 (v2.Processes.map eStr)), .r 2554])]⟩) (lawRuleMonotone_b2 origin value v v2) [(2554, 22)] ((0 : Int), v2.Inputs) hl2 ⟨(by exact ⟨rfl, rfl, rfl, rfl, rfl, rfl, trivial⟩), (by exact ⟨rfl, rfl, rfl, rfl, trivial⟩), rfl, rfl, rfl, rfl⟩ ?_
  rintro ⟨i3, c11_46⟩ m hn2 he2 hx2
  obtain ⟨o2, hf2⟩ := some_of hx2
  have h := hf2
  unfold lawRuleMonotone_b2 at h
  show WC _ _ _ ⟨[(12, .v (.int .i64 i3)), (11, .p 11 0), (10, .p 10 0), (9, .p 9 0), (2, .v (.sl 1 (origin.map eInt_i64))), (3, .v (.sl 1 (value.map eInt_i64)))], [(9, .blk 37 [.v (.int .i64 v.Kind), .v (.int .i64 v.Digits), .v (.sl 1 (v.Except.map eStr)), .v (.int .i64 v.Tolerance), .v (.int .i64 v.Limit), .v (.str v.Name), .v (.sl 7 (v.Args.map eApiRule))]), (10, .blk 25 [.v (.str v2.Code), .v (.int .i64 v2.Price), .v (.bool v2.Obtained), .v (.sl 1 (v2.Processes.map eStr)), .v (.sl 3 (v2.Inputs.map eApiInput))]), (2554, .row 28 3 (c11_46.map eApiInput)), (11, .blk 25 [.v (.str v2.Code), .v (.int .i64 v2.Price), .v (.bool v2.Obtained), .v (.sl 1 (v2.Processes.map eStr)), .r 2554])]⟩ _ _
  refine WC.seq (WC.seq (WC.region ?_))
  refine lr 2 rfl trivial ?_
  refine WL.q [] rfl rfl rfl (q_ev tbOk (.v (.int .i64 (origin.length : Int))) rfl (by exact trivial) (by exact lenT)) ?_
  refine lr 1 rfl trivial ?_
  refine WL.nil (WQ.thenNormal ?_)
  refine WC.cond rfl (fun hc2 => ?_) (fun hc2 => ?_)
  ·replace h := ite_t hc2 h
   refine WC.skip (WQ.thenNormal (WC.seq ?_))
   refine WC.thenCut (X := (List ApiInput)) (fun gG => ⟨[(12, .v (.int .i64 i3)), (11, .p 11 0), (10, .p 10 0), (9, .p 9 0), (2, .v (.sl 1 (origin.map eInt_i64))), (3, .v (.sl 1 (value.map eInt_i64)))], [(9, .blk 37 [.v (.int .i64 v.Kind), .v (.int .i64 v.Digits), .v (.sl 1 (v.Except.map eStr)), .v (.int .i64 v.Tolerance), .v (.int .i64 v.Limit), .v (.str v.Name), .v (.sl 7 (v.Args.map eApiRule))]), (10, .blk 25 [.v (.str v2.Code), .v (.int .i64 v2.Price), .v (.bool v2.Obtained), .v (.sl 1 (v2.Processes.map eStr)), .v (.sl 3 (v2.Inputs.map eApiInput))]), (2554, .row 28 3 (gG.map eApiInput)), (11, .blk 25 [.v (.str v2.Code), .v (.int .i64 v2.Price), .v (.bool v2.Obtained), .v (.sl 1 (v2.Processes.map eStr)), .r 2554])]⟩) (fun gG => lawRuleMonotone_j3 origin value v v2 i3 gG = some o2) ?_ ?_
   ·refine WC.block (WC.seq (WC.region ?_))
    refine lr 2 rfl trivial ?_
    refine WL.q [2554] rfl rfl rfl (q_ev tbOk (.v (.int .i64 (c11_46.length : Int))) rfl (by exact trivial) (by exact lenT)) ?_
    refine lr 1 rfl trivial ?_
    refine WL.nil (WQ.thenNormal ?_)
    refine WC.cond rfl (fun hc3 => ?_) (fun hc3 => ?_)
    ·replace h := ite_t hc3 h
     refine WC.order mixed ?_
     refine wr 4 rfl trivial ?_
     obtain ⟨g5, h⟩ := grd h
     replace h := bnd h; obtain ⟨x4, hxx4, h⟩ := h
     refine WR.q [] rfl rfl rfl (q_idx tbOk rfl (by exact trivial) g5 (map_get (f := eInt_i64) hxx4)) ?_
     refine wr 3 rfl trivial ?_
     refine WR.q [2554] rfl rfl rfl (q_ev tbOk (.v (.int .i64 (c11_46.length : Int))) rfl (by exact trivial) (by exact lenT)) ?_
     replace h := bnd h; obtain ⟨v9, hvv9, h⟩ := h
     refine WR.call0 fn12 rfl rfl rfl rfl (by exact trivial) rfl (within_con hw hvv9) ?_
     obtain ⟨g6, h⟩ := grd h
     refine WR.q [2554] rfl rfl rfl (q_ridx tbOk rfl (by exact trivial) rfl (by simpa only [List.length_map] using g6)) ?_
     refine wr 1 rfl trivial ?_
     refine WR.rstore tbOk ((c11_46.set v9.toNat (⟨(c11_46.getD v9.toNat default).Code, (c11_46.getD v9.toNat default).Value, true⟩ : ApiInput)).map eApiInput) rfl rfl rfl (by exact trivial) rfl (map_getD (f := eApiInput) g6.2 g6.1) rfl (mapset (f := eApiInput) (x := (⟨(c11_46.getD v9.toNat default).Code, (c11_46.getD v9.toNat default).Value, true⟩ : ApiInput)) (by rfl)) ?_
     refine WR.nil (by kernel_rfl) (WQ.blockNormal ?_)
     exact WQ.cut [] (c11_46.set v9.toNat (⟨(c11_46.getD v9.toNat default).Code, (c11_46.getD v9.toNat default).Value, true⟩ : ApiInput)) ⟨(by exact ⟨rfl, rfl, rfl, rfl, rfl, rfl, trivial⟩), (by exact ⟨rfl, rfl, rfl, rfl, trivial⟩), rfl, rfl, rfl, rfl⟩ h
    ·replace h := ite_f hc3 h
     refine WC.skip (WQ.blockNormal ?_)
     exact WQ.cut [] c11_46 ⟨(by exact ⟨rfl, rfl, rfl, rfl, rfl, rfl, trivial⟩), (by exact ⟨rfl, rfl, rfl, rfl, trivial⟩), rfl, rfl, rfl, rfl⟩ h
   ·intro c11_410 h
    replace h : lawRuleMonotone_j3 origin value v v2 i3 c11_410 = some _ := h
    unfold lawRuleMonotone_j3 at h
    show WC _ _ _ ⟨[(12, .v (.int .i64 i3)), (11, .p 11 0), (10, .p 10 0), (9, .p 9 0), (2, .v (.sl 1 (origin.map eInt_i64))), (3, .v (.sl 1 (value.map eInt_i64)))], [(9, .blk 37 [.v (.int .i64 v.Kind), .v (.int .i64 v.Digits), .v (.sl 1 (v.Except.map eStr)), .v (.int .i64 v.Tolerance), .v (.int .i64 v.Limit), .v (.str v.Name), .v (.sl 7 (v.Args.map eApiRule))]), (10, .blk 25 [.v (.str v2.Code), .v (.int .i64 v2.Price), .v (.bool v2.Obtained), .v (.sl 1 (v2.Processes.map eStr)), .v (.sl 3 (v2.Inputs.map eApiInput))]), (2554, .row 28 3 (c11_410.map eApiInput)), (11, .blk 25 [.v (.str v2.Code), .v (.int .i64 v2.Price), .v (.bool v2.Obtained), .v (.sl 1 (v2.Processes.map eStr)), .r 2554])]⟩ _ _
    refine WC.region ?_
    refine lr 3 rfl trivial ?_
    refine WL.nil ?_
    cases h
    exact WQ.next [] ((IntKind.i64.wrap (i3 + (1 : Int))), c11_410) ⟨(by exact ⟨rfl, rfl, rfl, rfl, rfl, rfl, trivial⟩), (by exact ⟨rfl, rfl, rfl, rfl, trivial⟩), rfl, rfl, rfl, rfl⟩ (hn2 _ hf2)
  ·replace h := ite_f hc2 h
   refine WC.exit (WQ.thenExit ?_)
   cases h
   have he := he2 _ hf2
   subst he
   replace h := hk2
   try dsimp only at h
   refine WQ.thenExit (WQ.blockExit ?_)
   exact WQ.cut [] c11_46 ⟨(by exact ⟨rfl, rfl, rfl, rfl, trivial⟩), (by exact ⟨rfl, rfl, rfl, rfl, trivial⟩), rfl, rfl, rfl, rfl⟩ h
 ·intro c11_4 h
  replace h : lawRuleMonotone_j1 value v v2 c11_4 = some _ := h
  unfold lawRuleMonotone_j1 at h
  show WC _ _ _ ⟨[(11, .p 11 0), (10, .p 10 0), (9, .p 9 0), (3, .v (.sl 1 (value.map eInt_i64)))], [(9, .blk 37 [.v (.int .i64 v.Kind), .v (.int .i64 v.Digits), .v (.sl 1 (v.Except.map eStr)), .v (.int .i64 v.Tolerance), .v (.int .i64 v.Limit), .v (.str v.Name), .v (.sl 7 (v.Args.map eApiRule))]), (10, .blk 25 [.v (.str v2.Code), .v (.int .i64 v2.Price), .v (.bool v2.Obtained), .v (.sl 1 (v2.Processes.map eStr)), .v (.sl 3 (v2.Inputs.map eApiInput))]), (2554, .row 28 3 (c11_4.map eApiInput)), (11, .blk 25 [.v (.str v2.Code), .v (.int .i64 v2.Price), .v (.bool v2.Obtained), .v (.sl 1 (v2.Processes.map eStr)), .r 2554])]⟩ _ _
  refine WC.seq (WC.seq (WC.region ?_))
  refine lr 1 rfl trivial ?_
  refine WL.nil (WQ.thenNormal ?_)
  refine WC.thenCut (X := (List ApiInput)) (fun gG => ⟨[(11, .p 11 0), (10, .p 10 0), (9, .p 9 0)], [(9, .blk 37 [.v (.int .i64 v.Kind), .v (.int .i64 v.Digits), .v (.sl 1 (v.Except.map eStr)), .v (.int .i64 v.Tolerance), .v (.int .i64 v.Limit), .v (.str v.Name), .v (.sl 7 (v.Args.map eApiRule))]), (10, .blk 25 [.v (.str v2.Code), .v (.int .i64 v2.Price), .v (.bool v2.Obtained), .v (.sl 1 (v2.Processes.map eStr)), .v (.sl 3 (v2.Inputs.map eApiInput))]), (2554, .row 28 3 (gG.map eApiInput)), (11, .blk 25 [.v (.str v2.Code), .v (.int .i64 v2.Price), .v (.bool v2.Obtained), .v (.sl 1 (v2.Processes.map eStr)), .r 2554])]⟩) (fun gG => lawRuleMonotone_j2 v v2 gG = some r) ?_ ?_
  ·refine WC.block ?_
   obtain ⟨eQ1, hl1, hk1⟩ := bnd h
   clear h
   refine WC.loop (σ := Int × (List ApiInput)) (τ := ((List ApiInput))) (fun sS => ⟨[(13, .v (.int .i64 sS.1)), (11, .p 11 0), (10, .p 10 0), (9, .p 9 0), (3, .v (.sl 1 (value.map eInt_i64)))], [(9, .blk 37 [.v (.int .i64 v.Kind), .v (.int .i64 v.Digits), .v (.sl 1 (v.Except.map eStr)), .v (.int .i64 v.Tolerance), .v (.int .i64 v.Limit), .v (.str v.Name), .v (.sl 7 (v.Args.map eApiRule))]), (10, .blk 25 [.v (.str v2.Code), .v (.int .i64 v2.Price), .v (.bool v2.Obtained), .v (.sl 1 (v2.Processes.map eStr)), .v (.sl 3 (v2.Inputs.map eApiInput))]), (2554, .row 28 3 (sS.2.map eApiInput)), (11, .blk 25 [.v (.str v2.Code), .v (.int .i64 v2.Price), .v (.bool v2.Obtained), .v (.sl 1 (v2.Processes.map eStr)), .r 2554])]⟩) (lawRuleMonotone_b1 value v v2) [] ((0 : Int), c11_4) hl1 ⟨(by exact ⟨rfl, rfl, rfl, rfl, rfl, trivial⟩), (by exact ⟨rfl, rfl, rfl, rfl, trivial⟩), rfl, rfl, rfl, rfl⟩ ?_
   rintro ⟨i, c11_43⟩ m hn1 he1 hx1
   obtain ⟨o1, hf1⟩ := some_of hx1
   have h := hf1
   unfold lawRuleMonotone_b1 at h
   show WC _ _ _ ⟨[(13, .v (.int .i64 i)), (11, .p 11 0), (10, .p 10 0), (9, .p 9 0), (3, .v (.sl 1 (value.map eInt_i64)))], [(9, .blk 37 [.v (.int .i64 v.Kind), .v (.int .i64 v.Digits), .v (.sl 1 (v.Except.map eStr)), .v (.int .i64 v.Tolerance), .v (.int .i64 v.Limit), .v (.str v.Name), .v (.sl 7 (v.Args.map eApiRule))]), (10, .blk 25 [.v (.str v2.Code), .v (.int .i64 v2.Price), .v (.bool v2.Obtained), .v (.sl 1 (v2.Processes.map eStr)), .v (.sl 3 (v2.Inputs.map eApiInput))]), (2554, .row 28 3 (c11_43.map eApiInput)), (11, .blk 25 [.v (.str v2.Code), .v (.int .i64 v2.Price), .v (.bool v2.Obtained), .v (.sl 1 (v2.Processes.map eStr)), .r 2554])]⟩ _ _
   refine WC.seq (WC.seq (WC.region ?_))
   refine lr 2 rfl trivial ?_
   refine WL.q [] rfl rfl rfl (q_ev tbOk (.v (.int .i64 (value.length : Int))) rfl (by exact trivial) (by exact lenT)) ?_
   refine lr 5 rfl (by exact sideR) ?_
   refine WL.gq [2554] rfl rfl rfl rfl (fun hg => q_ev tbOk (.v (.int .i64 (c11_43.length : Int))) rfl (by exact sideR) (by exact lenT)) ?_
   refine lr 2 rfl (by exact sideR) ?_
   refine WL.nil (WQ.thenNormal ?_)
   refine WC.cond rfl (fun hc1 => ?_) (fun hc1 => ?_)
   ·replace h := ite_t hc1 h
    refine WC.skip (WQ.thenNormal (WC.seq (WC.block (WC.order mixed ?_))))
    refine wr 6 rfl trivial ?_
    obtain ⟨g2, h⟩ := grd h
    refine WR.q [2554] rfl rfl rfl (q_ridx tbOk rfl (by exact trivial) rfl (by simpa only [List.length_map] using g2)) ?_
    refine wr 1 rfl trivial ?_
    refine WR.q [2554] rfl rfl rfl (x := .v (.int .i64 ((c11_43.getD i.toNat default).Value))) (q_rload tbOk rfl (by exact trivial) rfl (map_getD (f := eApiInput) g2.2 g2.1) rfl) ?_
    refine wr 2 rfl trivial ?_
    obtain ⟨g3, h⟩ := grd h
    replace h := bnd h; obtain ⟨x2, hxx2, h⟩ := h
    refine WR.q [] rfl rfl rfl (q_idx tbOk rfl (by exact trivial) g3 (map_get (f := eInt_i64) hxx2)) ?_
    refine wr 1 rfl trivial ?_
    replace h := bnd h; obtain ⟨v7, hvv7, h⟩ := h
    refine WR.call0 fn12 rfl rfl rfl rfl (by exact trivial) rfl (within_con hw hvv7) ?_
    refine wr 1 rfl trivial ?_
    obtain ⟨g4, h⟩ := grd h
    refine WR.q [2554] rfl rfl rfl (q_ridx tbOk rfl (by exact trivial) rfl (by simpa only [List.length_map] using g4)) ?_
    refine wr 1 rfl trivial ?_
    refine WR.rstore tbOk ((c11_43.set i.toNat (⟨(c11_43.getD i.toNat default).Code, (if v7 < (c11_43.getD i.toNat default).Value then v7 else (c11_43.getD i.toNat default).Value), (c11_43.getD i.toNat default).Originating⟩ : ApiInput)).map eApiInput) rfl rfl rfl (by exact trivial) rfl (map_getD (f := eApiInput) g4.2 g4.1) rfl (mapset (f := eApiInput) (x := (⟨(c11_43.getD i.toNat default).Code, (if v7 < (c11_43.getD i.toNat default).Value then v7 else (c11_43.getD i.toNat default).Value), (c11_43.getD i.toNat default).Originating⟩ : ApiInput)) (by rfl)) ?_
    refine WR.nil (by kernel_rfl) (WQ.blockNormal (WQ.thenNormal (WC.region ?_)))
    refine lr 3 rfl trivial ?_
    refine WL.nil ?_
    cases h
    exact WQ.next [] ((IntKind.i64.wrap (i + (1 : Int))), (c11_43.set i.toNat (⟨(c11_43.getD i.toNat default).Code, (if v7 < (c11_43.getD i.toNat default).Value then v7 else (c11_43.getD i.toNat default).Value), (c11_43.getD i.toNat default).Originating⟩ : ApiInput))) ⟨(by exact ⟨rfl, rfl, rfl, rfl, rfl, trivial⟩), (by exact ⟨rfl, rfl, rfl, rfl, trivial⟩), rfl, rfl, rfl, rfl⟩ (hn1 _ hf1)
   ·replace h := ite_f hc1 h
    refine WC.exit (WQ.thenExit ?_)
    cases h
    have he := he1 _ hf1
    subst he
    replace h := hk1
    try dsimp only at h
    refine WQ.thenExit (WQ.blockExit ?_)
    exact WQ.cut [] c11_43 ⟨(by exact ⟨rfl, rfl, rfl, trivial⟩), (by exact ⟨rfl, rfl, rfl, rfl, trivial⟩), rfl, rfl, rfl, rfl⟩ h
  ·intro c11_42 h
   replace h : lawRuleMonotone_j2 v v2 c11_42 = some _ := h
   unfold lawRuleMonotone_j2 at h
   show WC _ _ _ ⟨[(11, .p 11 0), (10, .p 10 0), (9, .p 9 0)], [(9, .blk 37 [.v (.int .i64 v.Kind), .v (.int .i64 v.Digits), .v (.sl 1 (v.Except.map eStr)), .v (.int .i64 v.Tolerance), .v (.int .i64 v.Limit), .v (.str v.Name), .v (.sl 7 (v.Args.map eApiRule))]), (10, .blk 25 [.v (.str v2.Code), .v (.int .i64 v2.Price), .v (.bool v2.Obtained), .v (.sl 1 (v2.Processes.map eStr)), .v (.sl 3 (v2.Inputs.map eApiInput))]), (2554, .row 28 3 (c11_42.map eApiInput)), (11, .blk 25 [.v (.str v2.Code), .v (.int .i64 v2.Price), .v (.bool v2.Obtained), .v (.sl 1 (v2.Processes.map eStr)), .r 2554])]⟩ _ _
   refine WC.seq (WC.region ?_)
   refine lr 3 rfl trivial ?_
   refine WL.nil (WQ.thenNormal (WC.seq ?_))
   refine WC.publish 2554 rfl rfl ?_
   refine WC.region ?_
   refine lr 2 rfl trivial ?_
   replace h := bnd h; obtain ⟨v3, hvv3, h⟩ := h
   refine WL.call0 fn17 rfl rfl rfl rfl (by exact trivial) rfl (ruleHolds_con hw hvv3) ?_
   refine lr 4 rfl (by exact sideR) ?_
   replace h := bnd h; obtain ⟨v4, hvv4, h⟩ := h
   refine WL.gcall0 fn17 rfl rfl rfl rfl rfl (fun _ => (by exact sideR)) rfl (fun hg => (ruleHolds_con hw (ite_t hg hvv4))) ?_
   refine lr 2 rfl (by exact sideR) ?_
   replace h := bnd h; obtain ⟨v5, hvv5, h⟩ := h
   refine WL.gcall0 fn13 rfl rfl rfl rfl rfl (fun _ => (by exact sideR)) rfl (fun hg => (awake12_con hw (ite_t hg hvv5))) ?_
   refine lr 2 rfl (by exact sideR) ?_
   refine WL.nil (WQ.thenNormal (WC.ret ?_))
   cases h
   exact WQ.rets tbOk hR [] (.inl rfl) rfl rfl (Le.refl _) (by exact trivial) rfl rfl rfl rfl

theorem lawRuleConnectives_con {wg : World} (hw : WG wg) {l : (List Int)} {k : (List Int)} {m1 : (List Int)} {r : Bool} (h : lawRuleConnectives l k m1 = some r) : Con Tryz.prog wg gl 7 [.v (.sl 1 (l.map eInt_i64)), .v (.sl 1 (k.map eInt_i64)), .v (.sl 1 (m1.map eInt_i64))] [] (.v (.bool r)) [] := by
 unfold lawRuleConnectives at h
 refine con_of_WC (S := slotsOf 0 _) Tryz.func7 rfl Tryz.ntmps7 rfl (fun t x hx => (slotsOf_get hx).2) ?_
 intro F L w ρ0 R hR
 show WC _ _ _ ⟨[(0, .v (.sl 1 (l.map eInt_i64))), (1, .v (.sl 1 (k.map eInt_i64))), (2, .v (.sl 1 (m1.map eInt_i64)))], []⟩ _ _
 refine WC.seq (WC.region ?_)
 refine lr 1 rfl trivial ?_
 refine WL.nil (WQ.thenNormal (WC.seq (WC.region ?_)))
 refine lr 1 rfl trivial ?_
 replace h := bnd h; obtain ⟨v, hvv, h⟩ := h
 refine WL.call0 fn14 rfl rfl rfl rfl (by exact trivial) rfl (madeRule_con hw hvv) ?_
 refine lr 1 rfl trivial ?_
 replace h := bnd h; obtain ⟨v2, hvv2, h⟩ := h
 refine WL.call0 fn14 rfl rfl rfl rfl (by exact trivial) rfl (madeRule_con hw hvv2) ?_
 refine lr 1 rfl trivial ?_
 replace h := bnd h; obtain ⟨v3, hvv3, h⟩ := h
 refine WL.call0 fn9 rfl rfl rfl rfl (by exact trivial) rfl (madeCase_con hw hvv3) ?_
 refine lr 6 rfl trivial ?_
 refine WL.nil (WQ.thenNormal (WC.seq (WC.order mixed ?_)))
 refine wr 2 rfl trivial ?_
 replace h := bnd h; obtain ⟨v4, hvv4, h⟩ := h
 refine WR.call0 fn17 rfl rfl rfl rfl (by exact trivial) rfl (ruleHolds_con hw hvv4) ?_
 refine wr 2 rfl trivial ?_
 replace h := bnd h; obtain ⟨v5, hvv5, h⟩ := h
 refine WR.call0 fn17 rfl rfl rfl rfl (by exact trivial) rfl (ruleHolds_con hw hvv5) ?_
 refine wr 2 rfl trivial ?_
 refine WR.nil (by kernel_rfl) (WQ.thenNormal (WC.seq (WC.order mixed ?_)))
 refine wr 2 rfl trivial ?_
 refine WR.mkLe tbOk (.v (.sl 7 ([v, v2].map eApiRule))) rfl (by exact trivial) (Le.of_eq (by simp only [List.map_cons, List.map_nil, eApiRule_eq])) ?_
 refine wr 3 rfl trivial ?_
 refine WR.mkLe tbOk (.v (.sl 7 ([v, v2].map eApiRule))) rfl (by exact trivial) (Le.of_eq (by simp only [List.map_cons, List.map_nil, eApiRule_eq])) ?_
 refine wr 5 rfl trivial ?_
 refine WR.nil (by kernel_rfl) (WQ.thenNormal (WC.seq (WC.seq (WC.region ?_))))
 refine lr 1 rfl trivial ?_
 replace h := bnd h; obtain ⟨v6, hvv6, h⟩ := h
 refine WL.call0 fn23 rfl rfl rfl rfl (by exact trivial) rfl (con_le (.cons (Le.agg (.same (.same (.sl 1 (.same (.same (.same (.same .nil)))))))) .nil) (ruleValidate_con hw hvv6)) ?_
 refine lr 4 rfl (by exact sideR) ?_
 replace h := bnd h; obtain ⟨v7, hvv7, h⟩ := h
 refine WL.gcall0 fn17 rfl rfl rfl rfl rfl (fun _ => (by exact sideR)) rfl (fun hg => (con_le (.cons (Le.agg (.same (.same (.sl 1 (.same (.same (.same (.same .nil)))))))) (.cons (Le.refl _) .nil)) (ruleHolds_con hw (ite_t hg hvv7)))) ?_
 refine lr 6 rfl (by exact sideR) ?_
 refine WL.nil (WQ.thenNormal ?_)
 refine WC.cond rfl (fun hc1 => ?_) (fun hc1 => ?_)
 ·replace h := ite_t hc1 h
  refine WC.seq (WC.region ?_)
  refine lr 1 rfl trivial ?_
  refine WL.nil (WQ.thenNormal (WC.ret (WQ.thenRet ?_)))
  cases h
  exact WQ.rets tbOk hR [] (.inl rfl) rfl rfl (Le.refl _) (by exact trivial) rfl rfl rfl rfl
 ·replace h := ite_f hc1 h
  refine WC.skip (WQ.thenNormal (WC.seq (WC.region ?_)))
  refine lr 1 rfl trivial ?_
  replace h := bnd h; obtain ⟨v8, hvv8, h⟩ := h
  refine WL.call0 fn23 rfl rfl rfl rfl (by exact trivial) rfl (con_le (.cons (Le.agg (.same (.same (.sl 1 (.same (.same (.same (.same .nil)))))))) .nil) (ruleValidate_con hw hvv8)) ?_
  refine lr 4 rfl (by exact sideR) ?_
  replace h := bnd h; obtain ⟨v9, hvv9, h⟩ := h
  refine WL.gcall0 fn17 rfl rfl rfl rfl rfl (fun _ => (by exact sideR)) rfl (fun hg => (con_le (.cons (Le.agg (.same (.same (.sl 1 (.same (.same (.same (.same .nil)))))))) (.cons (Le.refl _) .nil)) (ruleHolds_con hw (ite_t hg hvv9)))) ?_
  refine lr 7 rfl (by exact sideR) ?_
  replace h := bnd h; obtain ⟨v10, hvv10, h⟩ := h
  refine WL.gcall0 fn13 rfl rfl rfl rfl rfl (fun _ => (by exact sideR)) rfl (fun hg => (awake12_con hw (ite_t hg hvv10))) ?_
  refine lr 2 rfl (by exact sideR) ?_
  refine WL.nil (WQ.thenNormal (WC.ret ?_))
  cases h
  exact WQ.rets tbOk hR [] (.inl rfl) rfl rfl (Le.refl _) (by exact trivial) rfl rfl rfl rfl

theorem lawRuleScaled_con {wg : World} (hw : WG wg) {l : (List Int)} {m1 : (List Int)} {factor : Int} {r : Bool} (h : lawRuleScaled l m1 factor = some r) : Con Tryz.prog wg gl 8 [.v (.sl 1 (l.map eInt_i64)), .v (.sl 1 (m1.map eInt_i64)), .v (.int .i64 factor)] [] (.v (.bool r)) [] := by
 unfold lawRuleScaled at h
 refine con_of_WC (S := slotsOf 0 _) Tryz.func8 rfl Tryz.ntmps8 rfl (fun t x hx => (slotsOf_get hx).2) ?_
 intro F L w ρ0 R hR
 show WC _ _ _ ⟨[(0, .v (.sl 1 (l.map eInt_i64))), (1, .v (.sl 1 (m1.map eInt_i64))), (2, .v (.int .i64 factor))], []⟩ _ _
 refine WC.seq (WC.region ?_)
 refine lr 1 rfl trivial ?_
 refine WL.nil (WQ.thenNormal (WC.seq (WC.region ?_)))
 refine lr 1 rfl trivial ?_
 replace h := bnd h; obtain ⟨v, hvv, h⟩ := h
 refine WL.call0 fn14 rfl rfl rfl rfl (by exact trivial) rfl (madeRule_con hw hvv) ?_
 refine lr 1 rfl trivial ?_
 replace h := bnd h; obtain ⟨v2, hvv2, h⟩ := h
 refine WL.call0 fn9 rfl rfl rfl rfl (by exact trivial) rfl (madeCase_con hw hvv2) ?_
 refine lr 4 rfl trivial ?_
 refine WL.nil (WQ.thenNormal (WC.seq (WC.region ?_)))
 refine lr 1 rfl trivial ?_
 replace h := bnd h; obtain ⟨v3, hvv3, h⟩ := h
 refine WL.call0 fn12 rfl rfl rfl rfl (by exact trivial) rfl (within_con hw hvv3) ?_
 refine lr 2 rfl trivial ?_
 refine WL.nil (WQ.thenNormal (WC.seq (WC.region ?_)))
 refine lr 3 rfl trivial ?_
 refine WL.nil (WQ.thenNormal (WC.seq (WC.region ?_)))
 refine WL.buildRow tbOk (([] : (List ApiInput)).map eApiInput) rfl rfl rfl rfl (by exact trivial) rfl rfl ?_
 refine lr 2 rfl trivial ?_
 obtain ⟨g1, h⟩ := grd h
 refine WL.append tbOk (v2.Inputs.map eApiInput) [24, 21] ap23 rfl rfl rfl rfl (fun _ e => by cases e; rfl) (by exact trivial) (map_cells (f := eApiInput) (xs := v2.Inputs) fun _ => rfl) (by have := g1; simp only [List.length_map, List.length_nil, List.length_cons] at this ⊢; omega) rfl rfl rfl rfl ?_
 refine lr 2 rfl trivial ?_
 refine WL.nil (WQ.thenNormal (WC.seq (WC.region ?_)))
 refine lr 4 rfl trivial ?_
 refine WL.nil (WQ.thenNormal (WC.seq (WC.seq (WC.region ?_))))
 refine lr 1 rfl trivial ?_
 refine WL.nil (WQ.thenNormal ?_)
 refine WC.thenCut (X := Bool × (List ApiInput)) (fun gG => ⟨[(11, .v (.bool gG.1)), (10, .p 10 0), (9, .v (.int .i64 (IntKind.i64.wrap ((1 : Int) + v3)))), (8, .p 8 0), (7, .p 7 0)], [(8, .blk 25 [.v (.str v2.Code), .v (.int .i64 v2.Price), .v (.bool v2.Obtained), .v (.sl 1 (v2.Processes.map eStr)), .v (.sl 3 (v2.Inputs.map eApiInput))]), (2504, .row 28 3 (gG.2.map eApiInput)), (10, .blk 25 [.v (.str v2.Code), .v (.int .i64 v2.Price), .v (.bool v2.Obtained), .v (.sl 1 (v2.Processes.map eStr)), .r 2504]), (7, .blk 37 [.v (.int .i64 v.Kind), .v (.int .i64 v.Digits), .v (.sl 1 (v.Except.map eStr)), .v (.int .i64 v.Tolerance), .v (.int .i64 v.Limit), .v (.str v.Name), .v (.sl 7 (v.Args.map eApiRule))])]⟩) (fun gG => lawRuleScaled_j1 v v2 v3 gG.1 gG.2 = some r) ?_ ?_
 ·refine WC.block ?_
  obtain ⟨eQ1, hl1, hk1⟩ := bnd h
  clear h
  refine WC.loop (σ := Int × Bool × (List ApiInput)) (τ := (Bool × (List ApiInput))) (fun sS => ⟨[(12, .v (.int .i64 sS.1)), (11, .v (.bool sS.2.1)), (10, .p 10 0), (9, .v (.int .i64 (IntKind.i64.wrap ((1 : Int) + v3)))), (8, .p 8 0), (7, .p 7 0)], [(8, .blk 25 [.v (.str v2.Code), .v (.int .i64 v2.Price), .v (.bool v2.Obtained), .v (.sl 1 (v2.Processes.map eStr)), .v (.sl 3 (v2.Inputs.map eApiInput))]), (2504, .row 28 3 (sS.2.2.map eApiInput)), (10, .blk 25 [.v (.str v2.Code), .v (.int .i64 v2.Price), .v (.bool v2.Obtained), .v (.sl 1 (v2.Processes.map eStr)), .r 2504]), (7, .blk 37 [.v (.int .i64 v.Kind), .v (.int .i64 v.Digits), .v (.sl 1 (v.Except.map eStr)), .v (.int .i64 v.Tolerance), .v (.int .i64 v.Limit), .v (.str v.Name), .v (.sl 7 (v.Args.map eApiRule))])]⟩) (lawRuleScaled_b1 v v2 v3) [(2504, 24)] ((0 : Int), (decide ((1000000 : Int) < v2.Price)), v2.Inputs) hl1 ⟨(by exact ⟨rfl, rfl, rfl, rfl, rfl, rfl, trivial⟩), (by exact ⟨rfl, rfl, rfl, rfl, trivial⟩), rfl, rfl, rfl, rfl⟩ ?_
  rintro ⟨i, big2, c10_42⟩ m hn1 he1 hx1
  obtain ⟨o1, hf1⟩ := some_of hx1
  have h := hf1
  unfold lawRuleScaled_b1 at h
  show WC _ _ _ ⟨[(12, .v (.int .i64 i)), (11, .v (.bool big2)), (10, .p 10 0), (9, .v (.int .i64 (IntKind.i64.wrap ((1 : Int) + v3)))), (8, .p 8 0), (7, .p 7 0)], [(8, .blk 25 [.v (.str v2.Code), .v (.int .i64 v2.Price), .v (.bool v2.Obtained), .v (.sl 1 (v2.Processes.map eStr)), .v (.sl 3 (v2.Inputs.map eApiInput))]), (2504, .row 28 3 (c10_42.map eApiInput)), (10, .blk 25 [.v (.str v2.Code), .v (.int .i64 v2.Price), .v (.bool v2.Obtained), .v (.sl 1 (v2.Processes.map eStr)), .r 2504]), (7, .blk 37 [.v (.int .i64 v.Kind), .v (.int .i64 v.Digits), .v (.sl 1 (v.Except.map eStr)), .v (.int .i64 v.Tolerance), .v (.int .i64 v.Limit), .v (.str v.Name), .v (.sl 7 (v.Args.map eApiRule))])]⟩ _ _
  refine WC.seq (WC.seq (WC.region ?_))
  refine lr 3 rfl trivial ?_
  refine WL.q [2504] rfl rfl rfl (q_ev tbOk (.v (.int .i64 (c10_42.length : Int))) rfl (by exact trivial) (by exact lenT)) ?_
  refine lr 1 rfl trivial ?_
  refine WL.nil (WQ.thenNormal ?_)
  refine WC.cond rfl (fun hc1 => ?_) (fun hc1 => ?_)
  ·replace h := ite_t hc1 h
   refine WC.skip (WQ.thenNormal (WC.seq (WC.block (WC.seq (WC.region ?_)))))
   refine lr 5 rfl (by exact sideR) ?_
   obtain ⟨g2, h⟩ := grd h
   refine WL.gq [2504] rfl rfl rfl rfl (fun hg => q_ridx tbOk rfl (by exact sideR) rfl (by simpa only [List.length_map] using g2 hg)) ?_
   refine lr 1 rfl (by exact sideR) ?_
   refine WL.gq [2504] rfl rfl rfl rfl (x := .v (.int .i64 ((c10_42.getD i.toNat default).Value))) (fun hg => q_rload tbOk rfl (by exact sideR) rfl (map_getD (f := eApiInput) (g2 hg).2 (g2 hg).1) rfl) ?_
   refine lr 3 rfl (by exact sideR) ?_
   refine WL.nil (WQ.thenNormal (WC.order mixed ?_))
   refine wr 6 rfl trivial ?_
   obtain ⟨g3, h⟩ := grd h
   refine WR.q [2504] rfl rfl rfl (q_ridx tbOk rfl (by exact trivial) rfl (by simpa only [List.length_map] using g3)) ?_
   refine wr 1 rfl trivial ?_
   refine WR.q [2504] rfl rfl rfl (x := .v (.int .i64 ((c10_42.getD i.toNat default).Value))) (q_rload tbOk rfl (by exact trivial) rfl (map_getD (f := eApiInput) g3.2 g3.1) rfl) ?_
   refine wr 2 rfl trivial ?_
   obtain ⟨g4, h⟩ := grd h
   refine WR.q [2504] rfl rfl rfl (q_ridx tbOk rfl (by exact trivial) rfl (by simpa only [List.length_map] using g4)) ?_
   refine wr 1 rfl trivial ?_
   refine WR.rstore tbOk ((c10_42.set i.toNat (⟨(c10_42.getD i.toNat default).Code, (IntKind.i64.wrap (((c10_42.getD i.toNat default).Value) * (IntKind.i64.wrap ((1 : Int) + v3)))), (c10_42.getD i.toNat default).Originating⟩ : ApiInput)).map eApiInput) rfl rfl rfl (by exact trivial) rfl (map_getD (f := eApiInput) g4.2 g4.1) rfl (mapset (f := eApiInput) (x := (⟨(c10_42.getD i.toNat default).Code, (IntKind.i64.wrap (((c10_42.getD i.toNat default).Value) * (IntKind.i64.wrap ((1 : Int) + v3)))), (c10_42.getD i.toNat default).Originating⟩ : ApiInput)) (by rfl)) ?_
   refine WR.nil (by kernel_rfl) (WQ.blockNormal (WQ.thenNormal (WC.region ?_)))
   refine lr 3 rfl trivial ?_
   refine WL.nil ?_
   cases h
   exact WQ.next [] ((IntKind.i64.wrap (i + (1 : Int))), (bif big2 then true else (decide ((1000000 : Int) < ((c10_42.getD i.toNat default).Value)))), (c10_42.set i.toNat (⟨(c10_42.getD i.toNat default).Code, (IntKind.i64.wrap (((c10_42.getD i.toNat default).Value) * (IntKind.i64.wrap ((1 : Int) + v3)))), (c10_42.getD i.toNat default).Originating⟩ : ApiInput))) ⟨(by exact ⟨rfl, rfl, rfl, rfl, rfl, rfl, trivial⟩), (by exact ⟨rfl, rfl, rfl, rfl, trivial⟩), rfl, rfl, rfl, rfl⟩ (hn1 _ hf1)
  ·replace h := ite_f hc1 h
   refine WC.exit (WQ.thenExit ?_)
   cases h
   have he := he1 _ hf1
   subst he
   replace h := hk1
   try dsimp only at h
   refine WQ.thenExit (WQ.blockExit ?_)
   exact WQ.cut [] (big2, c10_42) ⟨(by exact ⟨rfl, rfl, rfl, rfl, rfl, trivial⟩), (by exact ⟨rfl, rfl, rfl, rfl, trivial⟩), rfl, rfl, rfl, rfl⟩ h
 ·rintro ⟨big, c10_4⟩ h
  replace h : lawRuleScaled_j1 v v2 v3 big c10_4 = some _ := h
  unfold lawRuleScaled_j1 at h
  show WC _ _ _ ⟨[(11, .v (.bool big)), (10, .p 10 0), (9, .v (.int .i64 (IntKind.i64.wrap ((1 : Int) + v3)))), (8, .p 8 0), (7, .p 7 0)], [(8, .blk 25 [.v (.str v2.Code), .v (.int .i64 v2.Price), .v (.bool v2.Obtained), .v (.sl 1 (v2.Processes.map eStr)), .v (.sl 3 (v2.Inputs.map eApiInput))]), (2504, .row 28 3 (c10_4.map eApiInput)), (10, .blk 25 [.v (.str v2.Code), .v (.int .i64 v2.Price), .v (.bool v2.Obtained), .v (.sl 1 (v2.Processes.map eStr)), .r 2504]), (7, .blk 37 [.v (.int .i64 v.Kind), .v (.int .i64 v.Digits), .v (.sl 1 (v.Except.map eStr)), .v (.int .i64 v.Tolerance), .v (.int .i64 v.Limit), .v (.str v.Name), .v (.sl 7 (v.Args.map eApiRule))])]⟩ _ _
  refine WC.seq (WC.region ?_)
  refine lr 6 rfl trivial ?_
  refine WL.nil (WQ.thenNormal (WC.seq ?_))
  refine WC.publish 2504 rfl rfl ?_
  refine WC.order mixed ?_
  refine wr 4 rfl (by exact sideR) ?_
  replace h := bnd h; obtain ⟨v4, hvv4, h⟩ := h
  refine WR.gcall0 fn17 rfl rfl rfl rfl rfl (fun _ => (by exact sideR)) rfl (fun hg => (ruleHolds_con hw (ite_t hg hvv4))) ?_
  refine wr 2 rfl (by exact sideR) ?_
  replace h := bnd h; obtain ⟨v5, hvv5, h⟩ := h
  refine WR.gcall0 fn17 rfl rfl rfl rfl rfl (fun _ => (by exact sideR)) rfl (fun hg => (ruleHolds_con hw (ite_t hg hvv5))) ?_
  refine wr 3 rfl (by exact sideR) ?_
  replace h := bnd h; obtain ⟨v6, hvv6, h⟩ := h
  refine WR.gcall0 fn13 rfl rfl rfl rfl rfl (fun _ => (by exact sideR)) rfl (fun hg => (awake12_con hw (ite_t hg hvv6))) ?_
  refine wr 2 rfl (by exact sideR) ?_
  refine WR.nil (by kernel_rfl) (WQ.thenNormal (WC.ret ?_))
  cases h
  exact WQ.rets tbOk hR [] (.inl rfl) rfl rfl (Le.refl _) (by exact trivial) rfl rfl rfl rfl

end Go.Proofs.YtfeleiepnifbcaaGreatDoor
