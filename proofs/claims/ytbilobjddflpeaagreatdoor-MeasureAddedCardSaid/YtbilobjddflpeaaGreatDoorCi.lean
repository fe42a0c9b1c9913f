/- Contracts: the program's functions compute the plain ones; by program (gen.py). -/
import Derived.Test.YtbilobjddflpeaaGreatDoorLib
import Derived.Test.YtbilobjddflpeaaGreatDoorPi
import Derived.Test.YtbilobjddflpeaaGreatDoorCa
import Derived.Test.YtbilobjddflpeaaGreatDoorCb
import Derived.Test.YtbilobjddflpeaaGreatDoorCc
import Derived.Test.YtbilobjddflpeaaGreatDoorCd
import Derived.Test.YtbilobjddflpeaaGreatDoorCe
import Derived.Test.YtbilobjddflpeaaGreatDoorCf
import Derived.Test.YtbilobjddflpeaaGreatDoorCg
set_option linter.unusedVariables false
set_option linter.unusedSimpArgs false
set_option maxHeartbeats 4000000
set_option maxRecDepth 20000
namespace Go.Proofs.YtbilobjddflpeaaGreatDoor
open Go.V Go.C

theorem lawCovers_con {wg : World} (hw : WG wg) {l : (List Int)} {k : (List Int)} {at_ : Int} {day : Int} {raw : Bool} {r : Bool} (h : lawCovers l k at_ day raw = some r) : Con Tryz.prog wg gl 6 [.v (.sl 1 (l.map eInt_i64)), .v (.sl 1 (k.map eInt_i64)), .v (.int .i64 at_), .v (.int .i64 day), .v (.bool raw)] [] (.v (.bool r)) [] := by
 unfold lawCovers at h
 refine con_of_WC (S := slotsOf 0 _) Tryz.func6 rfl Tryz.ntmps6 rfl (fun t x hx => (slotsOf_get hx).2) ?_
 intro F L w ρ0 R hR
 show WC _ _ _ ⟨[(0, .v (.sl 1 (l.map eInt_i64))), (1, .v (.sl 1 (k.map eInt_i64))), (2, .v (.int .i64 at_)), (3, .v (.int .i64 day)), (4, .v (.bool raw))], []⟩ _ _
 refine WC.seq (WC.region ?_)
 refine WL.run tbOk 1 (acc := []) rfl trivial ?_
 refine WL.nil (WQ.thenNormal (WC.seq (WC.region ?_)))
 refine WL.run tbOk 1 (acc := []) rfl trivial ?_
 obtain ⟨v, hvv, h⟩ := bnd h
 refine WL.call0 fn14 rfl rfl rfl rfl (by exact trivial) rfl (madeMeasures_con hw hvv) ?_
 refine WL.run tbOk 1 (acc := []) rfl trivial ?_
 obtain ⟨v2, hvv2, h⟩ := bnd h
 refine WL.call0 fn23 rfl rfl rfl rfl (by exact trivial) rfl (madeItem_con hw hvv2) ?_
 refine WL.run tbOk 3 (acc := []) rfl trivial ?_
 refine WL.nil (WQ.thenNormal (WC.seq (WC.seq (WC.region ?_))))
 refine WL.run tbOk 2 (acc := []) rfl trivial ?_
 refine WL.nil (WQ.thenNormal ?_)
 refine WC.thenCut (X := Int) (fun gG => ⟨[(3, .v (.int .i64 gG)), (11, .v (.sl 15 (v.map eApiMeasure))), (12, .p 12 0), (2, .v (.int .i64 at_))], [(12, .blk 46 [.v (.str v2.Code), .v (.str v2.Origin), .v (.bool v2.Proof), .v (.int .i64 v2.Company), .v (.int .i64 v2.Day), .v (.int .i64 v2.Quantity), .v (.int .i64 v2.Value), .v (.int .i64 v2.Granted)])]⟩) (fun gG => lawCovers_j1 at_ v v2 gG = some r) ?_ ?_
 ·refine WC.cond rfl (fun hc2 => ?_) (fun hc2 => ?_)
  ·replace h := ite_t hc2 h
   refine WC.region ?_
   refine WL.run tbOk 1 (acc := []) rfl trivial ?_
   obtain ⟨v10, hvv10, h⟩ := bnd h
   refine WL.call0 fn16 rfl rfl rfl rfl (by exact trivial) rfl (within_con hw hvv10) ?_
   refine WL.run tbOk 1 (acc := []) rfl trivial ?_
   refine WL.nil ?_
   exact WQ.cut [] v10 ⟨(by exact ⟨rfl, rfl, rfl, rfl, trivial⟩), (by exact ⟨rfl, trivial⟩), rfl, rfl, rfl, rfl⟩ h
  ·replace h := ite_f hc2 h
   refine WC.skip ?_
   exact WQ.cut [] day ⟨(by exact ⟨rfl, rfl, rfl, rfl, trivial⟩), (by exact ⟨rfl, trivial⟩), rfl, rfl, rfl, rfl⟩ h
 ·intro day2 h
  replace h : lawCovers_j1 at_ v v2 day2 = some _ := h
  unfold lawCovers_j1 at h
  show WC _ _ _ ⟨[(3, .v (.int .i64 day2)), (11, .v (.sl 15 (v.map eApiMeasure))), (12, .p 12 0), (2, .v (.int .i64 at_))], [(12, .blk 46 [.v (.str v2.Code), .v (.str v2.Origin), .v (.bool v2.Proof), .v (.int .i64 v2.Company), .v (.int .i64 v2.Day), .v (.int .i64 v2.Quantity), .v (.int .i64 v2.Value), .v (.int .i64 v2.Granted)])]⟩ _ _
  refine WC.seq (WC.seq (WC.region ?_))
  refine WL.run tbOk 1 (acc := []) rfl trivial ?_
  refine WL.q [] rfl rfl rfl (q_ev tbOk (.v (.int .i64 (v.length : Int))) rfl (by exact trivial) (by exact lenT)) ?_
  refine WL.run tbOk 1 (acc := []) rfl trivial ?_
  refine WL.nil (WQ.thenNormal ?_)
  refine WC.cond rfl (fun hc1 => ?_) (fun hc1 => ?_)
  ·replace h := ite_t hc1 h
   refine WC.seq (WC.region ?_)
   obtain ⟨v3, hvv3, h⟩ := bnd h
   refine WL.call0 fn15 rfl rfl rfl rfl (by exact trivial) rfl (awake19_con hw hvv3) ?_
   refine WL.run tbOk 1 (acc := []) rfl trivial ?_
   refine WL.nil (WQ.thenNormal (WC.ret (WQ.thenRet ?_)))
   cases h
   exact WQ.rets tbOk hR [] (.inl rfl) rfl rfl (Le.refl _) (by exact trivial) rfl rfl rfl rfl
  ·replace h := ite_f hc1 h
   refine WC.skip (WQ.thenNormal (WC.seq (WC.region ?_)))
   refine WL.run tbOk 3 (acc := []) rfl trivial ?_
   refine WL.q [] rfl rfl rfl (q_ev tbOk (.v (.int .i64 (v.length : Int))) rfl (by exact trivial) (by exact lenT)) ?_
   obtain ⟨v4, hvv4, h⟩ := bnd h
   refine WL.call0 fn16 rfl rfl rfl rfl (by exact trivial) rfl (within_con hw hvv4) ?_
   obtain ⟨g1, h⟩ := grd h
   obtain ⟨x, hxx, h⟩ := bnd h
   refine WL.q [] rfl rfl rfl (q_idx tbOk rfl (by exact trivial) g1 (map_get (f := eApiMeasure) hxx)) ?_
   refine WL.run tbOk 3 (acc := []) rfl trivial ?_
   refine WL.nil (WQ.thenNormal (WC.seq (WC.order mixed ?_)))
   refine WR.run tbOk 2 (acc := []) rfl trivial ?_
   obtain ⟨v5, hvv5, h⟩ := bnd h
   refine WR.call0 fn24 rfl rfl rfl rfl (by exact trivial) rfl (meInForce_con hw hvv5) ?_
   refine WR.run tbOk 2 (acc := []) rfl trivial ?_
   obtain ⟨v6, hvv6, h⟩ := bnd h
   refine WR.call0 fn25 rfl rfl rfl rfl (by exact trivial) rfl (refInForce_con hw hvv6) ?_
   refine WR.run tbOk 10 (acc := []) rfl (by repeat' (first | exact trivial | assumption | intro _ | apply And.intro | exact sideT | (refine and_i ?_ ?_))) ?_
   obtain ⟨v7, hvv7, h⟩ := bnd h
   refine WR.gcall0 fn26 rfl rfl rfl rfl rfl (fun _ => (by repeat' (first | exact trivial | assumption | intro _ | apply And.intro | exact sideT | (refine and_i ?_ ?_)))) rfl (fun hg => (meCovers_con hw (ite_t hg hvv7))) ?_
   refine WR.run tbOk 8 (acc := []) rfl (by repeat' (first | exact trivial | assumption | intro _ | apply And.intro | exact sideT | (refine and_i ?_ ?_))) ?_
   obtain ⟨v8, hvv8, h⟩ := bnd h
   refine WR.gcall0 fn27 rfl rfl rfl rfl rfl (fun _ => (by repeat' (first | exact trivial | assumption | intro _ | apply And.intro | exact sideT | (refine and_i ?_ ?_)))) rfl (fun hg => (refCovers_con hw (ite_t hg hvv8))) ?_
   refine WR.run tbOk 3 (acc := []) rfl (by repeat' (first | exact trivial | assumption | intro _ | apply And.intro | exact sideT | (refine and_i ?_ ?_))) ?_
   obtain ⟨v9, hvv9, h⟩ := bnd h
   refine WR.gcall0 fn15 rfl rfl rfl rfl rfl (fun _ => (by repeat' (first | exact trivial | assumption | intro _ | apply And.intro | exact sideT | (refine and_i ?_ ?_)))) rfl (fun hg => (awake19_con hw (ite_t hg hvv9))) ?_
   refine WR.run tbOk 2 (acc := []) rfl (by repeat' (first | exact trivial | assumption | intro _ | apply And.intro | exact sideT | (refine and_i ?_ ?_))) ?_
   refine WR.nil (by kernel_rfl) (WQ.thenNormal (WC.ret ?_))
   cases h
   exact WQ.rets tbOk hR [] (.inl rfl) rfl rfl (Le.refl _) (by exact trivial) rfl rfl rfl rfl

theorem lawApplicable_con {wg : World} (hw : WG wg) {l : (List Int)} {k : (List Int)} {r : Bool} (h : lawApplicable l k = some r) : Con Tryz.prog wg gl 7 [.v (.sl 1 (l.map eInt_i64)), .v (.sl 1 (k.map eInt_i64))] [] (.v (.bool r)) [] := by
 unfold lawApplicable at h
 refine con_of_WC (S := slotsOf 0 _) Tryz.func7 rfl Tryz.ntmps7 rfl (fun t x hx => (slotsOf_get hx).2) ?_
 intro F L w ρ0 R hR
 show WC _ _ _ ⟨[(0, .v (.sl 1 (l.map eInt_i64))), (1, .v (.sl 1 (k.map eInt_i64)))], []⟩ _ _
 refine WC.seq (WC.region ?_)
 refine WL.run tbOk 1 (acc := []) rfl trivial ?_
 refine WL.nil (WQ.thenNormal (WC.seq (WC.region ?_)))
 refine WL.run tbOk 1 (acc := []) rfl trivial ?_
 obtain ⟨v, hvv, h⟩ := bnd h
 refine WL.call0 fn14 rfl rfl rfl rfl (by exact trivial) rfl (madeMeasures_con hw hvv) ?_
 refine WL.run tbOk 1 (acc := []) rfl trivial ?_
 obtain ⟨v2, hvv2, h⟩ := bnd h
 refine WL.call0 fn23 rfl rfl rfl rfl (by exact trivial) rfl (madeItem_con hw hvv2) ?_
 refine WL.run tbOk 3 (acc := []) rfl trivial ?_
 refine WL.nil (WQ.thenNormal (WC.seq (WC.order mixed ?_)))
 refine WR.run tbOk 9 (acc := []) rfl trivial ?_
 obtain ⟨v3, hvv3, h⟩ := bnd h
 refine WR.call0 fn28 rfl rfl rfl rfl (by exact trivial) rfl (meApplicable_con hw hvv3) ?_
 refine WR.run tbOk 9 (acc := []) rfl trivial ?_
 obtain ⟨v4, hvv4, h⟩ := bnd h
 refine WR.call0 fn29 rfl rfl rfl rfl (by exact trivial) rfl (refApplicable_con hw hvv4) ?_
 obtain ⟨v5, hvv5, h⟩ := bnd h
 refine WR.call0 fn22 rfl rfl rfl rfl (by exact trivial) rfl (sameMeasures_con hw hvv5) ?_
 refine WR.run tbOk 1 (acc := []) rfl trivial ?_
 obtain ⟨v6, hvv6, h⟩ := bnd h
 refine WR.gcall0 fn15 rfl rfl rfl rfl rfl (fun _ => (by repeat' (first | exact trivial | assumption | intro _ | apply And.intro | exact sideT | (refine and_i ?_ ?_)))) rfl (fun hg => (awake19_con hw (ite_t hg hvv6))) ?_
 refine WR.run tbOk 2 (acc := []) rfl (by repeat' (first | exact trivial | assumption | intro _ | apply And.intro | exact sideT | (refine and_i ?_ ?_))) ?_
 refine WR.nil (by kernel_rfl) (WQ.thenNormal (WC.ret ?_))
 cases h
 exact WQ.rets tbOk hR [] (.inl rfl) rfl rfl (Le.refl _) (by exact trivial) rfl rfl rfl rfl

theorem lawOtherDays_con {wg : World} (hw : WG wg) {l : (List Int)} {k : (List Int)} {r : Bool} (h : lawOtherDays l k = some r) : Con Tryz.prog wg gl 8 [.v (.sl 1 (l.map eInt_i64)), .v (.sl 1 (k.map eInt_i64))] [] (.v (.bool r)) [] := by
 unfold lawOtherDays at h
 refine con_of_WC (S := slotsOf 0 _) Tryz.func8 rfl Tryz.ntmps8 rfl (fun t x hx => (slotsOf_get hx).2) ?_
 intro F L w ρ0 R hR
 show WC _ _ _ ⟨[(0, .v (.sl 1 (l.map eInt_i64))), (1, .v (.sl 1 (k.map eInt_i64)))], []⟩ _ _
 refine WC.seq (WC.region ?_)
 refine WL.run tbOk 1 (acc := []) rfl trivial ?_
 refine WL.nil (WQ.thenNormal (WC.seq (WC.region ?_)))
 refine WL.run tbOk 1 (acc := []) rfl trivial ?_
 obtain ⟨v, hvv, h⟩ := bnd h
 refine WL.call0 fn14 rfl rfl rfl rfl (by exact trivial) rfl (madeMeasures_con hw hvv) ?_
 refine WL.run tbOk 1 (acc := []) rfl trivial ?_
 obtain ⟨v2, hvv2, h⟩ := bnd h
 refine WL.call0 fn23 rfl rfl rfl rfl (by exact trivial) rfl (madeItem_con hw hvv2) ?_
 refine WL.run tbOk 3 (acc := []) rfl trivial ?_
 refine WL.nil (WQ.thenNormal (WC.seq (WC.region ?_)))
 refine WL.run tbOk 1 (acc := []) rfl trivial ?_
 refine WL.nil (WQ.thenNormal (WC.seq (WC.seq (WC.region ?_))))
 refine WL.run tbOk 1 (acc := []) rfl trivial ?_
 refine WL.nil (WQ.thenNormal ?_)
 refine WC.thenCut (X := (List ApiMeasure)) (fun gG => ⟨[(7, .r 1007), (5, .v (.sl 15 (v.map eApiMeasure))), (6, .p 6 0)], [(1007, .row 34 15 (gG.map eApiMeasure)), (6, .blk 46 [.v (.str v2.Code), .v (.str v2.Origin), .v (.bool v2.Proof), .v (.int .i64 v2.Company), .v (.int .i64 v2.Day), .v (.int .i64 v2.Quantity), .v (.int .i64 v2.Value), .v (.int .i64 v2.Granted)])]⟩) (fun gG => lawOtherDays_j1 v v2 gG = some r) ?_ ?_
 ·refine WC.block ?_
  obtain ⟨eQ1, hl1, hk1⟩ := bnd h
  clear h
  refine WC.rowNil 7 1007 34 15 rfl rfl ?_
  refine WC.loop (σ := Int × (List ApiMeasure)) (τ := ((List ApiMeasure))) (fun sS => ⟨[(8, .v (.int .i64 sS.1)), (7, .r 1007), (5, .v (.sl 15 (v.map eApiMeasure))), (6, .p 6 0)], [(1007, .row 34 15 (sS.2.map eApiMeasure)), (6, .blk 46 [.v (.str v2.Code), .v (.str v2.Origin), .v (.bool v2.Proof), .v (.int .i64 v2.Company), .v (.int .i64 v2.Day), .v (.int .i64 v2.Quantity), .v (.int .i64 v2.Value), .v (.int .i64 v2.Granted)])]⟩) (lawOtherDays_b1 v v2) [] ((0 : Int), []) hl1 ⟨(by exact ⟨rfl, rfl, rfl, rfl, trivial⟩), (by exact ⟨rfl, rfl, trivial⟩), rfl, rfl, rfl, rfl⟩ ?_
  rintro ⟨i2, some13⟩ m hn1 he1 hx1
  obtain ⟨o1, hf1⟩ := some_of hx1
  have h := hf1
  unfold lawOtherDays_b1 at h
  show WC _ _ _ ⟨[(8, .v (.int .i64 i2)), (7, .r 1007), (5, .v (.sl 15 (v.map eApiMeasure))), (6, .p 6 0)], [(1007, .row 34 15 (some13.map eApiMeasure)), (6, .blk 46 [.v (.str v2.Code), .v (.str v2.Origin), .v (.bool v2.Proof), .v (.int .i64 v2.Company), .v (.int .i64 v2.Day), .v (.int .i64 v2.Quantity), .v (.int .i64 v2.Value), .v (.int .i64 v2.Granted)])]⟩ _ _
  refine WC.seq (WC.seq (WC.region ?_))
  refine WL.run tbOk 2 (acc := []) rfl trivial ?_
  refine WL.q [] rfl rfl rfl (q_ev tbOk (.v (.int .i64 (v.length : Int))) rfl (by exact trivial) (by exact lenT)) ?_
  refine WL.run tbOk 1 (acc := []) rfl trivial ?_
  refine WL.nil (WQ.thenNormal ?_)
  refine WC.cond rfl (fun hc1 => ?_) (fun hc1 => ?_)
  ·replace h := ite_t hc1 h
   refine WC.skip (WQ.thenNormal (WC.seq ?_))
   refine WC.thenCut (X := (List ApiMeasure)) (fun gG => ⟨[(7, .r 1007), (8, .v (.int .i64 i2)), (5, .v (.sl 15 (v.map eApiMeasure))), (6, .p 6 0)], [(1007, .row 34 15 (gG.map eApiMeasure)), (6, .blk 46 [.v (.str v2.Code), .v (.str v2.Origin), .v (.bool v2.Proof), .v (.int .i64 v2.Company), .v (.int .i64 v2.Day), .v (.int .i64 v2.Quantity), .v (.int .i64 v2.Value), .v (.int .i64 v2.Granted)])]⟩) (fun gG => lawOtherDays_j2 v v2 i2 gG = some o1) ?_ ?_
   ·refine WC.block (WC.seq (WC.order mixed ?_))
    refine WR.run tbOk 2 (acc := []) rfl trivial ?_
    obtain ⟨g1, h⟩ := grd h
    obtain ⟨x5, hxx5, h⟩ := bnd h
    refine WR.q [] rfl rfl rfl (q_idx tbOk rfl (by exact trivial) g1 (map_get (f := eApiMeasure) hxx5)) ?_
    refine WR.run tbOk 3 (acc := []) rfl trivial ?_
    obtain ⟨v9, hvv9, h⟩ := bnd h
    refine WR.call0 fn24 rfl rfl rfl rfl (by exact trivial) rfl (meInForce_con hw hvv9) ?_
    refine WR.nil (by kernel_rfl) (WQ.thenNormal ?_)
    refine WC.cond rfl (fun hc2 => ?_) (fun hc2 => ?_)
    ·replace h := ite_t hc2 h
     refine WC.region ?_
     refine WL.run tbOk 3 (acc := []) rfl trivial ?_
     obtain ⟨g2, h⟩ := grd h
     obtain ⟨x6, hxx6, h⟩ := bnd h
     refine WL.q [] rfl rfl rfl (q_idx tbOk rfl (by exact trivial) g2 (map_get (f := eApiMeasure) hxx6)) ?_
     refine WL.run tbOk 2 (acc := []) rfl trivial ?_
     obtain ⟨g3, h⟩ := grd h
     refine WL.append tbOk ((some13 ++ [x6]).map eApiMeasure) [32, 1007] ap22 rfl rfl rfl rfl (fun _ e => by cases e; rfl) (by exact trivial) (map_cells (f := eApiMeasure) (xs := [x6]) fun _ => rfl) (by have := g3; simp only [List.length_map, List.length_nil, List.length_cons] at this ⊢; omega) rfl rfl (by simp only [List.map_append]; try rfl) rfl ?_
     refine WL.run tbOk 1 (acc := []) rfl trivial ?_
     refine WL.nil (WQ.blockNormal ?_)
     exact WQ.cut [(1007, 32)] (some13 ++ [x6]) ⟨(by exact ⟨rfl, rfl, rfl, rfl, trivial⟩), (by exact ⟨rfl, rfl, trivial⟩), rfl, rfl, rfl, rfl⟩ h
    ·replace h := ite_f hc2 h
     refine WC.skip (WQ.blockNormal ?_)
     exact WQ.cut [] some13 ⟨(by exact ⟨rfl, rfl, rfl, rfl, trivial⟩), (by exact ⟨rfl, rfl, trivial⟩), rfl, rfl, rfl, rfl⟩ h
   ·intro some16 h
    replace h : lawOtherDays_j2 v v2 i2 some16 = some _ := h
    unfold lawOtherDays_j2 at h
    show WC _ _ _ ⟨[(7, .r 1007), (8, .v (.int .i64 i2)), (5, .v (.sl 15 (v.map eApiMeasure))), (6, .p 6 0)], [(1007, .row 34 15 (some16.map eApiMeasure)), (6, .blk 46 [.v (.str v2.Code), .v (.str v2.Origin), .v (.bool v2.Proof), .v (.int .i64 v2.Company), .v (.int .i64 v2.Day), .v (.int .i64 v2.Quantity), .v (.int .i64 v2.Value), .v (.int .i64 v2.Granted)])]⟩ _ _
    refine WC.region ?_
    refine WL.run tbOk 3 (acc := []) rfl trivial ?_
    refine WL.nil ?_
    cases h
    exact WQ.next [] ((IntKind.i64.wrap (i2 + (1 : Int))), some16) ⟨(by exact ⟨rfl, rfl, rfl, rfl, trivial⟩), (by exact ⟨rfl, rfl, trivial⟩), rfl, rfl, rfl, rfl⟩ (hn1 _ hf1)
  ·replace h := ite_f hc1 h
   refine WC.exit (WQ.thenExit ?_)
   cases h
   have he := he1 _ hf1
   subst he
   replace h := hk1
   try dsimp only at h
   refine WQ.thenExit (WQ.blockExit ?_)
   exact WQ.cut [] some13 ⟨(by exact ⟨rfl, rfl, rfl, trivial⟩), (by exact ⟨rfl, rfl, trivial⟩), rfl, rfl, rfl, rfl⟩ h
 ·intro some1 h
  replace h : lawOtherDays_j1 v v2 some1 = some _ := h
  unfold lawOtherDays_j1 at h
  show WC _ _ _ ⟨[(7, .r 1007), (5, .v (.sl 15 (v.map eApiMeasure))), (6, .p 6 0)], [(1007, .row 34 15 (some1.map eApiMeasure)), (6, .blk 46 [.v (.str v2.Code), .v (.str v2.Origin), .v (.bool v2.Proof), .v (.int .i64 v2.Company), .v (.int .i64 v2.Day), .v (.int .i64 v2.Quantity), .v (.int .i64 v2.Value), .v (.int .i64 v2.Granted)])]⟩ _ _
  refine WC.seq ?_
  refine WC.publish 1007 rfl rfl ?_
  refine WC.order mixed ?_
  refine WR.run tbOk 9 (acc := []) rfl trivial ?_
  obtain ⟨v3, hvv3, h⟩ := bnd h
  refine WR.call0 fn28 rfl rfl rfl rfl (by exact trivial) rfl (meApplicable_con hw hvv3) ?_
  refine WR.run tbOk 9 (acc := []) rfl trivial ?_
  obtain ⟨v4, hvv4, h⟩ := bnd h
  refine WR.call0 fn28 rfl rfl rfl rfl (by exact trivial) rfl (meApplicable_con hw hvv4) ?_
  obtain ⟨v5, hvv5, h⟩ := bnd h
  refine WR.call0 fn22 rfl rfl rfl rfl (by exact trivial) rfl (sameMeasures_con hw hvv5) ?_
  refine WR.run tbOk 1 (acc := []) rfl trivial ?_
  obtain ⟨v6, hvv6, h⟩ := bnd h
  refine WR.gcall0 fn15 rfl rfl rfl rfl rfl (fun _ => (by repeat' (first | exact trivial | assumption | intro _ | apply And.intro | exact sideT | (refine and_i ?_ ?_)))) rfl (fun hg => (awake19_con hw (ite_t hg hvv6))) ?_
  refine WR.run tbOk 2 (acc := []) rfl (by repeat' (first | exact trivial | assumption | intro _ | apply And.intro | exact sideT | (refine and_i ?_ ?_))) ?_
  refine WR.nil (by kernel_rfl) (WQ.thenNormal (WC.ret ?_))
  cases h
  exact WQ.rets tbOk hR [] (.inl rfl) rfl rfl (Le.refl _) (by exact trivial) rfl rfl rfl rfl

theorem lawAdded_con {wg : World} (hw : WG wg) {l : (List Int)} {k : (List Int)} {more : (List Int)} {id : Int} {r : Bool} (h : lawAdded l k more id = some r) : Con Tryz.prog wg gl 9 [.v (.sl 1 (l.map eInt_i64)), .v (.sl 1 (k.map eInt_i64)), .v (.sl 1 (more.map eInt_i64)), .v (.int .i64 id)] [] (.v (.bool r)) [] := by
 unfold lawAdded at h
 refine con_of_WC (S := slotsOf 0 _) Tryz.func9 rfl Tryz.ntmps9 rfl (fun t x hx => (slotsOf_get hx).2) ?_
 intro F L w ρ0 R hR
 show WC _ _ _ ⟨[(0, .v (.sl 1 (l.map eInt_i64))), (1, .v (.sl 1 (k.map eInt_i64))), (2, .v (.sl 1 (more.map eInt_i64))), (3, .v (.int .i64 id))], []⟩ _ _
 refine WC.seq (WC.region ?_)
 refine WL.run tbOk 1 (acc := []) rfl trivial ?_
 refine WL.nil (WQ.thenNormal (WC.seq (WC.region ?_)))
 refine WL.run tbOk 1 (acc := []) rfl trivial ?_
 obtain ⟨v, hvv, h⟩ := bnd h
 refine WL.call0 fn14 rfl rfl rfl rfl (by exact trivial) rfl (madeMeasures_con hw hvv) ?_
 refine WL.run tbOk 1 (acc := []) rfl trivial ?_
 obtain ⟨v2, hvv2, h⟩ := bnd h
 refine WL.call0 fn23 rfl rfl rfl rfl (by exact trivial) rfl (madeItem_con hw hvv2) ?_
 refine WL.run tbOk 3 (acc := []) rfl trivial ?_
 refine WL.nil (WQ.thenNormal (WC.seq (WC.region ?_)))
 refine WL.run tbOk 1 (acc := []) rfl trivial ?_
 obtain ⟨v3, hvv3, h⟩ := bnd h
 refine WL.call0 fn14 rfl rfl rfl rfl (by exact trivial) rfl (madeMeasures_con hw hvv3) ?_
 refine WL.run tbOk 1 (acc := []) rfl trivial ?_
 refine WL.nil (WQ.thenNormal (WC.seq (WC.seq (WC.region ?_))))
 refine WL.run tbOk 1 (acc := []) rfl trivial ?_
 refine WL.q [] rfl rfl rfl (q_ev tbOk (.v (.int .i64 (v3.length : Int))) rfl (by exact trivial) (by exact lenT)) ?_
 refine WL.run tbOk 1 (acc := []) rfl trivial ?_
 refine WL.nil (WQ.thenNormal ?_)
 refine WC.cond rfl (fun hc1 => ?_) (fun hc1 => ?_)
 ·replace h := ite_t hc1 h
  refine WC.seq (WC.region ?_)
  obtain ⟨v4, hvv4, h⟩ := bnd h
  refine WL.call0 fn15 rfl rfl rfl rfl (by exact trivial) rfl (awake19_con hw hvv4) ?_
  refine WL.run tbOk 1 (acc := []) rfl trivial ?_
  refine WL.nil (WQ.thenNormal (WC.ret (WQ.thenRet ?_)))
  cases h
  exact WQ.rets tbOk hR [] (.inl rfl) rfl rfl (Le.refl _) (by exact trivial) rfl rfl rfl rfl
 ·replace h := ite_f hc1 h
  refine WC.skip (WQ.thenNormal (WC.seq (WC.region ?_)))
  refine WL.run tbOk 2 (acc := []) rfl trivial ?_
  refine WL.q [] rfl rfl rfl (q_ev tbOk (.v (.int .i64 (v3.length : Int))) rfl (by exact trivial) (by exact lenT)) ?_
  refine WL.run tbOk 1 (acc := []) rfl trivial ?_
  obtain ⟨g1, h⟩ := grd h
  obtain ⟨x, hxx, h⟩ := bnd h
  refine WL.q [] rfl rfl rfl (q_idx tbOk rfl (by exact trivial) g1 (map_get (f := eApiMeasure) hxx)) ?_
  refine WL.run tbOk 3 (acc := []) rfl trivial ?_
  refine WL.nil (WQ.thenNormal (WC.seq (WC.region ?_)))
  refine WL.run tbOk 1 (acc := []) rfl trivial ?_
  obtain ⟨v5, hvv5, h⟩ := bnd h
  refine WL.call0 fn16 rfl rfl rfl rfl (by exact trivial) rfl (within_con hw hvv5) ?_
  refine WL.run tbOk 3 (acc := []) rfl trivial ?_
  refine WL.nil (WQ.thenNormal (WC.seq (WC.region ?_)))
  refine WL.run tbOk 9 (acc := []) rfl trivial ?_
  obtain ⟨v6, hvv6, h⟩ := bnd h
  refine WL.call0 fn28 rfl rfl rfl rfl (by exact trivial) rfl (meApplicable_con hw hvv6) ?_
  refine WL.run tbOk 1 (acc := []) rfl trivial ?_
  refine WL.nil (WQ.thenNormal (WC.seq (WC.order mixed ?_)))
  refine WR.buildRow tbOk (([] : (List ApiMeasure)).map eApiMeasure) rfl rfl rfl rfl (by exact trivial) rfl rfl ?_
  refine WR.run tbOk 1 (acc := []) rfl trivial ?_
  obtain ⟨g2, h⟩ := grd h
  refine WR.append tbOk (v.map eApiMeasure) [54, 52] ap22 rfl rfl rfl rfl (fun _ e => by cases e; rfl) (by exact trivial) (map_cells (f := eApiMeasure) (xs := v) fun _ => rfl) (by have := g2; simp only [List.length_map, List.length_nil, List.length_cons] at this ⊢; omega) rfl rfl rfl rfl rfl ?_
  refine WR.run tbOk 2 (acc := []) rfl trivial ?_
  obtain ⟨g3, h⟩ := grd h
  refine WR.appendV (k := 54) tbOk ((v ++ [(⟨(IntKind.i64.wrap ((1000 : Int) + v5)), x.Kind, x.Prefix, x.Origins, x.Company, x.From, x.To, x.Registered, x.Duty⟩ : ApiMeasure)]).map eApiMeasure) ap22 rfl rfl rfl rfl rfl (by exact trivial) (map_cells (f := eApiMeasure) (xs := [(⟨(IntKind.i64.wrap ((1000 : Int) + v5)), x.Kind, x.Prefix, x.Origins, x.Company, x.From, x.To, x.Registered, x.Duty⟩ : ApiMeasure)]) fun _ => rfl) (by have := g3; simp only [List.length_map, List.length_nil, List.length_cons] at this ⊢; omega) (by simp only [List.map_append]; try rfl) rfl ?_
  refine WR.run tbOk 8 (acc := []) rfl trivial ?_
  obtain ⟨v7, hvv7, h⟩ := bnd h
  refine WR.call0 fn28 rfl rfl rfl rfl (by exact trivial) rfl (meApplicable_con hw hvv7) ?_
  refine WR.run tbOk 1 (acc := []) rfl trivial ?_
  refine WR.nil (by kernel_rfl) (WQ.thenNormal (WC.seq (WC.region ?_)))
  refine WL.run tbOk 1 (acc := []) rfl trivial ?_
  refine WL.nil (WQ.thenNormal (WC.seq (WC.region ?_)))
  refine WL.run tbOk 1 (acc := []) rfl trivial ?_
  refine WL.nil (WQ.thenNormal (WC.seq (WC.seq (WC.region ?_))))
  refine WL.run tbOk 1 (acc := []) rfl trivial ?_
  refine WL.nil (WQ.thenNormal ?_)
  refine WC.thenCut (X := Bool × (List ApiMeasure)) (fun gG => ⟨[(16, .v (.bool gG.1)), (15, .r 1015), (14, .v (.sl 15 (v7.map eApiMeasure))), (12, .p 12 0), (10, .p 10 0)], [(1015, .row 34 15 (gG.2.map eApiMeasure)), (10, .blk 46 [.v (.str v2.Code), .v (.str v2.Origin), .v (.bool v2.Proof), .v (.int .i64 v2.Company), .v (.int .i64 v2.Day), .v (.int .i64 v2.Quantity), .v (.int .i64 v2.Value), .v (.int .i64 v2.Granted)]), (12, .blk 34 [.v (.int .i64 (IntKind.i64.wrap ((1000 : Int) + v5))), .v (.int .i64 x.Kind), .v (.str x.Prefix), .v (.sl 1 (x.Origins.map eStr)), .v (.int .i64 x.Company), .v (.int .i64 x.From), .v (.int .i64 x.To), .v (.int .i64 x.Registered), .v (.int .i64 x.Duty.Rate), .v (.int .i64 x.Duty.Amount), .v (.int .i64 x.Duty.Per), .v (.bool x.Duty.HasMost), .v (.int .i64 x.Duty.Most), .v (.bool x.Duty.HasLeast), .v (.int .i64 x.Duty.Least)])]⟩) (fun gG => lawAdded_j1 v2 x v5 v7 gG.1 gG.2 = some r) ?_ ?_
  ·refine WC.block ?_
   obtain ⟨eQ1, hl1, hk1⟩ := bnd h
   clear h
   refine WC.rowNil 15 1015 34 15 rfl rfl ?_
   refine WC.loop (σ := Int × Bool × (List ApiMeasure)) (τ := (Bool × (List ApiMeasure))) (fun sS => ⟨[(17, .v (.int .i64 sS.1)), (16, .v (.bool sS.2.1)), (15, .r 1015), (14, .v (.sl 15 (v7.map eApiMeasure))), (13, .v (.sl 15 (v6.map eApiMeasure))), (12, .p 12 0), (10, .p 10 0)], [(1015, .row 34 15 (sS.2.2.map eApiMeasure)), (10, .blk 46 [.v (.str v2.Code), .v (.str v2.Origin), .v (.bool v2.Proof), .v (.int .i64 v2.Company), .v (.int .i64 v2.Day), .v (.int .i64 v2.Quantity), .v (.int .i64 v2.Value), .v (.int .i64 v2.Granted)]), (12, .blk 34 [.v (.int .i64 (IntKind.i64.wrap ((1000 : Int) + v5))), .v (.int .i64 x.Kind), .v (.str x.Prefix), .v (.sl 1 (x.Origins.map eStr)), .v (.int .i64 x.Company), .v (.int .i64 x.From), .v (.int .i64 x.To), .v (.int .i64 x.Registered), .v (.int .i64 x.Duty.Rate), .v (.int .i64 x.Duty.Amount), .v (.int .i64 x.Duty.Per), .v (.bool x.Duty.HasMost), .v (.int .i64 x.Duty.Most), .v (.bool x.Duty.HasLeast), .v (.int .i64 x.Duty.Least)])]⟩) (lawAdded_b1 v2 x v5 v6 v7) [] ((1 : Int), false, []) hl1 ⟨(by exact ⟨rfl, rfl, rfl, rfl, rfl, rfl, rfl, trivial⟩), (by exact ⟨rfl, rfl, rfl, trivial⟩), rfl, rfl, rfl, rfl⟩ ?_
   rintro ⟨kind2, put10, c3⟩ m hn1 he1 hx1
   obtain ⟨o1, hf1⟩ := some_of hx1
   have h := hf1
   unfold lawAdded_b1 at h
   show WC _ _ _ ⟨[(17, .v (.int .i64 kind2)), (16, .v (.bool put10)), (15, .r 1015), (14, .v (.sl 15 (v7.map eApiMeasure))), (13, .v (.sl 15 (v6.map eApiMeasure))), (12, .p 12 0), (10, .p 10 0)], [(1015, .row 34 15 (c3.map eApiMeasure)), (10, .blk 46 [.v (.str v2.Code), .v (.str v2.Origin), .v (.bool v2.Proof), .v (.int .i64 v2.Company), .v (.int .i64 v2.Day), .v (.int .i64 v2.Quantity), .v (.int .i64 v2.Value), .v (.int .i64 v2.Granted)]), (12, .blk 34 [.v (.int .i64 (IntKind.i64.wrap ((1000 : Int) + v5))), .v (.int .i64 x.Kind), .v (.str x.Prefix), .v (.sl 1 (x.Origins.map eStr)), .v (.int .i64 x.Company), .v (.int .i64 x.From), .v (.int .i64 x.To), .v (.int .i64 x.Registered), .v (.int .i64 x.Duty.Rate), .v (.int .i64 x.Duty.Amount), .v (.int .i64 x.Duty.Per), .v (.bool x.Duty.HasMost), .v (.int .i64 x.Duty.Most), .v (.bool x.Duty.HasLeast), .v (.int .i64 x.Duty.Least)])]⟩ _ _
   refine WC.seq (WC.seq (WC.region ?_))
   refine WL.run tbOk 2 (acc := []) rfl trivial ?_
   refine WL.nil (WQ.thenNormal ?_)
   refine WC.cond rfl (fun hc2 => ?_) (fun hc2 => ?_)
   ·replace h := ite_t hc2 h
    refine WC.skip (WQ.thenNormal (WC.seq ?_))
    refine WC.thenCut (X := (List ApiMeasure) × Bool) (fun gG => ⟨[(15, .r 1015), (17, .v (.int .i64 kind2)), (16, .v (.bool gG.2)), (14, .v (.sl 15 (v7.map eApiMeasure))), (13, .v (.sl 15 (v6.map eApiMeasure))), (12, .p 12 0), (10, .p 10 0)], [(1015, .row 34 15 (gG.1.map eApiMeasure)), (10, .blk 46 [.v (.str v2.Code), .v (.str v2.Origin), .v (.bool v2.Proof), .v (.int .i64 v2.Company), .v (.int .i64 v2.Day), .v (.int .i64 v2.Quantity), .v (.int .i64 v2.Value), .v (.int .i64 v2.Granted)]), (12, .blk 34 [.v (.int .i64 (IntKind.i64.wrap ((1000 : Int) + v5))), .v (.int .i64 x.Kind), .v (.str x.Prefix), .v (.sl 1 (x.Origins.map eStr)), .v (.int .i64 x.Company), .v (.int .i64 x.From), .v (.int .i64 x.To), .v (.int .i64 x.Registered), .v (.int .i64 x.Duty.Rate), .v (.int .i64 x.Duty.Amount), .v (.int .i64 x.Duty.Per), .v (.bool x.Duty.HasMost), .v (.int .i64 x.Duty.Most), .v (.bool x.Duty.HasLeast), .v (.int .i64 x.Duty.Least)])]⟩) (fun gG => lawAdded_j2 v2 x v5 v6 v7 kind2 gG.1 gG.2 = some o1) ?_ ?_
    ·refine WC.block (WC.seq (WC.region ?_))
     refine WL.run tbOk 4 (acc := []) rfl trivial ?_
     refine WL.nil (WQ.thenNormal (WC.seq (WC.seq (WC.region ?_))))
     refine WL.run tbOk 1 (acc := []) rfl trivial ?_
     refine WL.nil (WQ.thenNormal ?_)
     refine WC.thenCut (X := Bool × (List ApiMeasure) × Int × Int × Str × (List Str) × Int × Int × Int × Int × Int × Int × Int × Bool × Int × Bool × Int) (fun gG => ⟨[(19, .v (.bool gG.1)), (18, .p 18 0), (17, .v (.int .i64 kind2)), (16, .v (.bool put10)), (15, .r 1015), (14, .v (.sl 15 (v7.map eApiMeasure))), (13, .v (.sl 15 (v6.map eApiMeasure))), (12, .p 12 0), (10, .p 10 0)], [(1015, .row 34 15 (gG.2.1.map eApiMeasure)), (18, .blk 34 [.v (.int .i64 gG.2.2.1), .v (.int .i64 gG.2.2.2.1), .v (.str gG.2.2.2.2.1), .v (.sl 1 (gG.2.2.2.2.2.1.map eStr)), .v (.int .i64 gG.2.2.2.2.2.2.1), .v (.int .i64 gG.2.2.2.2.2.2.2.1), .v (.int .i64 gG.2.2.2.2.2.2.2.2.1), .v (.int .i64 gG.2.2.2.2.2.2.2.2.2.1), .v (.int .i64 gG.2.2.2.2.2.2.2.2.2.2.1), .v (.int .i64 gG.2.2.2.2.2.2.2.2.2.2.2.1), .v (.int .i64 gG.2.2.2.2.2.2.2.2.2.2.2.2.1), .v (.bool gG.2.2.2.2.2.2.2.2.2.2.2.2.2.1), .v (.int .i64 gG.2.2.2.2.2.2.2.2.2.2.2.2.2.2.1), .v (.bool gG.2.2.2.2.2.2.2.2.2.2.2.2.2.2.2.1), .v (.int .i64 gG.2.2.2.2.2.2.2.2.2.2.2.2.2.2.2.2)]), (10, .blk 46 [.v (.str v2.Code), .v (.str v2.Origin), .v (.bool v2.Proof), .v (.int .i64 v2.Company), .v (.int .i64 v2.Day), .v (.int .i64 v2.Quantity), .v (.int .i64 v2.Value), .v (.int .i64 v2.Granted)]), (12, .blk 34 [.v (.int .i64 (IntKind.i64.wrap ((1000 : Int) + v5))), .v (.int .i64 x.Kind), .v (.str x.Prefix), .v (.sl 1 (x.Origins.map eStr)), .v (.int .i64 x.Company), .v (.int .i64 x.From), .v (.int .i64 x.To), .v (.int .i64 x.Registered), .v (.int .i64 x.Duty.Rate), .v (.int .i64 x.Duty.Amount), .v (.int .i64 x.Duty.Per), .v (.bool x.Duty.HasMost), .v (.int .i64 x.Duty.Most), .v (.bool x.Duty.HasLeast), .v (.int .i64 x.Duty.Least)])]⟩) (fun gG => lawAdded_j3 v2 x v5 v6 v7 kind2 put10 gG.1 gG.2.1 gG.2.2.1 gG.2.2.2.1 gG.2.2.2.2.1 gG.2.2.2.2.2.1 gG.2.2.2.2.2.2.1 gG.2.2.2.2.2.2.2.1 gG.2.2.2.2.2.2.2.2.1 gG.2.2.2.2.2.2.2.2.2.1 gG.2.2.2.2.2.2.2.2.2.2.1 gG.2.2.2.2.2.2.2.2.2.2.2.1 gG.2.2.2.2.2.2.2.2.2.2.2.2.1 gG.2.2.2.2.2.2.2.2.2.2.2.2.2.1 gG.2.2.2.2.2.2.2.2.2.2.2.2.2.2.1 gG.2.2.2.2.2.2.2.2.2.2.2.2.2.2.2.1 gG.2.2.2.2.2.2.2.2.2.2.2.2.2.2.2.2 = some o1) ?_ ?_
     ·refine WC.block ?_
      obtain ⟨eQ3, hl3, hk3⟩ := bnd h
      clear h
      refine WC.weakenO 18 (.blk 34 [.v (.int .i64 0), .v (.int .i64 0), .v (.str []), .v (.sl 1 ([].map eStr)), .v (.int .i64 0), .v (.int .i64 0), .v (.int .i64 0), .v (.int .i64 0), .v (.int .i64 0), .v (.int .i64 0), .v (.int .i64 0), .v (.bool false), .v (.int .i64 0), .v (.bool false), .v (.int .i64 0)]) rfl (LeO.blk (.cons (Le.refl _) (.cons (Le.refl _) (.cons (Le.refl _) (.cons (Le.nil 1) (.cons (Le.refl _) (.cons (Le.refl _) (.cons (Le.refl _) (.cons (Le.refl _) (.cons (Le.refl _) (.cons (Le.refl _) (.cons (Le.refl _) (.cons (Le.refl _) (.cons (Le.refl _) (.cons (Le.refl _) (.cons (Le.refl _) .nil)))))))))))))))) rfl ?_
      refine WC.loop (σ := Int × Bool × (List ApiMeasure) × Int × Int × Str × (List Str) × Int × Int × Int × Int × Int × Int × Int × Bool × Int × Bool × Int) (τ := (Bool × (List ApiMeasure) × Int × Int × Str × (List Str) × Int × Int × Int × Int × Int × Int × Int × Bool × Int × Bool × Int)) (fun sS => ⟨[(20, .v (.int .i64 sS.1)), (19, .v (.bool sS.2.1)), (18, .p 18 0), (17, .v (.int .i64 kind2)), (16, .v (.bool put10)), (15, .r 1015), (14, .v (.sl 15 (v7.map eApiMeasure))), (13, .v (.sl 15 (v6.map eApiMeasure))), (12, .p 12 0), (10, .p 10 0)], [(1015, .row 34 15 (sS.2.2.1.map eApiMeasure)), (18, .blk 34 [.v (.int .i64 sS.2.2.2.1), .v (.int .i64 sS.2.2.2.2.1), .v (.str sS.2.2.2.2.2.1), .v (.sl 1 (sS.2.2.2.2.2.2.1.map eStr)), .v (.int .i64 sS.2.2.2.2.2.2.2.1), .v (.int .i64 sS.2.2.2.2.2.2.2.2.1), .v (.int .i64 sS.2.2.2.2.2.2.2.2.2.1), .v (.int .i64 sS.2.2.2.2.2.2.2.2.2.2.1), .v (.int .i64 sS.2.2.2.2.2.2.2.2.2.2.2.1), .v (.int .i64 sS.2.2.2.2.2.2.2.2.2.2.2.2.1), .v (.int .i64 sS.2.2.2.2.2.2.2.2.2.2.2.2.2.1), .v (.bool sS.2.2.2.2.2.2.2.2.2.2.2.2.2.2.1), .v (.int .i64 sS.2.2.2.2.2.2.2.2.2.2.2.2.2.2.2.1), .v (.bool sS.2.2.2.2.2.2.2.2.2.2.2.2.2.2.2.2.1), .v (.int .i64 sS.2.2.2.2.2.2.2.2.2.2.2.2.2.2.2.2.2)]), (10, .blk 46 [.v (.str v2.Code), .v (.str v2.Origin), .v (.bool v2.Proof), .v (.int .i64 v2.Company), .v (.int .i64 v2.Day), .v (.int .i64 v2.Quantity), .v (.int .i64 v2.Value), .v (.int .i64 v2.Granted)]), (12, .blk 34 [.v (.int .i64 (IntKind.i64.wrap ((1000 : Int) + v5))), .v (.int .i64 x.Kind), .v (.str x.Prefix), .v (.sl 1 (x.Origins.map eStr)), .v (.int .i64 x.Company), .v (.int .i64 x.From), .v (.int .i64 x.To), .v (.int .i64 x.Registered), .v (.int .i64 x.Duty.Rate), .v (.int .i64 x.Duty.Amount), .v (.int .i64 x.Duty.Per), .v (.bool x.Duty.HasMost), .v (.int .i64 x.Duty.Most), .v (.bool x.Duty.HasLeast), .v (.int .i64 x.Duty.Least)])]⟩) (lawAdded_b3 v2 x v5 v6 v7 kind2 put10) [] ((0 : Int), false, c3, 0, 0, [], [], 0, 0, 0, 0, 0, 0, 0, false, 0, false, 0) hl3 ⟨(by exact ⟨rfl, rfl, rfl, rfl, rfl, rfl, rfl, rfl, rfl, rfl, trivial⟩), (by exact ⟨rfl, rfl, rfl, rfl, trivial⟩), rfl, rfl, rfl, rfl⟩ ?_
      rintro ⟨i12, is36, c29, c18_036, c18_170, c18_236, c18_333, c18_436, c18_536, c18_636, c18_736, c18_836, c18_936, c18_1036, c18_1137, c18_1236, c18_1336, c18_1436⟩ m hn3 he3 hx3
      obtain ⟨o3, hf3⟩ := some_of hx3
      have h := hf3
      unfold lawAdded_b3 at h
      show WC _ _ _ ⟨[(20, .v (.int .i64 i12)), (19, .v (.bool is36)), (18, .p 18 0), (17, .v (.int .i64 kind2)), (16, .v (.bool put10)), (15, .r 1015), (14, .v (.sl 15 (v7.map eApiMeasure))), (13, .v (.sl 15 (v6.map eApiMeasure))), (12, .p 12 0), (10, .p 10 0)], [(1015, .row 34 15 (c29.map eApiMeasure)), (18, .blk 34 [.v (.int .i64 c18_036), .v (.int .i64 c18_170), .v (.str c18_236), .v (.sl 1 (c18_333.map eStr)), .v (.int .i64 c18_436), .v (.int .i64 c18_536), .v (.int .i64 c18_636), .v (.int .i64 c18_736), .v (.int .i64 c18_836), .v (.int .i64 c18_936), .v (.int .i64 c18_1036), .v (.bool c18_1137), .v (.int .i64 c18_1236), .v (.bool c18_1336), .v (.int .i64 c18_1436)]), (10, .blk 46 [.v (.str v2.Code), .v (.str v2.Origin), .v (.bool v2.Proof), .v (.int .i64 v2.Company), .v (.int .i64 v2.Day), .v (.int .i64 v2.Quantity), .v (.int .i64 v2.Value), .v (.int .i64 v2.Granted)]), (12, .blk 34 [.v (.int .i64 (IntKind.i64.wrap ((1000 : Int) + v5))), .v (.int .i64 x.Kind), .v (.str x.Prefix), .v (.sl 1 (x.Origins.map eStr)), .v (.int .i64 x.Company), .v (.int .i64 x.From), .v (.int .i64 x.To), .v (.int .i64 x.Registered), .v (.int .i64 x.Duty.Rate), .v (.int .i64 x.Duty.Amount), .v (.int .i64 x.Duty.Per), .v (.bool x.Duty.HasMost), .v (.int .i64 x.Duty.Most), .v (.bool x.Duty.HasLeast), .v (.int .i64 x.Duty.Least)])]⟩ _ _
      refine WC.seq (WC.seq (WC.region ?_))
      refine WL.run tbOk 2 (acc := []) rfl trivial ?_
      refine WL.q [] rfl rfl rfl (q_ev tbOk (.v (.int .i64 (v6.length : Int))) rfl (by exact trivial) (by exact lenT)) ?_
      refine WL.run tbOk 1 (acc := []) rfl trivial ?_
      refine WL.nil (WQ.thenNormal ?_)
      refine WC.cond rfl (fun hc6 => ?_) (fun hc6 => ?_)
      ·replace h := ite_t hc6 h
       refine WC.skip (WQ.thenNormal (WC.seq ?_))
       refine WC.thenCut (X := Bool × (List ApiMeasure) × Int × Int × Str × (List Str) × Int × Int × Int × Int × Int × Int × Int × Bool × Int × Bool × Int) (fun gG => ⟨[(19, .v (.bool gG.1)), (20, .v (.int .i64 i12)), (18, .p 18 0), (17, .v (.int .i64 kind2)), (16, .v (.bool put10)), (15, .r 1015), (14, .v (.sl 15 (v7.map eApiMeasure))), (13, .v (.sl 15 (v6.map eApiMeasure))), (12, .p 12 0), (10, .p 10 0)], [(1015, .row 34 15 (gG.2.1.map eApiMeasure)), (18, .blk 34 [.v (.int .i64 gG.2.2.1), .v (.int .i64 gG.2.2.2.1), .v (.str gG.2.2.2.2.1), .v (.sl 1 (gG.2.2.2.2.2.1.map eStr)), .v (.int .i64 gG.2.2.2.2.2.2.1), .v (.int .i64 gG.2.2.2.2.2.2.2.1), .v (.int .i64 gG.2.2.2.2.2.2.2.2.1), .v (.int .i64 gG.2.2.2.2.2.2.2.2.2.1), .v (.int .i64 gG.2.2.2.2.2.2.2.2.2.2.1), .v (.int .i64 gG.2.2.2.2.2.2.2.2.2.2.2.1), .v (.int .i64 gG.2.2.2.2.2.2.2.2.2.2.2.2.1), .v (.bool gG.2.2.2.2.2.2.2.2.2.2.2.2.2.1), .v (.int .i64 gG.2.2.2.2.2.2.2.2.2.2.2.2.2.2.1), .v (.bool gG.2.2.2.2.2.2.2.2.2.2.2.2.2.2.2.1), .v (.int .i64 gG.2.2.2.2.2.2.2.2.2.2.2.2.2.2.2.2)]), (10, .blk 46 [.v (.str v2.Code), .v (.str v2.Origin), .v (.bool v2.Proof), .v (.int .i64 v2.Company), .v (.int .i64 v2.Day), .v (.int .i64 v2.Quantity), .v (.int .i64 v2.Value), .v (.int .i64 v2.Granted)]), (12, .blk 34 [.v (.int .i64 (IntKind.i64.wrap ((1000 : Int) + v5))), .v (.int .i64 x.Kind), .v (.str x.Prefix), .v (.sl 1 (x.Origins.map eStr)), .v (.int .i64 x.Company), .v (.int .i64 x.From), .v (.int .i64 x.To), .v (.int .i64 x.Registered), .v (.int .i64 x.Duty.Rate), .v (.int .i64 x.Duty.Amount), .v (.int .i64 x.Duty.Per), .v (.bool x.Duty.HasMost), .v (.int .i64 x.Duty.Most), .v (.bool x.Duty.HasLeast), .v (.int .i64 x.Duty.Least)])]⟩) (fun gG => lawAdded_j6 v2 x v5 v6 v7 kind2 put10 i12 gG.1 gG.2.1 gG.2.2.1 gG.2.2.2.1 gG.2.2.2.2.1 gG.2.2.2.2.2.1 gG.2.2.2.2.2.2.1 gG.2.2.2.2.2.2.2.1 gG.2.2.2.2.2.2.2.2.1 gG.2.2.2.2.2.2.2.2.2.1 gG.2.2.2.2.2.2.2.2.2.2.1 gG.2.2.2.2.2.2.2.2.2.2.2.1 gG.2.2.2.2.2.2.2.2.2.2.2.2.1 gG.2.2.2.2.2.2.2.2.2.2.2.2.2.1 gG.2.2.2.2.2.2.2.2.2.2.2.2.2.2.1 gG.2.2.2.2.2.2.2.2.2.2.2.2.2.2.2.1 gG.2.2.2.2.2.2.2.2.2.2.2.2.2.2.2.2 = some o3) ?_ ?_
       ·refine WC.block (WC.seq (WC.region ?_))
        refine WL.run tbOk 2 (acc := []) rfl trivial ?_
        obtain ⟨g7, h⟩ := grd h
        obtain ⟨x18, hxx18, h⟩ := bnd h
        refine WL.q [] rfl rfl rfl (q_idx tbOk rfl (by exact trivial) g7 (map_get (f := eApiMeasure) hxx18)) ?_
        refine WL.run tbOk 4 (acc := []) rfl trivial ?_
        refine WL.nil (WQ.thenNormal ?_)
        refine WC.cond rfl (fun hc7 => ?_) (fun hc7 => ?_)
        ·replace h := ite_t hc7 h
         refine WC.region ?_
         refine WL.run tbOk 2 (acc := []) rfl trivial ?_
         obtain ⟨g8, h⟩ := grd h
         obtain ⟨x19, hxx19, h⟩ := bnd h
         refine WL.q [] rfl rfl rfl (q_idx tbOk rfl (by exact trivial) g8 (map_get (f := eApiMeasure) hxx19)) ?_
         refine WL.run tbOk 3 (acc := []) rfl trivial ?_
         refine WL.nil (WQ.blockNormal ?_)
         exact WQ.cut [] (true, c29, x19.ID, x19.Kind, x19.Prefix, x19.Origins, x19.Company, x19.From, x19.To, x19.Registered, x19.Duty.Rate, x19.Duty.Amount, x19.Duty.Per, x19.Duty.HasMost, x19.Duty.Most, x19.Duty.HasLeast, x19.Duty.Least) ⟨(by exact ⟨rfl, rfl, rfl, rfl, rfl, rfl, rfl, rfl, rfl, rfl, trivial⟩), (by exact ⟨rfl, rfl, rfl, rfl, trivial⟩), rfl, rfl, rfl, rfl⟩ h
        ·replace h := ite_f hc7 h
         refine WC.skip (WQ.blockNormal ?_)
         exact WQ.cut [] (is36, c29, c18_036, c18_170, c18_236, c18_333, c18_436, c18_536, c18_636, c18_736, c18_836, c18_936, c18_1036, c18_1137, c18_1236, c18_1336, c18_1436) ⟨(by exact ⟨rfl, rfl, rfl, rfl, rfl, rfl, rfl, rfl, rfl, rfl, trivial⟩), (by exact ⟨rfl, rfl, rfl, rfl, trivial⟩), rfl, rfl, rfl, rfl⟩ h
       ·rintro ⟨is39, c32, c18_039, c18_173, c18_239, c18_336, c18_439, c18_539, c18_639, c18_739, c18_839, c18_939, c18_1039, c18_1140, c18_1239, c18_1339, c18_1439⟩ h
        replace h : lawAdded_j6 v2 x v5 v6 v7 kind2 put10 i12 is39 c32 c18_039 c18_173 c18_239 c18_336 c18_439 c18_539 c18_639 c18_739 c18_839 c18_939 c18_1039 c18_1140 c18_1239 c18_1339 c18_1439 = some _ := h
        unfold lawAdded_j6 at h
        show WC _ _ _ ⟨[(19, .v (.bool is39)), (20, .v (.int .i64 i12)), (18, .p 18 0), (17, .v (.int .i64 kind2)), (16, .v (.bool put10)), (15, .r 1015), (14, .v (.sl 15 (v7.map eApiMeasure))), (13, .v (.sl 15 (v6.map eApiMeasure))), (12, .p 12 0), (10, .p 10 0)], [(1015, .row 34 15 (c32.map eApiMeasure)), (18, .blk 34 [.v (.int .i64 c18_039), .v (.int .i64 c18_173), .v (.str c18_239), .v (.sl 1 (c18_336.map eStr)), .v (.int .i64 c18_439), .v (.int .i64 c18_539), .v (.int .i64 c18_639), .v (.int .i64 c18_739), .v (.int .i64 c18_839), .v (.int .i64 c18_939), .v (.int .i64 c18_1039), .v (.bool c18_1140), .v (.int .i64 c18_1239), .v (.bool c18_1339), .v (.int .i64 c18_1439)]), (10, .blk 46 [.v (.str v2.Code), .v (.str v2.Origin), .v (.bool v2.Proof), .v (.int .i64 v2.Company), .v (.int .i64 v2.Day), .v (.int .i64 v2.Quantity), .v (.int .i64 v2.Value), .v (.int .i64 v2.Granted)]), (12, .blk 34 [.v (.int .i64 (IntKind.i64.wrap ((1000 : Int) + v5))), .v (.int .i64 x.Kind), .v (.str x.Prefix), .v (.sl 1 (x.Origins.map eStr)), .v (.int .i64 x.Company), .v (.int .i64 x.From), .v (.int .i64 x.To), .v (.int .i64 x.Registered), .v (.int .i64 x.Duty.Rate), .v (.int .i64 x.Duty.Amount), .v (.int .i64 x.Duty.Per), .v (.bool x.Duty.HasMost), .v (.int .i64 x.Duty.Most), .v (.bool x.Duty.HasLeast), .v (.int .i64 x.Duty.Least)])]⟩ _ _
        refine WC.region ?_
        refine WL.run tbOk 3 (acc := []) rfl trivial ?_
        refine WL.nil ?_
        cases h
        exact WQ.next [] ((IntKind.i64.wrap (i12 + (1 : Int))), is39, c32, c18_039, c18_173, c18_239, c18_336, c18_439, c18_539, c18_639, c18_739, c18_839, c18_939, c18_1039, c18_1140, c18_1239, c18_1339, c18_1439) ⟨(by exact ⟨rfl, rfl, rfl, rfl, rfl, rfl, rfl, rfl, rfl, rfl, trivial⟩), (by exact ⟨rfl, rfl, rfl, rfl, trivial⟩), rfl, rfl, rfl, rfl⟩ (hn3 _ hf3)
      ·replace h := ite_f hc6 h
       refine WC.exit (WQ.thenExit ?_)
       cases h
       have he := he3 _ hf3
       subst he
       replace h := hk3
       try dsimp only at h
       refine WQ.thenExit (WQ.blockExit ?_)
       exact WQ.cut [] (is36, c29, c18_036, c18_170, c18_236, c18_333, c18_436, c18_536, c18_636, c18_736, c18_836, c18_936, c18_1036, c18_1137, c18_1236, c18_1336, c18_1436) ⟨(by exact ⟨rfl, rfl, rfl, rfl, rfl, rfl, rfl, rfl, rfl, trivial⟩), (by exact ⟨rfl, rfl, rfl, rfl, trivial⟩), rfl, rfl, rfl, rfl⟩ h
     ·rintro ⟨is27, c20, c18_027, c18_161, c18_227, c18_325, c18_427, c18_527, c18_627, c18_727, c18_827, c18_927, c18_1027, c18_1128, c18_1227, c18_1327, c18_1427⟩ h
      replace h : lawAdded_j3 v2 x v5 v6 v7 kind2 put10 is27 c20 c18_027 c18_161 c18_227 c18_325 c18_427 c18_527 c18_627 c18_727 c18_827 c18_927 c18_1027 c18_1128 c18_1227 c18_1327 c18_1427 = some _ := h
      unfold lawAdded_j3 at h
      show WC _ _ _ ⟨[(19, .v (.bool is27)), (18, .p 18 0), (17, .v (.int .i64 kind2)), (16, .v (.bool put10)), (15, .r 1015), (14, .v (.sl 15 (v7.map eApiMeasure))), (13, .v (.sl 15 (v6.map eApiMeasure))), (12, .p 12 0), (10, .p 10 0)], [(1015, .row 34 15 (c20.map eApiMeasure)), (18, .blk 34 [.v (.int .i64 c18_027), .v (.int .i64 c18_161), .v (.str c18_227), .v (.sl 1 (c18_325.map eStr)), .v (.int .i64 c18_427), .v (.int .i64 c18_527), .v (.int .i64 c18_627), .v (.int .i64 c18_727), .v (.int .i64 c18_827), .v (.int .i64 c18_927), .v (.int .i64 c18_1027), .v (.bool c18_1128), .v (.int .i64 c18_1227), .v (.bool c18_1327), .v (.int .i64 c18_1427)]), (10, .blk 46 [.v (.str v2.Code), .v (.str v2.Origin), .v (.bool v2.Proof), .v (.int .i64 v2.Company), .v (.int .i64 v2.Day), .v (.int .i64 v2.Quantity), .v (.int .i64 v2.Value), .v (.int .i64 v2.Granted)]), (12, .blk 34 [.v (.int .i64 (IntKind.i64.wrap ((1000 : Int) + v5))), .v (.int .i64 x.Kind), .v (.str x.Prefix), .v (.sl 1 (x.Origins.map eStr)), .v (.int .i64 x.Company), .v (.int .i64 x.From), .v (.int .i64 x.To), .v (.int .i64 x.Registered), .v (.int .i64 x.Duty.Rate), .v (.int .i64 x.Duty.Amount), .v (.int .i64 x.Duty.Per), .v (.bool x.Duty.HasMost), .v (.int .i64 x.Duty.Most), .v (.bool x.Duty.HasLeast), .v (.int .i64 x.Duty.Least)])]⟩ _ _
      refine WC.seq (WC.seq (WC.region ?_))
      refine WL.run tbOk 1 (acc := []) rfl trivial ?_
      refine WL.nil (WQ.thenNormal ?_)
      refine WC.thenCut (X := Bool × Bool × (List ApiMeasure) × Int × Int × Str × (List Str) × Int × Int × Int × Int × Int × Int × Int × Bool × Int × Bool × Int) (fun gG => ⟨[(19, .v (.bool gG.1)), (18, .p 18 0), (17, .v (.int .i64 kind2)), (16, .v (.bool gG.2.1)), (15, .r 1015), (14, .v (.sl 15 (v7.map eApiMeasure))), (13, .v (.sl 15 (v6.map eApiMeasure))), (12, .p 12 0), (10, .p 10 0)], [(1015, .row 34 15 (gG.2.2.1.map eApiMeasure)), (18, .blk 34 [.v (.int .i64 gG.2.2.2.1), .v (.int .i64 gG.2.2.2.2.1), .v (.str gG.2.2.2.2.2.1), .v (.sl 1 (gG.2.2.2.2.2.2.1.map eStr)), .v (.int .i64 gG.2.2.2.2.2.2.2.1), .v (.int .i64 gG.2.2.2.2.2.2.2.2.1), .v (.int .i64 gG.2.2.2.2.2.2.2.2.2.1), .v (.int .i64 gG.2.2.2.2.2.2.2.2.2.2.1), .v (.int .i64 gG.2.2.2.2.2.2.2.2.2.2.2.1), .v (.int .i64 gG.2.2.2.2.2.2.2.2.2.2.2.2.1), .v (.int .i64 gG.2.2.2.2.2.2.2.2.2.2.2.2.2.1), .v (.bool gG.2.2.2.2.2.2.2.2.2.2.2.2.2.2.1), .v (.int .i64 gG.2.2.2.2.2.2.2.2.2.2.2.2.2.2.2.1), .v (.bool gG.2.2.2.2.2.2.2.2.2.2.2.2.2.2.2.2.1), .v (.int .i64 gG.2.2.2.2.2.2.2.2.2.2.2.2.2.2.2.2.2)]), (10, .blk 46 [.v (.str v2.Code), .v (.str v2.Origin), .v (.bool v2.Proof), .v (.int .i64 v2.Company), .v (.int .i64 v2.Day), .v (.int .i64 v2.Quantity), .v (.int .i64 v2.Value), .v (.int .i64 v2.Granted)]), (12, .blk 34 [.v (.int .i64 (IntKind.i64.wrap ((1000 : Int) + v5))), .v (.int .i64 x.Kind), .v (.str x.Prefix), .v (.sl 1 (x.Origins.map eStr)), .v (.int .i64 x.Company), .v (.int .i64 x.From), .v (.int .i64 x.To), .v (.int .i64 x.Registered), .v (.int .i64 x.Duty.Rate), .v (.int .i64 x.Duty.Amount), .v (.int .i64 x.Duty.Per), .v (.bool x.Duty.HasMost), .v (.int .i64 x.Duty.Most), .v (.bool x.Duty.HasLeast), .v (.int .i64 x.Duty.Least)])]⟩) (fun gG => lawAdded_j4 v2 x v5 v6 v7 kind2 gG.1 gG.2.1 gG.2.2.1 gG.2.2.2.1 gG.2.2.2.2.1 gG.2.2.2.2.2.1 gG.2.2.2.2.2.2.1 gG.2.2.2.2.2.2.2.1 gG.2.2.2.2.2.2.2.2.1 gG.2.2.2.2.2.2.2.2.2.1 gG.2.2.2.2.2.2.2.2.2.2.1 gG.2.2.2.2.2.2.2.2.2.2.2.1 gG.2.2.2.2.2.2.2.2.2.2.2.2.1 gG.2.2.2.2.2.2.2.2.2.2.2.2.2.1 gG.2.2.2.2.2.2.2.2.2.2.2.2.2.2.1 gG.2.2.2.2.2.2.2.2.2.2.2.2.2.2.2.1 gG.2.2.2.2.2.2.2.2.2.2.2.2.2.2.2.2.1 gG.2.2.2.2.2.2.2.2.2.2.2.2.2.2.2.2.2 = some o1) ?_ ?_
      ·refine WC.block ?_
       obtain ⟨eQ2, hl2, hk2⟩ := bnd h
       clear h
       refine WC.loop (σ := Int × Bool × Bool × (List ApiMeasure) × Int × Int × Str × (List Str) × Int × Int × Int × Int × Int × Int × Int × Bool × Int × Bool × Int) (τ := (Bool × Bool × (List ApiMeasure) × Int × Int × Str × (List Str) × Int × Int × Int × Int × Int × Int × Int × Bool × Int × Bool × Int)) (fun sS => ⟨[(21, .v (.int .i64 sS.1)), (19, .v (.bool sS.2.1)), (18, .p 18 0), (17, .v (.int .i64 kind2)), (16, .v (.bool sS.2.2.1)), (15, .r 1015), (14, .v (.sl 15 (v7.map eApiMeasure))), (13, .v (.sl 15 (v6.map eApiMeasure))), (12, .p 12 0), (10, .p 10 0)], [(1015, .row 34 15 (sS.2.2.2.1.map eApiMeasure)), (18, .blk 34 [.v (.int .i64 sS.2.2.2.2.1), .v (.int .i64 sS.2.2.2.2.2.1), .v (.str sS.2.2.2.2.2.2.1), .v (.sl 1 (sS.2.2.2.2.2.2.2.1.map eStr)), .v (.int .i64 sS.2.2.2.2.2.2.2.2.1), .v (.int .i64 sS.2.2.2.2.2.2.2.2.2.1), .v (.int .i64 sS.2.2.2.2.2.2.2.2.2.2.1), .v (.int .i64 sS.2.2.2.2.2.2.2.2.2.2.2.1), .v (.int .i64 sS.2.2.2.2.2.2.2.2.2.2.2.2.1), .v (.int .i64 sS.2.2.2.2.2.2.2.2.2.2.2.2.2.1), .v (.int .i64 sS.2.2.2.2.2.2.2.2.2.2.2.2.2.2.1), .v (.bool sS.2.2.2.2.2.2.2.2.2.2.2.2.2.2.2.1), .v (.int .i64 sS.2.2.2.2.2.2.2.2.2.2.2.2.2.2.2.2.1), .v (.bool sS.2.2.2.2.2.2.2.2.2.2.2.2.2.2.2.2.2.1), .v (.int .i64 sS.2.2.2.2.2.2.2.2.2.2.2.2.2.2.2.2.2.2)]), (10, .blk 46 [.v (.str v2.Code), .v (.str v2.Origin), .v (.bool v2.Proof), .v (.int .i64 v2.Company), .v (.int .i64 v2.Day), .v (.int .i64 v2.Quantity), .v (.int .i64 v2.Value), .v (.int .i64 v2.Granted)]), (12, .blk 34 [.v (.int .i64 (IntKind.i64.wrap ((1000 : Int) + v5))), .v (.int .i64 x.Kind), .v (.str x.Prefix), .v (.sl 1 (x.Origins.map eStr)), .v (.int .i64 x.Company), .v (.int .i64 x.From), .v (.int .i64 x.To), .v (.int .i64 x.Registered), .v (.int .i64 x.Duty.Rate), .v (.int .i64 x.Duty.Amount), .v (.int .i64 x.Duty.Per), .v (.bool x.Duty.HasMost), .v (.int .i64 x.Duty.Most), .v (.bool x.Duty.HasLeast), .v (.int .i64 x.Duty.Least)])]⟩) (lawAdded_b2 v2 x v5 v6 v7 kind2) [] ((0 : Int), is27, put10, c20, c18_027, c18_161, c18_227, c18_325, c18_427, c18_527, c18_627, c18_727, c18_827, c18_927, c18_1027, c18_1128, c18_1227, c18_1327, c18_1427) hl2 ⟨(by exact ⟨rfl, rfl, rfl, rfl, rfl, rfl, rfl, rfl, rfl, rfl, trivial⟩), (by exact ⟨rfl, rfl, rfl, rfl, trivial⟩), rfl, rfl, rfl, rfl⟩ ?_
       rintro ⟨i9, is29, put21, c22, c18_029, c18_163, c18_229, c18_327, c18_429, c18_529, c18_629, c18_729, c18_829, c18_929, c18_1029, c18_1130, c18_1229, c18_1329, c18_1429⟩ m hn2 he2 hx2
       obtain ⟨o2, hf2⟩ := some_of hx2
       have h := hf2
       unfold lawAdded_b2 at h
       show WC _ _ _ ⟨[(21, .v (.int .i64 i9)), (19, .v (.bool is29)), (18, .p 18 0), (17, .v (.int .i64 kind2)), (16, .v (.bool put21)), (15, .r 1015), (14, .v (.sl 15 (v7.map eApiMeasure))), (13, .v (.sl 15 (v6.map eApiMeasure))), (12, .p 12 0), (10, .p 10 0)], [(1015, .row 34 15 (c22.map eApiMeasure)), (18, .blk 34 [.v (.int .i64 c18_029), .v (.int .i64 c18_163), .v (.str c18_229), .v (.sl 1 (c18_327.map eStr)), .v (.int .i64 c18_429), .v (.int .i64 c18_529), .v (.int .i64 c18_629), .v (.int .i64 c18_729), .v (.int .i64 c18_829), .v (.int .i64 c18_929), .v (.int .i64 c18_1029), .v (.bool c18_1130), .v (.int .i64 c18_1229), .v (.bool c18_1329), .v (.int .i64 c18_1429)]), (10, .blk 46 [.v (.str v2.Code), .v (.str v2.Origin), .v (.bool v2.Proof), .v (.int .i64 v2.Company), .v (.int .i64 v2.Day), .v (.int .i64 v2.Quantity), .v (.int .i64 v2.Value), .v (.int .i64 v2.Granted)]), (12, .blk 34 [.v (.int .i64 (IntKind.i64.wrap ((1000 : Int) + v5))), .v (.int .i64 x.Kind), .v (.str x.Prefix), .v (.sl 1 (x.Origins.map eStr)), .v (.int .i64 x.Company), .v (.int .i64 x.From), .v (.int .i64 x.To), .v (.int .i64 x.Registered), .v (.int .i64 x.Duty.Rate), .v (.int .i64 x.Duty.Amount), .v (.int .i64 x.Duty.Per), .v (.bool x.Duty.HasMost), .v (.int .i64 x.Duty.Most), .v (.bool x.Duty.HasLeast), .v (.int .i64 x.Duty.Least)])]⟩ _ _
       refine WC.seq (WC.seq (WC.region ?_))
       refine WL.run tbOk 2 (acc := []) rfl trivial ?_
       refine WL.q [] rfl rfl rfl (q_ev tbOk (.v (.int .i64 (v7.length : Int))) rfl (by exact trivial) (by exact lenT)) ?_
       refine WL.run tbOk 1 (acc := []) rfl trivial ?_
       refine WL.nil (WQ.thenNormal ?_)
       refine WC.cond rfl (fun hc4 => ?_) (fun hc4 => ?_)
       ·replace h := ite_t hc4 h
        refine WC.skip (WQ.thenNormal (WC.seq ?_))
        refine WC.thenCut (X := Bool × Bool × (List ApiMeasure) × Int × Int × Str × (List Str) × Int × Int × Int × Int × Int × Int × Int × Bool × Int × Bool × Int) (fun gG => ⟨[(16, .v (.bool gG.1)), (19, .v (.bool gG.2.1)), (21, .v (.int .i64 i9)), (18, .p 18 0), (17, .v (.int .i64 kind2)), (15, .r 1015), (14, .v (.sl 15 (v7.map eApiMeasure))), (13, .v (.sl 15 (v6.map eApiMeasure))), (12, .p 12 0), (10, .p 10 0)], [(1015, .row 34 15 (gG.2.2.1.map eApiMeasure)), (18, .blk 34 [.v (.int .i64 gG.2.2.2.1), .v (.int .i64 gG.2.2.2.2.1), .v (.str gG.2.2.2.2.2.1), .v (.sl 1 (gG.2.2.2.2.2.2.1.map eStr)), .v (.int .i64 gG.2.2.2.2.2.2.2.1), .v (.int .i64 gG.2.2.2.2.2.2.2.2.1), .v (.int .i64 gG.2.2.2.2.2.2.2.2.2.1), .v (.int .i64 gG.2.2.2.2.2.2.2.2.2.2.1), .v (.int .i64 gG.2.2.2.2.2.2.2.2.2.2.2.1), .v (.int .i64 gG.2.2.2.2.2.2.2.2.2.2.2.2.1), .v (.int .i64 gG.2.2.2.2.2.2.2.2.2.2.2.2.2.1), .v (.bool gG.2.2.2.2.2.2.2.2.2.2.2.2.2.2.1), .v (.int .i64 gG.2.2.2.2.2.2.2.2.2.2.2.2.2.2.2.1), .v (.bool gG.2.2.2.2.2.2.2.2.2.2.2.2.2.2.2.2.1), .v (.int .i64 gG.2.2.2.2.2.2.2.2.2.2.2.2.2.2.2.2.2)]), (10, .blk 46 [.v (.str v2.Code), .v (.str v2.Origin), .v (.bool v2.Proof), .v (.int .i64 v2.Company), .v (.int .i64 v2.Day), .v (.int .i64 v2.Quantity), .v (.int .i64 v2.Value), .v (.int .i64 v2.Granted)]), (12, .blk 34 [.v (.int .i64 (IntKind.i64.wrap ((1000 : Int) + v5))), .v (.int .i64 x.Kind), .v (.str x.Prefix), .v (.sl 1 (x.Origins.map eStr)), .v (.int .i64 x.Company), .v (.int .i64 x.From), .v (.int .i64 x.To), .v (.int .i64 x.Registered), .v (.int .i64 x.Duty.Rate), .v (.int .i64 x.Duty.Amount), .v (.int .i64 x.Duty.Per), .v (.bool x.Duty.HasMost), .v (.int .i64 x.Duty.Most), .v (.bool x.Duty.HasLeast), .v (.int .i64 x.Duty.Least)])]⟩) (fun gG => lawAdded_j5 v2 x v5 v6 v7 kind2 i9 gG.1 gG.2.1 gG.2.2.1 gG.2.2.2.1 gG.2.2.2.2.1 gG.2.2.2.2.2.1 gG.2.2.2.2.2.2.1 gG.2.2.2.2.2.2.2.1 gG.2.2.2.2.2.2.2.2.1 gG.2.2.2.2.2.2.2.2.2.1 gG.2.2.2.2.2.2.2.2.2.2.1 gG.2.2.2.2.2.2.2.2.2.2.2.1 gG.2.2.2.2.2.2.2.2.2.2.2.2.1 gG.2.2.2.2.2.2.2.2.2.2.2.2.2.1 gG.2.2.2.2.2.2.2.2.2.2.2.2.2.2.1 gG.2.2.2.2.2.2.2.2.2.2.2.2.2.2.2.1 gG.2.2.2.2.2.2.2.2.2.2.2.2.2.2.2.2.1 gG.2.2.2.2.2.2.2.2.2.2.2.2.2.2.2.2.2 = some o2) ?_ ?_
        ·refine WC.block (WC.seq (WC.order mixed ?_))
         refine WR.run tbOk 7 (acc := []) rfl (by repeat' (first | exact trivial | assumption | intro _ | apply And.intro | exact sideT | (refine and_i ?_ ?_))) ?_
         obtain ⟨g5, h⟩ := grd h
         refine WR.gq [] rfl rfl rfl rfl (fun hg => q_idx tbOk rfl (by repeat' (first | exact trivial | assumption | intro _ | apply And.intro | exact sideT | (refine and_i ?_ ?_))) (g5 hg).1 (map_getD (f := eApiMeasure) (g5 hg).2 (g5 hg).1)) ?_
         refine WR.run tbOk 8 (acc := []) rfl (by repeat' (first | exact trivial | assumption | intro _ | apply And.intro | exact sideT | (refine and_i ?_ ?_))) ?_
         obtain ⟨g6, h⟩ := grd h
         refine WR.gq [] rfl rfl rfl rfl (fun hg => q_idx tbOk rfl (by repeat' (first | exact trivial | assumption | intro _ | apply And.intro | exact sideT | (refine and_i ?_ ?_))) (g6 hg).1 (map_getD (f := eApiMeasure) (g6 hg).2 (g6 hg).1)) ?_
         refine WR.run tbOk 6 (acc := []) rfl (by repeat' (first | exact trivial | assumption | intro _ | apply And.intro | exact sideT | (refine and_i ?_ ?_))) ?_
         refine WR.nil (by kernel_rfl) (WQ.thenNormal ?_)
         refine WC.cond rfl (fun hc5 => ?_) (fun hc5 => ?_)
         ·replace h := ite_t hc5 h
          refine WC.region ?_
          refine WL.run tbOk 4 (acc := []) rfl trivial ?_
          refine WL.nil (WQ.blockNormal ?_)
          exact WQ.cut [] (true, true, c22, (IntKind.i64.wrap ((1000 : Int) + v5)), x.Kind, x.Prefix, x.Origins, x.Company, x.From, x.To, x.Registered, x.Duty.Rate, x.Duty.Amount, x.Duty.Per, x.Duty.HasMost, x.Duty.Most, x.Duty.HasLeast, x.Duty.Least) ⟨(by exact ⟨rfl, rfl, rfl, rfl, rfl, rfl, rfl, rfl, rfl, rfl, trivial⟩), (by exact ⟨rfl, rfl, rfl, rfl, trivial⟩), rfl, rfl, rfl, rfl⟩ h
         ·replace h := ite_f hc5 h
          refine WC.skip (WQ.blockNormal ?_)
          exact WQ.cut [] (put21, is29, c22, c18_029, c18_163, c18_229, c18_327, c18_429, c18_529, c18_629, c18_729, c18_829, c18_929, c18_1029, c18_1130, c18_1229, c18_1329, c18_1429) ⟨(by exact ⟨rfl, rfl, rfl, rfl, rfl, rfl, rfl, rfl, rfl, rfl, trivial⟩), (by exact ⟨rfl, rfl, rfl, rfl, trivial⟩), rfl, rfl, rfl, rfl⟩ h
        ·rintro ⟨put25, is33, c26, c18_033, c18_167, c18_233, c18_331, c18_433, c18_533, c18_633, c18_733, c18_833, c18_933, c18_1033, c18_1134, c18_1233, c18_1333, c18_1433⟩ h
         replace h : lawAdded_j5 v2 x v5 v6 v7 kind2 i9 put25 is33 c26 c18_033 c18_167 c18_233 c18_331 c18_433 c18_533 c18_633 c18_733 c18_833 c18_933 c18_1033 c18_1134 c18_1233 c18_1333 c18_1433 = some _ := h
         unfold lawAdded_j5 at h
         show WC _ _ _ ⟨[(16, .v (.bool put25)), (19, .v (.bool is33)), (21, .v (.int .i64 i9)), (18, .p 18 0), (17, .v (.int .i64 kind2)), (15, .r 1015), (14, .v (.sl 15 (v7.map eApiMeasure))), (13, .v (.sl 15 (v6.map eApiMeasure))), (12, .p 12 0), (10, .p 10 0)], [(1015, .row 34 15 (c26.map eApiMeasure)), (18, .blk 34 [.v (.int .i64 c18_033), .v (.int .i64 c18_167), .v (.str c18_233), .v (.sl 1 (c18_331.map eStr)), .v (.int .i64 c18_433), .v (.int .i64 c18_533), .v (.int .i64 c18_633), .v (.int .i64 c18_733), .v (.int .i64 c18_833), .v (.int .i64 c18_933), .v (.int .i64 c18_1033), .v (.bool c18_1134), .v (.int .i64 c18_1233), .v (.bool c18_1333), .v (.int .i64 c18_1433)]), (10, .blk 46 [.v (.str v2.Code), .v (.str v2.Origin), .v (.bool v2.Proof), .v (.int .i64 v2.Company), .v (.int .i64 v2.Day), .v (.int .i64 v2.Quantity), .v (.int .i64 v2.Value), .v (.int .i64 v2.Granted)]), (12, .blk 34 [.v (.int .i64 (IntKind.i64.wrap ((1000 : Int) + v5))), .v (.int .i64 x.Kind), .v (.str x.Prefix), .v (.sl 1 (x.Origins.map eStr)), .v (.int .i64 x.Company), .v (.int .i64 x.From), .v (.int .i64 x.To), .v (.int .i64 x.Registered), .v (.int .i64 x.Duty.Rate), .v (.int .i64 x.Duty.Amount), .v (.int .i64 x.Duty.Per), .v (.bool x.Duty.HasMost), .v (.int .i64 x.Duty.Most), .v (.bool x.Duty.HasLeast), .v (.int .i64 x.Duty.Least)])]⟩ _ _
         refine WC.region ?_
         refine WL.run tbOk 3 (acc := []) rfl trivial ?_
         refine WL.nil ?_
         cases h
         exact WQ.next [] ((IntKind.i64.wrap (i9 + (1 : Int))), is33, put25, c26, c18_033, c18_167, c18_233, c18_331, c18_433, c18_533, c18_633, c18_733, c18_833, c18_933, c18_1033, c18_1134, c18_1233, c18_1333, c18_1433) ⟨(by exact ⟨rfl, rfl, rfl, rfl, rfl, rfl, rfl, rfl, rfl, rfl, trivial⟩), (by exact ⟨rfl, rfl, rfl, rfl, trivial⟩), rfl, rfl, rfl, rfl⟩ (hn2 _ hf2)
       ·replace h := ite_f hc4 h
        refine WC.exit (WQ.thenExit ?_)
        cases h
        have he := he2 _ hf2
        subst he
        replace h := hk2
        try dsimp only at h
        refine WQ.thenExit (WQ.blockExit ?_)
        exact WQ.cut [] (is29, put21, c22, c18_029, c18_163, c18_229, c18_327, c18_429, c18_529, c18_629, c18_729, c18_829, c18_929, c18_1029, c18_1130, c18_1229, c18_1329, c18_1429) ⟨(by exact ⟨rfl, rfl, rfl, rfl, rfl, rfl, rfl, rfl, rfl, trivial⟩), (by exact ⟨rfl, rfl, rfl, rfl, trivial⟩), rfl, rfl, rfl, rfl⟩ h
      ·rintro ⟨is28, put20, c21, c18_028, c18_162, c18_228, c18_326, c18_428, c18_528, c18_628, c18_728, c18_828, c18_928, c18_1028, c18_1129, c18_1228, c18_1328, c18_1428⟩ h
       replace h : lawAdded_j4 v2 x v5 v6 v7 kind2 is28 put20 c21 c18_028 c18_162 c18_228 c18_326 c18_428 c18_528 c18_628 c18_728 c18_828 c18_928 c18_1028 c18_1129 c18_1228 c18_1328 c18_1428 = some _ := h
       unfold lawAdded_j4 at h
       show WC _ _ _ ⟨[(19, .v (.bool is28)), (18, .p 18 0), (17, .v (.int .i64 kind2)), (16, .v (.bool put20)), (15, .r 1015), (14, .v (.sl 15 (v7.map eApiMeasure))), (13, .v (.sl 15 (v6.map eApiMeasure))), (12, .p 12 0), (10, .p 10 0)], [(1015, .row 34 15 (c21.map eApiMeasure)), (18, .blk 34 [.v (.int .i64 c18_028), .v (.int .i64 c18_162), .v (.str c18_228), .v (.sl 1 (c18_326.map eStr)), .v (.int .i64 c18_428), .v (.int .i64 c18_528), .v (.int .i64 c18_628), .v (.int .i64 c18_728), .v (.int .i64 c18_828), .v (.int .i64 c18_928), .v (.int .i64 c18_1028), .v (.bool c18_1129), .v (.int .i64 c18_1228), .v (.bool c18_1328), .v (.int .i64 c18_1428)]), (10, .blk 46 [.v (.str v2.Code), .v (.str v2.Origin), .v (.bool v2.Proof), .v (.int .i64 v2.Company), .v (.int .i64 v2.Day), .v (.int .i64 v2.Quantity), .v (.int .i64 v2.Value), .v (.int .i64 v2.Granted)]), (12, .blk 34 [.v (.int .i64 (IntKind.i64.wrap ((1000 : Int) + v5))), .v (.int .i64 x.Kind), .v (.str x.Prefix), .v (.sl 1 (x.Origins.map eStr)), .v (.int .i64 x.Company), .v (.int .i64 x.From), .v (.int .i64 x.To), .v (.int .i64 x.Registered), .v (.int .i64 x.Duty.Rate), .v (.int .i64 x.Duty.Amount), .v (.int .i64 x.Duty.Per), .v (.bool x.Duty.HasMost), .v (.int .i64 x.Duty.Most), .v (.bool x.Duty.HasLeast), .v (.int .i64 x.Duty.Least)])]⟩ _ _
       refine WC.seq (WC.region ?_)
       refine WL.run tbOk 1 (acc := []) rfl trivial ?_
       refine WL.nil (WQ.thenNormal ?_)
       refine WC.cond rfl (fun hc3 => ?_) (fun hc3 => ?_)
       ·replace h := ite_t hc3 h
        refine WC.region ?_
        refine WL.run tbOk 3 (acc := []) rfl trivial ?_
        obtain ⟨g4, h⟩ := grd h
        refine WL.append tbOk ((c21 ++ [(⟨c18_028, c18_162, c18_228, c18_326, c18_428, c18_528, c18_628, c18_728, (⟨c18_828, c18_928, c18_1028, c18_1129, c18_1228, c18_1328, c18_1428⟩ : ApiDuty)⟩ : ApiMeasure)]).map eApiMeasure) [123, 1015] ap22 rfl rfl rfl rfl (fun _ e => by cases e; rfl) (by exact trivial) (map_cells (f := eApiMeasure) (xs := [(⟨c18_028, c18_162, c18_228, c18_326, c18_428, c18_528, c18_628, c18_728, (⟨c18_828, c18_928, c18_1028, c18_1129, c18_1228, c18_1328, c18_1428⟩ : ApiDuty)⟩ : ApiMeasure)]) fun _ => rfl) (by have := g4; simp only [List.length_map, List.length_nil, List.length_cons] at this ⊢; omega) rfl rfl (by simp only [List.map_append]; try rfl) rfl ?_
        refine WL.run tbOk 1 (acc := []) rfl trivial ?_
        refine WL.nil (WQ.blockNormal ?_)
        exact WQ.cut [(1015, 123)] ((c21 ++ [(⟨c18_028, c18_162, c18_228, c18_326, c18_428, c18_528, c18_628, c18_728, (⟨c18_828, c18_928, c18_1028, c18_1129, c18_1228, c18_1328, c18_1428⟩ : ApiDuty)⟩ : ApiMeasure)]), put20) ⟨(by exact ⟨rfl, rfl, rfl, rfl, rfl, rfl, rfl, trivial⟩), (by exact ⟨rfl, rfl, rfl, trivial⟩), rfl, rfl, rfl, rfl⟩ h
       ·replace h := ite_f hc3 h
        refine WC.skip (WQ.blockNormal ?_)
        exact WQ.cut [] (c21, put20) ⟨(by exact ⟨rfl, rfl, rfl, rfl, rfl, rfl, rfl, trivial⟩), (by exact ⟨rfl, rfl, rfl, trivial⟩), rfl, rfl, rfl, rfl⟩ h
    ·rintro ⟨c19, put19⟩ h
     replace h : lawAdded_j2 v2 x v5 v6 v7 kind2 c19 put19 = some _ := h
     unfold lawAdded_j2 at h
     show WC _ _ _ ⟨[(15, .r 1015), (17, .v (.int .i64 kind2)), (16, .v (.bool put19)), (14, .v (.sl 15 (v7.map eApiMeasure))), (13, .v (.sl 15 (v6.map eApiMeasure))), (12, .p 12 0), (10, .p 10 0)], [(1015, .row 34 15 (c19.map eApiMeasure)), (10, .blk 46 [.v (.str v2.Code), .v (.str v2.Origin), .v (.bool v2.Proof), .v (.int .i64 v2.Company), .v (.int .i64 v2.Day), .v (.int .i64 v2.Quantity), .v (.int .i64 v2.Value), .v (.int .i64 v2.Granted)]), (12, .blk 34 [.v (.int .i64 (IntKind.i64.wrap ((1000 : Int) + v5))), .v (.int .i64 x.Kind), .v (.str x.Prefix), .v (.sl 1 (x.Origins.map eStr)), .v (.int .i64 x.Company), .v (.int .i64 x.From), .v (.int .i64 x.To), .v (.int .i64 x.Registered), .v (.int .i64 x.Duty.Rate), .v (.int .i64 x.Duty.Amount), .v (.int .i64 x.Duty.Per), .v (.bool x.Duty.HasMost), .v (.int .i64 x.Duty.Most), .v (.bool x.Duty.HasLeast), .v (.int .i64 x.Duty.Least)])]⟩ _ _
     refine WC.region ?_
     refine WL.run tbOk 3 (acc := []) rfl trivial ?_
     refine WL.nil ?_
     cases h
     exact WQ.next [] ((IntKind.i64.wrap (kind2 + (1 : Int))), put19, c19) ⟨(by exact ⟨rfl, rfl, rfl, rfl, rfl, rfl, rfl, trivial⟩), (by exact ⟨rfl, rfl, rfl, trivial⟩), rfl, rfl, rfl, rfl⟩ (hn1 _ hf1)
   ·replace h := ite_f hc2 h
    refine WC.exit (WQ.thenExit ?_)
    cases h
    have he := he1 _ hf1
    subst he
    replace h := hk1
    try dsimp only at h
    refine WQ.thenExit (WQ.blockExit ?_)
    exact WQ.cut [] (put10, c3) ⟨(by exact ⟨rfl, rfl, rfl, rfl, rfl, trivial⟩), (by exact ⟨rfl, rfl, rfl, trivial⟩), rfl, rfl, rfl, rfl⟩ h
  ·rintro ⟨put, c⟩ h
   replace h : lawAdded_j1 v2 x v5 v7 put c = some _ := h
   unfold lawAdded_j1 at h
   show WC _ _ _ ⟨[(16, .v (.bool put)), (15, .r 1015), (14, .v (.sl 15 (v7.map eApiMeasure))), (12, .p 12 0), (10, .p 10 0)], [(1015, .row 34 15 (c.map eApiMeasure)), (10, .blk 46 [.v (.str v2.Code), .v (.str v2.Origin), .v (.bool v2.Proof), .v (.int .i64 v2.Company), .v (.int .i64 v2.Day), .v (.int .i64 v2.Quantity), .v (.int .i64 v2.Value), .v (.int .i64 v2.Granted)]), (12, .blk 34 [.v (.int .i64 (IntKind.i64.wrap ((1000 : Int) + v5))), .v (.int .i64 x.Kind), .v (.str x.Prefix), .v (.sl 1 (x.Origins.map eStr)), .v (.int .i64 x.Company), .v (.int .i64 x.From), .v (.int .i64 x.To), .v (.int .i64 x.Registered), .v (.int .i64 x.Duty.Rate), .v (.int .i64 x.Duty.Amount), .v (.int .i64 x.Duty.Per), .v (.bool x.Duty.HasMost), .v (.int .i64 x.Duty.Most), .v (.bool x.Duty.HasLeast), .v (.int .i64 x.Duty.Least)])]⟩ _ _
   refine WC.seq ?_
   refine WC.publish 1015 rfl rfl ?_
   refine WC.region ?_
   refine WL.run tbOk 2 (acc := []) rfl trivial ?_
   obtain ⟨v8, hvv8, h⟩ := bnd h
   refine WL.call0 fn22 rfl rfl rfl rfl (by exact trivial) rfl (sameMeasures_con hw hvv8) ?_
   refine WL.run tbOk 13 (acc := []) rfl (by repeat' (first | exact trivial | assumption | intro _ | apply And.intro | exact sideT | (refine and_i ?_ ?_))) ?_
   obtain ⟨v9, hvv9, h⟩ := bnd h
   refine WL.gcall0 fn26 rfl rfl rfl rfl rfl (fun _ => (by repeat' (first | exact trivial | assumption | intro _ | apply And.intro | exact sideT | (refine and_i ?_ ?_)))) rfl (fun hg => (meCovers_con hw (ite_t hg hvv9))) ?_
   refine WL.run tbOk 3 (acc := []) rfl (by repeat' (first | exact trivial | assumption | intro _ | apply And.intro | exact sideT | (refine and_i ?_ ?_))) ?_
   obtain ⟨v10, hvv10, h⟩ := bnd h
   refine WL.gcall0 fn15 rfl rfl rfl rfl rfl (fun _ => (by repeat' (first | exact trivial | assumption | intro _ | apply And.intro | exact sideT | (refine and_i ?_ ?_)))) rfl (fun hg => (awake19_con hw (ite_t hg hvv10))) ?_
   refine WL.run tbOk 2 (acc := []) rfl (by repeat' (first | exact trivial | assumption | intro _ | apply And.intro | exact sideT | (refine and_i ?_ ?_))) ?_
   refine WL.nil (WQ.thenNormal (WC.ret ?_))
   cases h
   exact WQ.rets tbOk hR [] (.inl rfl) rfl rfl (Le.refl _) (by exact trivial) rfl rfl rfl rfl

end Go.Proofs.YtbilobjddflpeaaGreatDoor
