/- Contracts: the program's functions compute the plain ones; by program (gen.py). -/
import Derived.Test.YtbilobjddflpeaaGreatDoorLib
import Derived.Test.YtbilobjddflpeaaGreatDoorPj
import Derived.Test.YtbilobjddflpeaaGreatDoorCa
import Derived.Test.YtbilobjddflpeaaGreatDoorCb
import Derived.Test.YtbilobjddflpeaaGreatDoorCc
import Derived.Test.YtbilobjddflpeaaGreatDoorCd
import Derived.Test.YtbilobjddflpeaaGreatDoorCe
import Derived.Test.YtbilobjddflpeaaGreatDoorCf
import Derived.Test.YtbilobjddflpeaaGreatDoorCg
set_option linter.unusedVariables false
set_option linter.unusedSimpArgs false
set_option maxHeartbeats 4000000
set_option maxRecDepth 20000
namespace Go.Proofs.YtbilobjddflpeaaGreatDoor
open Go.V Go.C

theorem refLine_con {wg : World} (hw : WG wg) {m1 : ApiMeasure} {r : Str} (h : refLine m1 = some r) : Con Tryz.prog wg gl 40 [.v (.agg [.int .i64 m1.ID, .int .i64 m1.Kind, .str m1.Prefix, .sl 1 (m1.Origins.map eStr), .int .i64 m1.Company, .int .i64 m1.From, .int .i64 m1.To, .int .i64 m1.Registered, .int .i64 m1.Duty.Rate, .int .i64 m1.Duty.Amount, .int .i64 m1.Duty.Per, .bool m1.Duty.HasMost, .int .i64 m1.Duty.Most, .bool m1.Duty.HasLeast, .int .i64 m1.Duty.Least])] [] (.v (.str r)) [] := by
 unfold refLine at h
 refine con_of_WC (S := slotsOf 0 _) Tryz.func40 rfl Tryz.ntmps40 rfl (fun t x hx => (slotsOf_get hx).2) ?_
 intro F L w ρ0 R hR
 show WC _ _ _ ⟨[(0, .v (.agg [.int .i64 m1.ID, .int .i64 m1.Kind, .str m1.Prefix, .sl 1 (m1.Origins.map eStr), .int .i64 m1.Company, .int .i64 m1.From, .int .i64 m1.To, .int .i64 m1.Registered, .int .i64 m1.Duty.Rate, .int .i64 m1.Duty.Amount, .int .i64 m1.Duty.Per, .bool m1.Duty.HasMost, .int .i64 m1.Duty.Most, .bool m1.Duty.HasLeast, .int .i64 m1.Duty.Least]))], []⟩ _ _
 refine WC.seq (WC.region ?_)
 refine WL.run tbOk 2 (acc := []) rfl trivial ?_
 refine WL.nil (WQ.thenNormal (WC.seq (WC.order mixed ?_)))
 refine WR.run tbOk 2 (acc := []) rfl trivial ?_
 replace h := bnd h; obtain ⟨v, hvv, h⟩ := h
 refine WR.call0 fn63 rfl rfl rfl rfl (by exact trivial) rfl (r02Digits_con hw hvv) ?_
 obtain ⟨g1, h⟩ := grd h
 refine WR.run tbOk 3 (acc := []) rfl (by repeat' (first | exact trivial | assumption | intro _ | exact g1 (by assumption) | apply And.intro | exact sideT | (refine and_i ?_ ?_))) ?_
 replace h := bnd h; obtain ⟨v2, hvv2, h⟩ := h
 refine WR.call0 fn63 rfl rfl rfl rfl (by exact trivial) rfl (r02Digits_con hw hvv2) ?_
 obtain ⟨g2, h⟩ := grd h
 obtain ⟨g3, h⟩ := grd h
 obtain ⟨g4, h⟩ := grd h
 obtain ⟨g5, h⟩ := grd h
 refine WR.run tbOk 7 (acc := []) rfl (by repeat' (first | exact trivial | assumption | intro _ | exact g2 (by assumption) | exact g3 (by assumption) | exact g4 (by assumption) | exact g5 (by assumption) | apply And.intro | exact sideT | (refine and_i ?_ ?_))) ?_
 refine WR.nil (by kernel_rfl) (WQ.thenNormal (WC.seq (WC.seq (WC.region ?_))))
 refine WL.run tbOk 2 (acc := []) rfl trivial ?_
 refine WL.q [] rfl rfl rfl (q_ev tbOk (.v (.int .i64 (m1.Origins.length : Int))) rfl (by exact trivial) (by exact lenT)) ?_
 refine WL.run tbOk 1 (acc := []) rfl trivial ?_
 refine WL.nil (WQ.thenNormal ?_)
 refine WC.thenCut (X := Str) (fun gG => ⟨[(3, .v (.str gG)), (1, .p 1 0)], [(1, .blk 34 [.v (.int .i64 m1.ID), .v (.int .i64 m1.Kind), .v (.str m1.Prefix), .v (.sl 1 (m1.Origins.map eStr)), .v (.int .i64 m1.Company), .v (.int .i64 m1.From), .v (.int .i64 m1.To), .v (.int .i64 m1.Registered), .v (.int .i64 m1.Duty.Rate), .v (.int .i64 m1.Duty.Amount), .v (.int .i64 m1.Duty.Per), .v (.bool m1.Duty.HasMost), .v (.int .i64 m1.Duty.Most), .v (.bool m1.Duty.HasLeast), .v (.int .i64 m1.Duty.Least)])]⟩) (fun gG => refLine_j1 m1 gG = some r) ?_ ?_
 ·refine WC.cond rfl (fun hc2 => ?_) (fun hc2 => ?_)
  ·replace h := ite_t hc2 h
   refine WC.region ?_
   obtain ⟨g18, h⟩ := grd h
   refine WL.run tbOk 3 (acc := []) rfl (by repeat' (first | exact trivial | assumption | intro _ | exact g18 (by assumption) | apply And.intro | exact sideT | (refine and_i ?_ ?_))) ?_
   refine WL.nil ?_
   exact WQ.cut [] ((((((v ++ ([32] : Str)) ++ v2) ++ ([32] : Str)) ++ m1.Prefix) ++ ([32] : Str)) ++ ([42] : Str)) ⟨(by exact ⟨rfl, rfl, trivial⟩), (by exact ⟨rfl, trivial⟩), rfl, rfl, rfl, rfl⟩ h
  ·replace h := ite_f hc2 h
   refine WC.skip ?_
   exact WQ.cut [] (((((v ++ ([32] : Str)) ++ v2) ++ ([32] : Str)) ++ m1.Prefix) ++ ([32] : Str)) ⟨(by exact ⟨rfl, rfl, trivial⟩), (by exact ⟨rfl, trivial⟩), rfl, rfl, rfl, rfl⟩ h
 ·intro s h
  replace h : refLine_j1 m1 s = some _ := h
  unfold refLine_j1 at h
  show WC _ _ _ ⟨[(3, .v (.str s)), (1, .p 1 0)], [(1, .blk 34 [.v (.int .i64 m1.ID), .v (.int .i64 m1.Kind), .v (.str m1.Prefix), .v (.sl 1 (m1.Origins.map eStr)), .v (.int .i64 m1.Company), .v (.int .i64 m1.From), .v (.int .i64 m1.To), .v (.int .i64 m1.Registered), .v (.int .i64 m1.Duty.Rate), .v (.int .i64 m1.Duty.Amount), .v (.int .i64 m1.Duty.Per), .v (.bool m1.Duty.HasMost), .v (.int .i64 m1.Duty.Most), .v (.bool m1.Duty.HasLeast), .v (.int .i64 m1.Duty.Least)])]⟩ _ _
  refine WC.seq (WC.order mixed ?_)
  refine WR.run tbOk 3 (acc := []) rfl trivial ?_
  replace h := bnd h; obtain ⟨v3, hvv3, h⟩ := h
  refine WR.call0 fn19 rfl rfl rfl rfl (by exact trivial) rfl (refJoined_con hw hvv3) ?_
  obtain ⟨g6, h⟩ := grd h
  obtain ⟨g7, h⟩ := grd h
  refine WR.run tbOk 4 (acc := []) rfl (by repeat' (first | exact trivial | assumption | intro _ | exact g6 (by assumption) | exact g7 (by assumption) | apply And.intro | exact sideT | (refine and_i ?_ ?_))) ?_
  replace h := bnd h; obtain ⟨v4, hvv4, h⟩ := h
  refine WR.call0 fn63 rfl rfl rfl rfl (by exact trivial) rfl (r02Digits_con hw hvv4) ?_
  obtain ⟨g8, h⟩ := grd h
  obtain ⟨g9, h⟩ := grd h
  refine WR.run tbOk 4 (acc := []) rfl (by repeat' (first | exact trivial | assumption | intro _ | exact g8 (by assumption) | exact g9 (by assumption) | apply And.intro | exact sideT | (refine and_i ?_ ?_))) ?_
  replace h := bnd h; obtain ⟨v5, hvv5, h⟩ := h
  refine WR.call0 fn63 rfl rfl rfl rfl (by exact trivial) rfl (r02Digits_con hw hvv5) ?_
  obtain ⟨g10, h⟩ := grd h
  obtain ⟨g11, h⟩ := grd h
  refine WR.run tbOk 4 (acc := []) rfl (by repeat' (first | exact trivial | assumption | intro _ | exact g10 (by assumption) | exact g11 (by assumption) | apply And.intro | exact sideT | (refine and_i ?_ ?_))) ?_
  replace h := bnd h; obtain ⟨v6, hvv6, h⟩ := h
  refine WR.call0 fn63 rfl rfl rfl rfl (by exact trivial) rfl (r02Digits_con hw hvv6) ?_
  obtain ⟨g12, h⟩ := grd h
  obtain ⟨g13, h⟩ := grd h
  refine WR.run tbOk 3 (acc := []) rfl (by repeat' (first | exact trivial | assumption | intro _ | exact g12 (by assumption) | exact g13 (by assumption) | apply And.intro | exact sideT | (refine and_i ?_ ?_))) ?_
  refine WR.nil (by kernel_rfl) (WQ.thenNormal (WC.seq (WC.seq (WC.region ?_))))
  refine WL.run tbOk 3 (acc := []) rfl trivial ?_
  refine WL.nil (WQ.thenNormal ?_)
  refine WC.thenCut (X := Str) (fun gG => ⟨[(3, .v (.str gG)), (1, .p 1 0)], [(1, .blk 34 [.v (.int .i64 m1.ID), .v (.int .i64 m1.Kind), .v (.str m1.Prefix), .v (.sl 1 (m1.Origins.map eStr)), .v (.int .i64 m1.Company), .v (.int .i64 m1.From), .v (.int .i64 m1.To), .v (.int .i64 m1.Registered), .v (.int .i64 m1.Duty.Rate), .v (.int .i64 m1.Duty.Amount), .v (.int .i64 m1.Duty.Per), .v (.bool m1.Duty.HasMost), .v (.int .i64 m1.Duty.Most), .v (.bool m1.Duty.HasLeast), .v (.int .i64 m1.Duty.Least)])]⟩) (fun gG => refLine_j2 m1 gG = some r) ?_ ?_
  ·refine WC.cond rfl (fun hc1 => ?_) (fun hc1 => ?_)
   ·replace h := ite_t hc1 h
    refine WC.region ?_
    obtain ⟨g16, h⟩ := grd h
    refine WL.run tbOk 3 (acc := []) rfl (by repeat' (first | exact trivial | assumption | intro _ | exact g16 (by assumption) | apply And.intro | exact sideT | (refine and_i ?_ ?_))) ?_
    refine WL.nil ?_
    exact WQ.cut [] (((((((((s ++ v3) ++ ([32] : Str)) ++ v4) ++ ([32] : Str)) ++ v5) ++ ([32] : Str)) ++ v6) ++ ([32] : Str)) ++ ([45] : Str)) ⟨(by exact ⟨rfl, rfl, trivial⟩), (by exact ⟨rfl, trivial⟩), rfl, rfl, rfl, rfl⟩ h
   ·replace h := ite_f hc1 h
    refine WC.region ?_
    refine WL.run tbOk 3 (acc := []) rfl trivial ?_
    replace h := bnd h; obtain ⟨v8, hvv8, h⟩ := h
    refine WL.call0 fn63 rfl rfl rfl rfl (by exact trivial) rfl (r02Digits_con hw hvv8) ?_
    obtain ⟨g17, h⟩ := grd h
    refine WL.run tbOk 2 (acc := []) rfl (by repeat' (first | exact trivial | assumption | intro _ | exact g17 (by assumption) | apply And.intro | exact sideT | (refine and_i ?_ ?_))) ?_
    refine WL.nil ?_
    exact WQ.cut [] (((((((((s ++ v3) ++ ([32] : Str)) ++ v4) ++ ([32] : Str)) ++ v5) ++ ([32] : Str)) ++ v6) ++ ([32] : Str)) ++ v8) ⟨(by exact ⟨rfl, rfl, trivial⟩), (by exact ⟨rfl, trivial⟩), rfl, rfl, rfl, rfl⟩ h
  ·intro s2 h
   replace h : refLine_j2 m1 s2 = some _ := h
   unfold refLine_j2 at h
   show WC _ _ _ ⟨[(3, .v (.str s2)), (1, .p 1 0)], [(1, .blk 34 [.v (.int .i64 m1.ID), .v (.int .i64 m1.Kind), .v (.str m1.Prefix), .v (.sl 1 (m1.Origins.map eStr)), .v (.int .i64 m1.Company), .v (.int .i64 m1.From), .v (.int .i64 m1.To), .v (.int .i64 m1.Registered), .v (.int .i64 m1.Duty.Rate), .v (.int .i64 m1.Duty.Amount), .v (.int .i64 m1.Duty.Per), .v (.bool m1.Duty.HasMost), .v (.int .i64 m1.Duty.Most), .v (.bool m1.Duty.HasLeast), .v (.int .i64 m1.Duty.Least)])]⟩ _ _
   refine WC.seq (WC.region ?_)
   obtain ⟨g14, h⟩ := grd h
   refine WL.run tbOk 4 (acc := []) rfl (by repeat' (first | exact trivial | assumption | intro _ | exact g14 (by assumption) | apply And.intro | exact sideT | (refine and_i ?_ ?_))) ?_
   replace h := bnd h; obtain ⟨v7, hvv7, h⟩ := h
   refine WL.call0 fn64 rfl rfl rfl rfl (by exact trivial) rfl (refFormatDuty_con hw hvv7) ?_
   obtain ⟨g15, h⟩ := grd h
   refine WL.run tbOk 2 (acc := []) rfl (by repeat' (first | exact trivial | assumption | intro _ | exact g15 (by assumption) | apply And.intro | exact sideT | (refine and_i ?_ ?_))) ?_
   refine WL.nil (WQ.thenNormal (WC.ret ?_))
   cases h
   exact WQ.rets tbOk hR [] (.inl rfl) rfl rfl (Le.refl _) (by exact trivial) rfl rfl rfl rfl

theorem refFormat_con {wg : World} (hw : WG wg) {l : (List ApiMeasure)} {r : Str} (h : refFormat l = some r) : Con Tryz.prog wg gl 17 [.v (.sl 15 (l.map eApiMeasure))] [] (.v (.str r)) [] := by
 unfold refFormat at h
 refine con_of_WC (S := slotsOf 0 _) Tryz.func17 rfl Tryz.ntmps17 rfl (fun t x hx => (slotsOf_get hx).2) ?_
 intro F L w ρ0 R hR
 show WC _ _ _ ⟨[(0, .v (.sl 15 (l.map eApiMeasure)))], []⟩ _ _
 refine WC.seq (WC.region ?_)
 refine WL.run tbOk 1 (acc := []) rfl trivial ?_
 refine WL.nil (WQ.thenNormal (WC.seq (WC.region ?_)))
 refine WL.run tbOk 1 (acc := []) rfl trivial ?_
 refine WL.nil (WQ.thenNormal (WC.seq (WC.seq (WC.region ?_))))
 refine WL.run tbOk 1 (acc := []) rfl trivial ?_
 replace h := bnd h; obtain ⟨v, hvv, h⟩ := h
 refine WL.call0 fn13 rfl rfl rfl rfl (by exact trivial) rfl (refMeasures_con hw hvv) ?_
 refine WL.run tbOk 1 (acc := []) rfl trivial ?_
 refine WL.nil (WQ.thenNormal ?_)
 refine WC.cond rfl (fun hc1 => ?_) (fun hc1 => ?_)
 ·replace h := ite_t hc1 h
  refine WC.seq (WC.region ?_)
  refine WL.run tbOk 1 (acc := []) rfl trivial ?_
  refine WL.nil (WQ.thenNormal (WC.ret (WQ.thenRet ?_)))
  cases h
  exact WQ.rets tbOk hR [] (.inl rfl) rfl rfl (Le.refl _) (by exact trivial) rfl rfl rfl rfl
 ·replace h := ite_f hc1 h
  refine WC.skip (WQ.thenNormal (WC.seq (WC.seq (WC.region ?_))))
  refine WL.run tbOk 1 (acc := []) rfl trivial ?_
  refine WL.nil (WQ.thenNormal ?_)
  refine WC.thenCut (X := Str) (fun gG => ⟨[(3, .v (.str gG))], []⟩) (fun gG => refFormat_j1 gG = some r) ?_ ?_
  ·refine WC.block ?_
   obtain ⟨eQ1, hl1, hk1⟩ := bnd h
   clear h
   refine WC.loop (σ := Int × Str) (τ := (Str)) (fun sS => ⟨[(4, .v (.int .i64 sS.1)), (3, .v (.str sS.2)), (0, .v (.sl 15 (l.map eApiMeasure)))], []⟩) (refFormat_b1 l) [] ((0 : Int), ([] : Str)) hl1 ⟨(by exact ⟨rfl, rfl, rfl, trivial⟩), (by exact trivial), rfl, rfl, rfl, rfl⟩ ?_
   rintro ⟨i, s2⟩ m hn1 he1 hx1
   obtain ⟨o1, hf1⟩ := some_of hx1
   have h := hf1
   unfold refFormat_b1 at h
   show WC _ _ _ ⟨[(4, .v (.int .i64 i)), (3, .v (.str s2)), (0, .v (.sl 15 (l.map eApiMeasure)))], []⟩ _ _
   refine WC.seq (WC.seq (WC.region ?_))
   refine WL.run tbOk 2 (acc := []) rfl trivial ?_
   refine WL.q [] rfl rfl rfl (q_ev tbOk (.v (.int .i64 (l.length : Int))) rfl (by exact trivial) (by exact lenT)) ?_
   refine WL.run tbOk 1 (acc := []) rfl trivial ?_
   refine WL.nil (WQ.thenNormal ?_)
   refine WC.cond rfl (fun hc2 => ?_) (fun hc2 => ?_)
   ·replace h := ite_t hc2 h
    refine WC.skip (WQ.thenNormal (WC.seq (WC.block (WC.region ?_))))
    refine WL.run tbOk 3 (acc := []) rfl trivial ?_
    obtain ⟨g1, h⟩ := grd h
    replace h := bnd h; obtain ⟨x2, hxx2, h⟩ := h
    refine WL.q [] rfl rfl rfl (q_idx tbOk rfl (by exact trivial) g1 (map_get (f := eApiMeasure) hxx2)) ?_
    refine WL.run tbOk 1 (acc := []) rfl trivial ?_
    replace h := bnd h; obtain ⟨v3, hvv3, h⟩ := h
    refine WL.call0 fn40 rfl rfl rfl rfl (by exact trivial) rfl (refLine_con hw hvv3) ?_
    obtain ⟨g2, h⟩ := grd h
    obtain ⟨g3, h⟩ := grd h
    refine WL.run tbOk 3 (acc := []) rfl (by repeat' (first | exact trivial | assumption | intro _ | exact g2 (by assumption) | exact g3 (by assumption) | apply And.intro | exact sideT | (refine and_i ?_ ?_))) ?_
    refine WL.nil (WQ.blockNormal (WQ.thenNormal (WC.region ?_)))
    refine WL.run tbOk 3 (acc := []) rfl trivial ?_
    refine WL.nil ?_
    cases h
    exact WQ.next [] ((IntKind.i64.wrap (i + (1 : Int))), ((s2 ++ v3) ++ ([10] : Str))) ⟨(by exact ⟨rfl, rfl, rfl, trivial⟩), (by exact trivial), rfl, rfl, rfl, rfl⟩ (hn1 _ hf1)
   ·replace h := ite_f hc2 h
    refine WC.exit (WQ.thenExit ?_)
    cases h
    have he := he1 _ hf1
    subst he
    replace h := hk1
    try dsimp only at h
    refine WQ.thenExit (WQ.blockExit ?_)
    exact WQ.cut [] s2 ⟨(by exact ⟨rfl, trivial⟩), (by exact trivial), rfl, rfl, rfl, rfl⟩ h
  ·intro s h
   replace h : refFormat_j1 s = some _ := h
   unfold refFormat_j1 at h
   show WC _ _ _ ⟨[(3, .v (.str s))], []⟩ _ _
   refine WC.seq (WC.region ?_)
   refine WL.run tbOk 2 (acc := []) rfl trivial ?_
   refine WL.nil (WQ.thenNormal (WC.ret ?_))
   cases h
   exact WQ.rets tbOk hR [] (.inl rfl) rfl rfl (Le.refl _) (by exact trivial) rfl rfl rfl rfl

theorem refParse_con {wg : World} (hw : WG wg) {s : Str} {r : (List ApiMeasure) × Int × Int} (h : refParse s = some r) : Con Tryz.prog wg gl 21 [.v (.str s)] [] (.tup [.v (.sl 15 (r.1.map eApiMeasure)), .v (.int .i64 r.2.1), .v (.int .i64 r.2.2)]) [] := by
 unfold refParse at h
 refine con_of_WC (S := slotsOf 0 _) Tryz.func21 rfl Tryz.ntmps21 rfl (fun t x hx => (slotsOf_get hx).2) ?_
 intro F L w ρ0 R hR
 show WC _ _ _ ⟨[(0, .v (.str s))], []⟩ _ _
 refine WC.seq (WC.region ?_)
 refine WL.run tbOk 3 (acc := []) rfl trivial ?_
 refine WL.nil (WQ.thenNormal (WC.seq (WC.region ?_)))
 refine WL.run tbOk 1 (acc := []) rfl trivial ?_
 refine WL.nil (WQ.thenNormal (WC.seq (WC.region ?_)))
 refine WL.run tbOk 1 (acc := []) rfl trivial ?_
 replace h := bnd h; obtain ⟨v, hvv, h⟩ := h
 refine WL.call0 fn18 rfl rfl rfl rfl (by exact trivial) rfl (r08Split_con hw hvv) ?_
 refine WL.run tbOk 1 (acc := []) rfl trivial ?_
 refine WL.nil (WQ.thenNormal (WC.seq (WC.seq (WC.region ?_))))
 refine WL.run tbOk 1 (acc := []) rfl trivial ?_
 refine WL.nil (WQ.thenNormal ?_)
 refine WC.thenCut (X := (List ApiMeasure)) (fun gG => ⟨[(5, .r 1005)], [(1005, .row 34 15 (gG.map eApiMeasure))]⟩) (fun gG => refParse_j1 gG = some r) ?_ ?_
 ·refine WC.block ?_
  obtain ⟨eQ1, hl1, hk1⟩ := bnd h
  clear h
  refine WC.rowNil 5 1005 34 15 rfl rfl ?_
  refine WC.loop (σ := Int × (List ApiMeasure)) (τ := (((List ApiMeasure)) ⊕ ((List ApiMeasure) × Int × Int))) (fun sS => ⟨[(7, .v (.int .i64 sS.1)), (6, .v (.sl 1 (v.map eStr))), (5, .r 1005)], [(1005, .row 34 15 (sS.2.map eApiMeasure))]⟩) (refParse_b1 v) [] ((0 : Int), []) hl1 ⟨(by exact ⟨rfl, rfl, rfl, trivial⟩), (by exact ⟨rfl, trivial⟩), rfl, rfl, rfl, rfl⟩ ?_
  rintro ⟨i2, out2⟩ m hn1 he1 hx1
  obtain ⟨o1, hf1⟩ := some_of hx1
  have h := hf1
  unfold refParse_b1 at h
  show WC _ _ _ ⟨[(7, .v (.int .i64 i2)), (6, .v (.sl 1 (v.map eStr))), (5, .r 1005)], [(1005, .row 34 15 (out2.map eApiMeasure))]⟩ _ _
  refine WC.seq (WC.seq (WC.region ?_))
  refine WL.run tbOk 2 (acc := []) rfl trivial ?_
  refine WL.q [] rfl rfl rfl (q_ev tbOk (.v (.int .i64 (v.length : Int))) rfl (by exact trivial) (by exact lenT)) ?_
  refine WL.run tbOk 1 (acc := []) rfl trivial ?_
  refine WL.nil (WQ.thenNormal ?_)
  refine WC.cond rfl (fun hc2 => ?_) (fun hc2 => ?_)
  ·replace h := ite_t hc2 h
   refine WC.skip (WQ.thenNormal (WC.seq (WC.block (WC.seq (WC.seq (WC.region ?_))))))
   refine WL.run tbOk 2 (acc := []) rfl trivial ?_
   refine WL.q [] rfl rfl rfl (q_ev tbOk (.v (.int .i64 (v.length : Int))) rfl (by exact trivial) (by exact lenT)) ?_
   refine WL.run tbOk 5 (acc := []) rfl (by repeat' (first | exact trivial | assumption | intro _ | apply And.intro | exact sideT | (refine and_i ?_ ?_))) ?_
   obtain ⟨g1, h⟩ := grd h
   refine WL.gq [] rfl rfl rfl rfl (fun hg => q_idx tbOk rfl (by repeat' (first | exact trivial | assumption | intro _ | apply And.intro | exact sideT | (refine and_i ?_ ?_))) (g1 hg).1 (map_getD (f := eStr) (g1 hg).2 (g1 hg).1)) ?_
   refine WL.run tbOk 3 (acc := []) rfl (by repeat' (first | exact trivial | assumption | intro _ | apply And.intro | exact sideT | (refine and_i ?_ ?_))) ?_
   refine WL.nil (WQ.thenNormal ?_)
   refine WC.cond rfl (fun hc3 => ?_) (fun hc3 => ?_)
   ·replace h := ite_t hc3 h
    refine WC.exit (WQ.thenExit ?_)
    refine WQ.blockPass rfl ?_
    refine WQ.thenExit ?_
    cases h
    have he := he1 _ hf1
    subst he
    replace h := hk1
    try dsimp only at h
    refine WQ.thenExit (WQ.blockExit ?_)
    exact WQ.cut [] out2 ⟨(by exact ⟨rfl, trivial⟩), (by exact ⟨rfl, trivial⟩), rfl, rfl, rfl, rfl⟩ h
   ·replace h := ite_f hc3 h
    refine WC.skip (WQ.thenNormal (WC.seq (WC.region ?_)))
    refine WL.run tbOk 2 (acc := []) rfl trivial ?_
    obtain ⟨g2, h⟩ := grd h
    replace h := bnd h; obtain ⟨x21, hxx21, h⟩ := h
    refine WL.q [] rfl rfl rfl (q_idx tbOk rfl (by exact trivial) g2 (map_get (f := eStr) hxx21)) ?_
    refine WL.run tbOk 1 (acc := []) rfl trivial ?_
    replace h := bnd h; obtain ⟨v27, hvv27, h⟩ := h
    refine WL.call0 fn18 rfl rfl rfl rfl (by exact trivial) rfl (r08Split_con hw hvv27) ?_
    refine WL.run tbOk 1 (acc := []) rfl trivial ?_
    refine WL.nil (WQ.thenNormal (WC.seq (WC.seq (WC.region ?_))))
    refine WL.run tbOk 1 (acc := []) rfl trivial ?_
    refine WL.q [] rfl rfl rfl (q_ev tbOk (.v (.int .i64 (v27.length : Int))) rfl (by exact trivial) (by exact lenT)) ?_
    refine WL.run tbOk 4 (acc := []) rfl (by repeat' (first | exact trivial | assumption | intro _ | apply And.intro | exact sideT | (refine and_i ?_ ?_))) ?_
    refine WL.gq [] rfl rfl rfl rfl (fun hg => q_ev tbOk (.v (.int .i64 (v.length : Int))) rfl (by repeat' (first | exact trivial | assumption | intro _ | apply And.intro | exact sideT | (refine and_i ?_ ?_))) (by exact lenT)) ?_
    refine WL.run tbOk 3 (acc := []) rfl (by repeat' (first | exact trivial | assumption | intro _ | apply And.intro | exact sideT | (refine and_i ?_ ?_))) ?_
    refine WL.nil (WQ.thenNormal ?_)
    refine WC.cond rfl (fun hc4 => ?_) (fun hc4 => ?_)
    ·replace h := ite_t hc4 h
     refine WC.seq (WC.region ?_)
     refine WL.run tbOk 4 (acc := []) rfl trivial ?_
     refine WL.nil (WQ.thenNormal (WC.ret (WQ.thenRet (WQ.blockRet (WQ.thenRet ?_)))))
     cases h
     have he := he1 _ hf1
     subst he
     have h : some ([], i2, (4 : Int)) = some _ := hk1
     refine WQ.thenRet (WQ.blockRet (WQ.thenRet ?_))
     cases h
     exact WQ.rets tbOk (r := .tup [.v (.sl 15 ([].map eApiMeasure)), .v (.int .i64 i2), .v (.int .i64 (4 : Int))]) hR [] (.inl rfl) rfl rfl (Le.tup (.cons (Le.nil 15) (.cons (Le.refl _) (.cons (Le.refl _) .nil)))) (by exact trivial) rfl rfl rfl rfl
    ·replace h := ite_f hc4 h
     refine WC.skip (WQ.thenNormal (WC.seq (WC.order mixed ?_)))
     refine WR.run tbOk 1 (acc := []) rfl trivial ?_
     replace h := bnd h; obtain ⟨x22, hxx22, h⟩ := h
     refine WR.q [] rfl rfl rfl (q_idx tbOk rfl (by exact trivial) (by decide) (map_get (f := eStr) hxx22)) ?_
     refine WR.run tbOk 1 (acc := []) rfl trivial ?_
     replace h := bnd h; obtain ⟨v28, hvv28, h⟩ := h
     refine WR.call0 fn43 rfl rfl rfl rfl (by exact trivial) rfl (r08Num_con hw hvv28) ?_
     refine WR.run tbOk 1 (acc := []) rfl trivial ?_
     replace h := bnd h; obtain ⟨x23, hxx23, h⟩ := h
     refine WR.q [] rfl rfl rfl (q_idx tbOk rfl (by exact trivial) (by decide) (map_get (f := eStr) hxx23)) ?_
     refine WR.run tbOk 1 (acc := []) rfl trivial ?_
     replace h := bnd h; obtain ⟨v29, hvv29, h⟩ := h
     refine WR.call0 fn43 rfl rfl rfl rfl (by exact trivial) rfl (r08Num_con hw hvv29) ?_
     refine WR.run tbOk 1 (acc := []) rfl trivial ?_
     replace h := bnd h; obtain ⟨x24, hxx24, h⟩ := h
     refine WR.q [] rfl rfl rfl (q_idx tbOk rfl (by exact trivial) (by decide) (map_get (f := eStr) hxx24)) ?_
     refine WR.run tbOk 2 (acc := []) rfl trivial ?_
     replace h := bnd h; obtain ⟨x25, hxx25, h⟩ := h
     refine WR.q [] rfl rfl rfl (q_idx tbOk rfl (by exact trivial) (by decide) (map_get (f := eStr) hxx25)) ?_
     refine WR.run tbOk 1 (acc := []) rfl trivial ?_
     replace h := bnd h; obtain ⟨v30, hvv30, h⟩ := h
     refine WR.call0 fn18 rfl rfl rfl rfl (by exact trivial) rfl (r08Split_con hw hvv30) ?_
     refine WR.run tbOk 1 (acc := []) rfl trivial ?_
     replace h := bnd h; obtain ⟨x26, hxx26, h⟩ := h
     refine WR.q [] rfl rfl rfl (q_idx tbOk rfl (by exact trivial) (by decide) (map_get (f := eStr) hxx26)) ?_
     refine WR.run tbOk 1 (acc := []) rfl trivial ?_
     replace h := bnd h; obtain ⟨v31, hvv31, h⟩ := h
     refine WR.call0 fn43 rfl rfl rfl rfl (by exact trivial) rfl (r08Num_con hw hvv31) ?_
     refine WR.run tbOk 1 (acc := []) rfl trivial ?_
     replace h := bnd h; obtain ⟨x27, hxx27, h⟩ := h
     refine WR.q [] rfl rfl rfl (q_idx tbOk rfl (by exact trivial) (by decide) (map_get (f := eStr) hxx27)) ?_
     refine WR.run tbOk 1 (acc := []) rfl trivial ?_
     replace h := bnd h; obtain ⟨v32, hvv32, h⟩ := h
     refine WR.call0 fn43 rfl rfl rfl rfl (by exact trivial) rfl (r08Num_con hw hvv32) ?_
     refine WR.run tbOk 1 (acc := []) rfl trivial ?_
     replace h := bnd h; obtain ⟨x28, hxx28, h⟩ := h
     refine WR.q [] rfl rfl rfl (q_idx tbOk rfl (by exact trivial) (by decide) (map_get (f := eStr) hxx28)) ?_
     refine WR.run tbOk 1 (acc := []) rfl trivial ?_
     replace h := bnd h; obtain ⟨v33, hvv33, h⟩ := h
     refine WR.call0 fn43 rfl rfl rfl rfl (by exact trivial) rfl (r08Num_con hw hvv33) ?_
     refine WR.run tbOk 1 (acc := []) rfl trivial ?_
     replace h := bnd h; obtain ⟨x29, hxx29, h⟩ := h
     refine WR.q [] rfl rfl rfl (q_idx tbOk rfl (by exact trivial) (by decide) (map_get (f := eStr) hxx29)) ?_
     refine WR.run tbOk 1 (acc := []) rfl trivial ?_
     replace h := bnd h; obtain ⟨v34, hvv34, h⟩ := h
     refine WR.call0 fn43 rfl rfl rfl rfl (by exact trivial) rfl (r08Num_con hw hvv34) ?_
     refine WR.run tbOk 3 (acc := []) rfl trivial ?_
     refine WR.nil (by kernel_rfl) (WQ.thenNormal (WC.seq (WC.seq (WC.region ?_))))
     refine WL.run tbOk 1 (acc := []) rfl trivial ?_
     replace h := bnd h; obtain ⟨x30, hxx30, h⟩ := h
     refine WL.q [] rfl rfl rfl (q_idx tbOk rfl (by exact trivial) (by decide) (map_get (f := eStr) hxx30)) ?_
     refine WL.run tbOk 2 (acc := []) rfl trivial ?_
     refine WL.nil (WQ.thenNormal ?_)
     refine WC.thenCut (X := (List ApiMeasure) × (List Str)) (fun gG => ⟨[(9, .p 9 0), (8, .v (.sl 1 (v27.map eStr))), (7, .v (.int .i64 i2)), (6, .v (.sl 1 (v.map eStr))), (5, .r 1005)], [(1005, .row 34 15 (gG.1.map eApiMeasure)), (9, .blk 34 [.v (.int .i64 v28), .v (.int .i64 v29), .v (.str x24), .v (.sl 1 (gG.2.map eStr)), .v (.int .i64 v31), .v (.int .i64 v32), .v (.int .i64 v33), .v (.int .i64 v34), .v (.int .i64 0), .v (.int .i64 0), .v (.int .i64 0), .v (.bool false), .v (.int .i64 0), .v (.bool false), .v (.int .i64 0)])]⟩) (fun gG => refParse_j2 v i2 v27 v28 v29 x24 v31 v32 v33 v34 gG.1 gG.2 = some o1) ?_ ?_
     ·refine WC.cond rfl (fun hc6 => ?_) (fun hc6 => ?_)
      ·replace h := ite_t hc6 h
       refine WC.region ?_
       refine WL.run tbOk 2 (acc := []) rfl trivial ?_
       refine WL.nil ?_
       refine WQ.weakenO 9 (.blk 34 [.v (.int .i64 v28), .v (.int .i64 v29), .v (.str x24), .v (.sl 1 ([].map eStr)), .v (.int .i64 v31), .v (.int .i64 v32), .v (.int .i64 v33), .v (.int .i64 v34), .v (.int .i64 0), .v (.int .i64 0), .v (.int .i64 0), .v (.bool false), .v (.int .i64 0), .v (.bool false), .v (.int .i64 0)]) rfl (LeO.blk (.cons (Le.refl _) (.cons (Le.refl _) (.cons (Le.refl _) (.cons (Le.nil 1) (.cons (Le.refl _) (.cons (Le.refl _) (.cons (Le.refl _) (.cons (Le.refl _) (.cons (Le.refl _) (.cons (Le.refl _) (.cons (Le.refl _) (.cons (Le.refl _) (.cons (Le.refl _) (.cons (Le.refl _) (.cons (Le.refl _) .nil)))))))))))))))) rfl ?_
       exact WQ.cut [] (out2, []) ⟨(by exact ⟨rfl, rfl, rfl, rfl, rfl, trivial⟩), (by exact ⟨rfl, rfl, trivial⟩), rfl, rfl, rfl, rfl⟩ h
      ·replace h := ite_f hc6 h
       refine WC.skip ?_
       exact WQ.cut [] (out2, v30) ⟨(by exact ⟨rfl, rfl, rfl, rfl, rfl, trivial⟩), (by exact ⟨rfl, rfl, trivial⟩), rfl, rfl, rfl, rfl⟩ h
     ·rintro ⟨out5, c9_33⟩ h
      replace h : refParse_j2 v i2 v27 v28 v29 x24 v31 v32 v33 v34 out5 c9_33 = some _ := h
      unfold refParse_j2 at h
      show WC _ _ _ ⟨[(9, .p 9 0), (8, .v (.sl 1 (v27.map eStr))), (7, .v (.int .i64 i2)), (6, .v (.sl 1 (v.map eStr))), (5, .r 1005)], [(1005, .row 34 15 (out5.map eApiMeasure)), (9, .blk 34 [.v (.int .i64 v28), .v (.int .i64 v29), .v (.str x24), .v (.sl 1 (c9_33.map eStr)), .v (.int .i64 v31), .v (.int .i64 v32), .v (.int .i64 v33), .v (.int .i64 v34), .v (.int .i64 0), .v (.int .i64 0), .v (.int .i64 0), .v (.bool false), .v (.int .i64 0), .v (.bool false), .v (.int .i64 0)])]⟩ _ _
      refine WC.seq (WC.region ?_)
      refine WL.run tbOk 1 (acc := []) rfl trivial ?_
      obtain ⟨g3, h⟩ := grd h
      refine WL.q [] rfl rfl rfl (q_ev tbOk (.v (.sl 1 ((v27.drop (8 : Int).toNat).map eStr))) rfl (by repeat' (first | exact trivial | assumption | intro _ | apply And.intro | exact sideT | (refine and_i ?_ ?_))) (by exact tdT)) ?_
      replace h := bnd h; obtain ⟨v35, hvv35, h⟩ := h
      refine WL.call0 fn19 rfl rfl rfl rfl (by exact trivial) rfl (refJoined_con hw hvv35) ?_
      replace h := bnd h; obtain ⟨v36, hvv36, h⟩ := h
      refine WL.call0 fn44 rfl rfl rfl rfl (by exact trivial) rfl (refParseDuty_con hw hvv36) ?_
      refine WL.run tbOk 5 (acc := []) rfl trivial ?_
      refine WL.nil (WQ.thenNormal (WC.seq (WC.seq (WC.region ?_))))
      refine WL.run tbOk 1 (acc := []) rfl trivial ?_
      replace h := bnd h; obtain ⟨v37, hvv37, h⟩ := h
      refine WL.call0 fn34 rfl rfl rfl rfl (by exact trivial) rfl (refOne_con hw hvv37) ?_
      refine WL.run tbOk 5 (acc := []) rfl trivial ?_
      refine WL.nil (WQ.thenNormal (WC.seq (WC.order mixed ?_)))
      refine WR.run tbOk 4 (acc := []) rfl (by repeat' (first | exact trivial | assumption | intro _ | apply And.intro | exact sideT | (refine and_i ?_ ?_))) ?_
      replace h := bnd h; obtain ⟨v38, hvv38, h⟩ := h
      refine WR.gcall0 fn40 rfl rfl rfl rfl rfl (fun _ => (by repeat' (first | exact trivial | assumption | intro _ | apply And.intro | exact sideT | (refine and_i ?_ ?_)))) rfl (fun hg => (refLine_con hw (ite_t hg hvv38))) ?_
      refine WR.run tbOk 2 (acc := []) rfl (by repeat' (first | exact trivial | assumption | intro _ | apply And.intro | exact sideT | (refine and_i ?_ ?_))) ?_
      obtain ⟨g4, h⟩ := grd h
      refine WR.gq [] rfl rfl rfl rfl (fun hg => q_idx tbOk rfl (by repeat' (first | exact trivial | assumption | intro _ | apply And.intro | exact sideT | (refine and_i ?_ ?_))) (g4 hg).1 (map_getD (f := eStr) (g4 hg).2 (g4 hg).1)) ?_
      refine WR.run tbOk 3 (acc := []) rfl (by repeat' (first | exact trivial | assumption | intro _ | apply And.intro | exact sideT | (refine and_i ?_ ?_))) ?_
      refine WR.nil (by kernel_rfl) (WQ.thenNormal ?_)
      refine WC.cond rfl (fun hc5 => ?_) (fun hc5 => ?_)
      ·replace h := ite_t hc5 h
       refine WC.seq (WC.region ?_)
       refine WL.run tbOk 4 (acc := []) rfl trivial ?_
       refine WL.nil (WQ.thenNormal (WC.ret (WQ.thenRet (WQ.blockRet (WQ.thenRet ?_)))))
       cases h
       have he := he1 _ hf1
       subst he
       have h : some ([], i2, (4 : Int)) = some _ := hk1
       refine WQ.thenRet (WQ.blockRet (WQ.thenRet ?_))
       cases h
       exact WQ.rets tbOk (r := .tup [.v (.sl 15 ([].map eApiMeasure)), .v (.int .i64 i2), .v (.int .i64 (4 : Int))]) hR [] (.inl rfl) rfl rfl (Le.tup (.cons (Le.nil 15) (.cons (Le.refl _) (.cons (Le.refl _) .nil)))) (by exact trivial) rfl rfl rfl rfl
      ·replace h := ite_f hc5 h
       refine WC.skip (WQ.thenNormal (WC.region ?_))
       refine WL.run tbOk 3 (acc := []) rfl trivial ?_
       obtain ⟨g5, h⟩ := grd h
       refine WL.append tbOk ((out5 ++ [(⟨v28, v29, x24, c9_33, v31, v32, v33, v34, v36.1⟩ : ApiMeasure)]).map eApiMeasure) [114, 1005] ap22 rfl rfl rfl rfl (fun _ e => by cases e; rfl) (by exact trivial) (map_cells (f := eApiMeasure) (xs := [(⟨v28, v29, x24, c9_33, v31, v32, v33, v34, v36.1⟩ : ApiMeasure)]) fun _ => rfl) (by have := g5; simp only [List.length_map, List.length_nil, List.length_cons] at this ⊢; omega) rfl rfl (by simp only [List.map_append]; try rfl) rfl ?_
       refine WL.run tbOk 1 (acc := []) rfl trivial ?_
       refine WL.nil (WQ.blockNormal (WQ.thenNormal (WC.region ?_)))
       refine WL.run tbOk 3 (acc := []) rfl trivial ?_
       refine WL.nil ?_
       cases h
       exact WQ.next [(1005, 114)] ((IntKind.i64.wrap (i2 + (1 : Int))), (out5 ++ [(⟨v28, v29, x24, c9_33, v31, v32, v33, v34, v36.1⟩ : ApiMeasure)])) ⟨(by exact ⟨rfl, rfl, rfl, trivial⟩), (by exact ⟨rfl, trivial⟩), rfl, rfl, rfl, rfl⟩ (hn1 _ hf1)
  ·replace h := ite_f hc2 h
   refine WC.exit (WQ.thenExit ?_)
   cases h
   have he := he1 _ hf1
   subst he
   replace h := hk1
   try dsimp only at h
   refine WQ.thenExit (WQ.blockExit ?_)
   exact WQ.cut [] out2 ⟨(by exact ⟨rfl, trivial⟩), (by exact ⟨rfl, trivial⟩), rfl, rfl, rfl, rfl⟩ h
 ·intro out h
  replace h : refParse_j1 out = some _ := h
  unfold refParse_j1 at h
  show WC _ _ _ ⟨[(5, .r 1005)], [(1005, .row 34 15 (out.map eApiMeasure))]⟩ _ _
  refine WC.seq (WC.seq ?_)
  refine WC.publish 1005 rfl rfl ?_
  refine WC.region ?_
  refine WL.run tbOk 1 (acc := []) rfl trivial ?_
  replace h := bnd h; obtain ⟨v2, hvv2, h⟩ := h
  refine WL.call0 fn13 rfl rfl rfl rfl (by exact trivial) rfl (refMeasures_con hw hvv2) ?_
  refine WL.run tbOk 1 (acc := []) rfl trivial ?_
  refine WL.nil (WQ.thenNormal (WC.seq (WC.region ?_)))
  refine WL.run tbOk 2 (acc := []) rfl trivial ?_
  refine WL.nil (WQ.thenNormal ?_)
  refine WC.cond rfl (fun hc1 => ?_) (fun hc1 => ?_)
  ·replace h := ite_t hc1 h
   refine WC.seq (WC.region ?_)
   refine WL.run tbOk 4 (acc := []) rfl trivial ?_
   refine WL.nil (WQ.thenNormal (WC.ret (WQ.thenRet ?_)))
   cases h
   exact WQ.rets tbOk (r := .tup [.v (.sl 15 ([].map eApiMeasure)), .v (.int .i64 (0 : Int)), .v (.int .i64 v2)]) hR [] (.inl rfl) rfl rfl (Le.tup (.cons (Le.nil 15) (.cons (Le.refl _) (.cons (Le.refl _) .nil)))) (by exact trivial) rfl rfl rfl rfl
  ·replace h := ite_f hc1 h
   refine WC.skip (WQ.thenNormal (WC.seq (WC.region ?_)))
   refine WL.run tbOk 2 (acc := []) rfl trivial ?_
   refine WL.q [] rfl rfl rfl (q_ev tbOk (.v (.int .i64 (out.length : Int))) rfl (by exact trivial) (by exact lenT)) ?_
   refine WL.run tbOk 3 (acc := []) rfl trivial ?_
   refine WL.nil (WQ.thenNormal (WC.ret ?_))
   cases h
   exact WQ.rets tbOk (r := .tup [.v (.sl 15 (out.map eApiMeasure)), .v (.int .i64 (out.length : Int)), .v (.int .i64 (0 : Int))]) hR [] (.inl rfl) rfl rfl (Le.tup (.cons (Le.refl _) (.cons (Le.refl _) (.cons (Le.refl _) .nil)))) (by exact trivial) rfl rfl rfl rfl

theorem lawParse_con {wg : World} (hw : WG wg) {s : Str} {l : (List Int)} {at_ : (List Int)} {by_ : (List Int)} {from_ : Int} {to_ : Int} {r : Bool} (h : lawParse s l at_ by_ from_ to_ = some r) : Con Tryz.prog wg gl 5 [.v (.str s), .v (.sl 1 (l.map eInt_i64)), .v (.sl 1 (at_.map eInt_i64)), .v (.sl 1 (by_.map eInt_u8)), .v (.int .i64 from_), .v (.int .i64 to_)] [] (.v (.bool r)) [] := by
 unfold lawParse at h
 refine con_of_WC (S := slotsOf 0 _) Tryz.func5 rfl Tryz.ntmps5 rfl (fun t x hx => (slotsOf_get hx).2) ?_
 intro F L w ρ0 R hR
 show WC _ _ _ ⟨[(0, .v (.str s)), (1, .v (.sl 1 (l.map eInt_i64))), (2, .v (.sl 1 (at_.map eInt_i64))), (3, .v (.sl 1 (by_.map eInt_u8))), (4, .v (.int .i64 from_)), (5, .v (.int .i64 to_))], []⟩ _ _
 refine WC.seq (WC.region ?_)
 refine WL.run tbOk 1 (acc := []) rfl trivial ?_
 refine WL.nil (WQ.thenNormal (WC.seq (WC.seq (WC.region ?_))))
 refine WL.run tbOk 3 (acc := []) rfl trivial ?_
 refine WL.nil (WQ.thenNormal ?_)
 refine WC.thenCut (X := Str) (fun gG => ⟨[(0, .v (.str gG)), (1, .v (.sl 1 (l.map eInt_i64))), (2, .v (.sl 1 (at_.map eInt_i64))), (3, .v (.sl 1 (by_.map eInt_u8))), (4, .v (.int .i64 from_)), (5, .v (.int .i64 to_))], []⟩) (fun gG => lawParse_j1 l at_ by_ from_ to_ gG = some r) ?_ ?_
 ·refine WC.cond rfl (fun hc3 => ?_) (fun hc3 => ?_)
  ·replace h := ite_t hc3 h
   refine WC.region ?_
   obtain ⟨g9, h⟩ := grd h
   refine WL.run tbOk 3 (acc := []) rfl (by repeat' (first | exact trivial | assumption | intro _ | exact g9 (by assumption) | apply And.intro | exact sideT | (refine and_i ?_ ?_))) ?_
   refine WL.nil ?_
   exact WQ.cut [] ((s.take (300 : Int).toNat).drop (0 : Int).toNat) ⟨(by exact ⟨rfl, rfl, rfl, rfl, rfl, rfl, trivial⟩), (by exact trivial), rfl, rfl, rfl, rfl⟩ h
  ·replace h := ite_f hc3 h
   refine WC.skip ?_
   exact WQ.cut [] s ⟨(by exact ⟨rfl, rfl, rfl, rfl, rfl, rfl, trivial⟩), (by exact trivial), rfl, rfl, rfl, rfl⟩ h
 ·intro s2 h
  replace h : lawParse_j1 l at_ by_ from_ to_ s2 = some _ := h
  unfold lawParse_j1 at h
  show WC _ _ _ ⟨[(0, .v (.str s2)), (1, .v (.sl 1 (l.map eInt_i64))), (2, .v (.sl 1 (at_.map eInt_i64))), (3, .v (.sl 1 (by_.map eInt_u8))), (4, .v (.int .i64 from_)), (5, .v (.int .i64 to_))], []⟩ _ _
  refine WC.seq (WC.region ?_)
  refine WL.run tbOk 1 (acc := []) rfl trivial ?_
  replace h := bnd h; obtain ⟨v, hvv, h⟩ := h
  refine WL.call0 fn14 rfl rfl rfl rfl (by exact trivial) rfl (madeMeasures_con hw hvv) ?_
  replace h := bnd h; obtain ⟨v2, hvv2, h⟩ := h
  refine WL.call0 fn17 rfl rfl rfl rfl (by exact trivial) rfl (refFormat_con hw hvv2) ?_
  obtain ⟨g1, h⟩ := grd h
  refine WL.bytes tbOk ((intsB v2).map eInt_u8) ap37 Tryz.underlying5 rfl rfl rfl rfl (by exact trivial) g1 rfl (by simp only [intsB, List.map_map]; rfl) ?_
  refine WL.run tbOk 1 (acc := []) rfl trivial ?_
  refine WL.nil (WQ.thenNormal (WC.seq (WC.seq (WC.region ?_))))
  refine WL.run tbOk 1 (acc := []) rfl trivial ?_
  refine WL.nil (WQ.thenNormal ?_)
  refine WC.thenCut (X := (List Int)) (fun gG => ⟨[(13, .r 1013), (0, .v (.str s2)), (4, .v (.int .i64 from_)), (5, .v (.int .i64 to_))], [(1013, .row 5 1 (gG.map eInt_u8))]⟩) (fun gG => lawParse_j2 from_ to_ s2 gG = some r) ?_ ?_
  ·refine WC.block ?_
   obtain ⟨eQ1, hl1, hk1⟩ := bnd h
   clear h
   refine WC.loop (σ := Int × (List Int)) (τ := ((List Int))) (fun sS => ⟨[(14, .v (.int .i64 sS.1)), (13, .r 1013), (0, .v (.str s2)), (2, .v (.sl 1 (at_.map eInt_i64))), (3, .v (.sl 1 (by_.map eInt_u8))), (4, .v (.int .i64 from_)), (5, .v (.int .i64 to_))], [(1013, .row 5 1 (sS.2.map eInt_u8))]⟩) (lawParse_b1 at_ by_ from_ to_ s2) [(1013, 39)] ((0 : Int), (intsB v2)) hl1 ⟨(by exact ⟨rfl, rfl, rfl, rfl, rfl, rfl, rfl, trivial⟩), (by exact ⟨rfl, trivial⟩), rfl, rfl, rfl, rfl⟩ ?_
   rintro ⟨i, b2⟩ m hn1 he1 hx1
   obtain ⟨o1, hf1⟩ := some_of hx1
   have h := hf1
   unfold lawParse_b1 at h
   show WC _ _ _ ⟨[(14, .v (.int .i64 i)), (13, .r 1013), (0, .v (.str s2)), (2, .v (.sl 1 (at_.map eInt_i64))), (3, .v (.sl 1 (by_.map eInt_u8))), (4, .v (.int .i64 from_)), (5, .v (.int .i64 to_))], [(1013, .row 5 1 (b2.map eInt_u8))]⟩ _ _
   refine WC.seq (WC.seq (WC.region ?_))
   refine WL.run tbOk 2 (acc := []) rfl trivial ?_
   refine WL.q [] rfl rfl rfl (q_ev tbOk (.v (.int .i64 (at_.length : Int))) rfl (by exact trivial) (by exact lenT)) ?_
   refine WL.run tbOk 4 (acc := []) rfl (by repeat' (first | exact trivial | assumption | intro _ | apply And.intro | exact sideT | (refine and_i ?_ ?_))) ?_
   refine WL.gq [] rfl rfl rfl rfl (fun hg => q_ev tbOk (.v (.int .i64 (by_.length : Int))) rfl (by repeat' (first | exact trivial | assumption | intro _ | apply And.intro | exact sideT | (refine and_i ?_ ?_))) (by exact lenT)) ?_
   refine WL.run tbOk 8 (acc := []) rfl (by repeat' (first | exact trivial | assumption | intro _ | apply And.intro | exact sideT | (refine and_i ?_ ?_))) ?_
   refine WL.gq [1013] rfl rfl rfl rfl (fun hg => q_ev tbOk (.v (.int .i64 (b2.length : Int))) rfl (by repeat' (first | exact trivial | assumption | intro _ | apply And.intro | exact sideT | (refine and_i ?_ ?_))) (by exact lenT)) ?_
   refine WL.run tbOk 2 (acc := []) rfl (by repeat' (first | exact trivial | assumption | intro _ | apply And.intro | exact sideT | (refine and_i ?_ ?_))) ?_
   refine WL.nil (WQ.thenNormal ?_)
   refine WC.cond rfl (fun hc2 => ?_) (fun hc2 => ?_)
   ·replace h := ite_t hc2 h
    refine WC.skip (WQ.thenNormal (WC.seq (WC.block (WC.order mixed ?_))))
    refine WR.run tbOk 3 (acc := []) rfl trivial ?_
    obtain ⟨g6, h⟩ := grd h
    replace h := bnd h; obtain ⟨x3, hxx3, h⟩ := h
    refine WR.q [] rfl rfl rfl (q_idx tbOk rfl (by exact trivial) g6 (map_get (f := eInt_i64) hxx3)) ?_
    refine WR.run tbOk 2 (acc := []) rfl trivial ?_
    refine WR.q [1013] rfl rfl rfl (q_ev tbOk (.v (.int .i64 (b2.length : Int))) rfl (by exact trivial) (by exact lenT)) ?_
    replace h := bnd h; obtain ⟨v15, hvv15, h⟩ := h
    refine WR.call0 fn16 rfl rfl rfl rfl (by exact trivial) rfl (within_con hw hvv15) ?_
    refine WR.run tbOk 2 (acc := []) rfl trivial ?_
    obtain ⟨g7, h⟩ := grd h
    replace h := bnd h; obtain ⟨x4, hxx4, h⟩ := h
    refine WR.q [] rfl rfl rfl (q_idx tbOk rfl (by exact trivial) g7 (map_get (f := eInt_u8) hxx4)) ?_
    refine WR.run tbOk 1 (acc := []) rfl trivial ?_
    obtain ⟨g8, h⟩ := grd h
    refine WR.q [1013] rfl rfl rfl (q_ridx tbOk rfl (by exact trivial) rfl (by simpa only [List.length_map] using g8)) ?_
    refine WR.rstore tbOk ((b2.set v15.toNat x4).map eInt_u8) rfl rfl rfl (by exact trivial) rfl (map_getD (f := eInt_u8) g8.2 g8.1) rfl (mapset (f := eInt_u8) (x := x4) (by rfl)) ?_
    refine WR.nil (by kernel_rfl) (WQ.blockNormal (WQ.thenNormal (WC.region ?_)))
    refine WL.run tbOk 3 (acc := []) rfl trivial ?_
    refine WL.nil ?_
    cases h
    exact WQ.next [] ((IntKind.i64.wrap (i + (1 : Int))), (b2.set v15.toNat x4)) ⟨(by exact ⟨rfl, rfl, rfl, rfl, rfl, rfl, rfl, trivial⟩), (by exact ⟨rfl, trivial⟩), rfl, rfl, rfl, rfl⟩ (hn1 _ hf1)
   ·replace h := ite_f hc2 h
    refine WC.exit (WQ.thenExit ?_)
    cases h
    have he := he1 _ hf1
    subst he
    replace h := hk1
    try dsimp only at h
    refine WQ.thenExit (WQ.blockExit ?_)
    exact WQ.cut [] b2 ⟨(by exact ⟨rfl, rfl, rfl, rfl, trivial⟩), (by exact ⟨rfl, trivial⟩), rfl, rfl, rfl, rfl⟩ h
  ·intro b h
   replace h : lawParse_j2 from_ to_ s2 b = some _ := h
   unfold lawParse_j2 at h
   show WC _ _ _ ⟨[(13, .r 1013), (0, .v (.str s2)), (4, .v (.int .i64 from_)), (5, .v (.int .i64 to_))], [(1013, .row 5 1 (b.map eInt_u8))]⟩ _ _
   refine WC.seq ?_
   refine WC.publish 1013 rfl rfl ?_
   refine WC.region ?_
   refine WL.run tbOk 1 (acc := []) rfl trivial ?_
   refine WL.q [] rfl rfl rfl (q_b2s tbOk (xs := b) by37 rfl (by exact trivial)) ?_
   replace h := bnd h; obtain ⟨v3, hvv3, h⟩ := h
   refine WL.callO [] [(500, 76)] [76] fn18 rfl rfl rfl rfl (by exact trivial) (r08SplitR_con hw hvv3) rfl rfl (by exact trivial) rfl rfl rfl rfl rfl rfl ?_
   refine WL.run tbOk 1 (acc := []) rfl trivial ?_
   refine WL.nil (WQ.thenNormal (WC.seq (WC.region ?_)))
   refine WL.run tbOk 2 (acc := []) rfl trivial ?_
   refine WL.q [76] rfl rfl rfl (q_ev tbOk (.v (.int .i64 (v3.length : Int))) rfl (by exact trivial) (by exact lenT)) ?_
   replace h := bnd h; obtain ⟨v4, hvv4, h⟩ := h
   refine WL.call0 fn16 rfl rfl rfl rfl (by exact trivial) rfl (within_con hw hvv4) ?_
   refine WL.run tbOk 2 (acc := []) rfl trivial ?_
   refine WL.q [76] rfl rfl rfl (q_ev tbOk (.v (.int .i64 (v3.length : Int))) rfl (by exact trivial) (by exact lenT)) ?_
   replace h := bnd h; obtain ⟨v5, hvv5, h⟩ := h
   refine WL.call0 fn16 rfl rfl rfl rfl (by exact trivial) rfl (within_con hw hvv5) ?_
   refine WL.run tbOk 2 (acc := []) rfl trivial ?_
   refine WL.nil (WQ.thenNormal (WC.seq (WC.seq (WC.region ?_))))
   refine WL.run tbOk 3 (acc := []) rfl trivial ?_
   refine WL.nil (WQ.thenNormal ?_)
   refine WC.thenCut (X := (List Str)) (fun gG => ⟨[(15, .r 1015), (0, .v (.str s2))], [(1015, .row 9 1 (gG.map eStr))]⟩) (fun gG => lawParse_j3 s2 gG = some r) ?_ ?_
   ·refine WC.cond rfl (fun hc1 => ?_) (fun hc1 => ?_)
    ·replace h := ite_t hc1 h
     refine WC.order mixed ?_
     refine WR.run tbOk 6 (acc := []) rfl trivial ?_
     obtain ⟨g2, h⟩ := grd h
     refine WR.q [76] rfl rfl rfl (q_ridx tbOk rfl (by exact trivial) rfl (by simpa only [List.length_map] using g2)) ?_
     refine WR.q [76] rfl rfl rfl (x := .v (.str (v3.getD v5.toNat default))) (q_rload tbOk rfl (by exact trivial) rfl (map_getD (f := eStr) g2.2 g2.1) rfl) ?_
     refine WR.run tbOk 2 (acc := []) rfl trivial ?_
     obtain ⟨g3, h⟩ := grd h
     refine WR.q [76] rfl rfl rfl (q_ridx tbOk rfl (by exact trivial) rfl (by simpa only [List.length_map] using g3)) ?_
     refine WR.q [76] rfl rfl rfl (x := .v (.str (v3.getD v4.toNat default))) (q_rload tbOk rfl (by exact trivial) rfl (map_getD (f := eStr) g3.2 g3.1) rfl) ?_
     obtain ⟨g4, h⟩ := grd h
     refine WR.q [76] rfl rfl rfl (q_ridx tbOk rfl (by exact trivial) rfl (by simpa only [List.length_map] using g4)) ?_
     refine WR.rstore tbOk ((v3.set v4.toNat (v3.getD v5.toNat default)).map eStr) rfl rfl rfl (by exact trivial) rfl (map_getD (f := eStr) g4.2 g4.1) rfl (mapset (f := eStr) (x := (v3.getD v5.toNat default)) (by rfl)) ?_
     obtain ⟨g5, h⟩ := grd h
     refine WR.q [76] rfl rfl rfl (q_ridx tbOk rfl (by exact trivial) rfl (by simpa only [List.length_map] using g5)) ?_
     refine WR.rstore tbOk (((v3.set v4.toNat (v3.getD v5.toNat default)).set v5.toNat (v3.getD v4.toNat default)).map eStr) rfl rfl rfl (by exact trivial) rfl (map_getD (f := eStr) g5.2 g5.1) rfl (mapset (f := eStr) (x := (v3.getD v4.toNat default)) (by rfl)) ?_
     refine WR.nil (by kernel_rfl) ?_
     exact WQ.cut [(1015, 76)] ((v3.set v4.toNat (v3.getD v5.toNat default)).set v5.toNat (v3.getD v4.toNat default)) ⟨(by exact ⟨rfl, rfl, trivial⟩), (by exact ⟨rfl, trivial⟩), rfl, rfl, rfl, rfl⟩ h
    ·replace h := ite_f hc1 h
     refine WC.skip ?_
     exact WQ.cut [(1015, 76)] v3 ⟨(by exact ⟨rfl, rfl, trivial⟩), (by exact ⟨rfl, trivial⟩), rfl, rfl, rfl, rfl⟩ h
   ·intro lines h
    replace h : lawParse_j3 s2 lines = some _ := h
    unfold lawParse_j3 at h
    show WC _ _ _ ⟨[(15, .r 1015), (0, .v (.str s2))], [(1015, .row 9 1 (lines.map eStr))]⟩ _ _
    refine WC.seq ?_
    refine WC.publish 1015 rfl rfl ?_
    refine WC.region ?_
    refine WL.run tbOk 1 (acc := []) rfl trivial ?_
    replace h := bnd h; obtain ⟨v6, hvv6, h⟩ := h
    refine WL.call0 fn19 rfl rfl rfl rfl (by exact trivial) rfl (refJoined_con hw hvv6) ?_
    refine WL.run tbOk 1 (acc := []) rfl trivial ?_
    refine WL.nil (WQ.thenNormal (WC.seq (WC.region ?_)))
    refine WL.run tbOk 1 (acc := []) rfl trivial ?_
    replace h := bnd h; obtain ⟨v7, hvv7, h⟩ := h
    refine WL.call0 fn20 rfl rfl rfl rfl (by exact trivial) rfl (meParse_con hw hvv7) ?_
    refine WL.run tbOk 7 (acc := []) rfl trivial ?_
    refine WL.nil (WQ.thenNormal (WC.seq (WC.region ?_)))
    refine WL.run tbOk 1 (acc := []) rfl trivial ?_
    replace h := bnd h; obtain ⟨v8, hvv8, h⟩ := h
    refine WL.call0 fn21 rfl rfl rfl rfl (by exact trivial) rfl (refParse_con hw hvv8) ?_
    refine WL.run tbOk 7 (acc := []) rfl trivial ?_
    refine WL.nil (WQ.thenNormal (WC.seq (WC.region ?_)))
    refine WL.run tbOk 1 (acc := []) rfl trivial ?_
    replace h := bnd h; obtain ⟨v9, hvv9, h⟩ := h
    refine WL.call0 fn20 rfl rfl rfl rfl (by exact trivial) rfl (meParse_con hw hvv9) ?_
    refine WL.run tbOk 7 (acc := []) rfl trivial ?_
    refine WL.nil (WQ.thenNormal (WC.seq (WC.region ?_)))
    refine WL.run tbOk 1 (acc := []) rfl trivial ?_
    replace h := bnd h; obtain ⟨v10, hvv10, h⟩ := h
    refine WL.call0 fn21 rfl rfl rfl rfl (by exact trivial) rfl (refParse_con hw hvv10) ?_
    refine WL.run tbOk 7 (acc := []) rfl trivial ?_
    refine WL.nil (WQ.thenNormal (WC.seq (WC.region ?_)))
    refine WL.run tbOk 11 (acc := []) rfl (by repeat' (first | exact trivial | assumption | intro _ | apply And.intro | exact sideT | (refine and_i ?_ ?_))) ?_
    replace h := bnd h; obtain ⟨v11, hvv11, h⟩ := h
    refine WL.gcall0 fn22 rfl rfl rfl rfl rfl (fun _ => (by repeat' (first | exact trivial | assumption | intro _ | apply And.intro | exact sideT | (refine and_i ?_ ?_)))) rfl (fun hg => (sameMeasures_con hw (ite_t hg hvv11))) ?_
    refine WL.run tbOk 14 (acc := []) rfl (by repeat' (first | exact trivial | assumption | intro _ | apply And.intro | exact sideT | (refine and_i ?_ ?_))) ?_
    replace h := bnd h; obtain ⟨v12, hvv12, h⟩ := h
    refine WL.gcall0 fn22 rfl rfl rfl rfl rfl (fun _ => (by repeat' (first | exact trivial | assumption | intro _ | apply And.intro | exact sideT | (refine and_i ?_ ?_)))) rfl (fun hg => (sameMeasures_con hw (ite_t hg hvv12))) ?_
    refine WL.run tbOk 2 (acc := []) rfl (by repeat' (first | exact trivial | assumption | intro _ | apply And.intro | exact sideT | (refine and_i ?_ ?_))) ?_
    replace h := bnd h; obtain ⟨v13, hvv13, h⟩ := h
    refine WL.gcall0 fn15 rfl rfl rfl rfl rfl (fun _ => (by repeat' (first | exact trivial | assumption | intro _ | apply And.intro | exact sideT | (refine and_i ?_ ?_)))) rfl (fun hg => (awake19_con hw (ite_t hg hvv13))) ?_
    refine WL.run tbOk 2 (acc := []) rfl (by repeat' (first | exact trivial | assumption | intro _ | apply And.intro | exact sideT | (refine and_i ?_ ?_))) ?_
    refine WL.nil (WQ.thenNormal (WC.ret ?_))
    cases h
    exact WQ.rets tbOk hR [] (.inl rfl) rfl rfl (Le.refl _) (by exact trivial) rfl rfl rfl rfl

end Go.Proofs.YtbilobjddflpeaaGreatDoor
