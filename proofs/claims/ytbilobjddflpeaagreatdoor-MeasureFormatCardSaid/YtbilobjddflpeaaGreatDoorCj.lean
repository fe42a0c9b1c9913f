/- Contracts: the program's functions compute the plain ones; by program (gen.py). -/
import Derived.Test.YtbilobjddflpeaaGreatDoorLib
import Derived.Test.YtbilobjddflpeaaGreatDoorPj
import Derived.Test.YtbilobjddflpeaaGreatDoorCa
import Derived.Test.YtbilobjddflpeaaGreatDoorCb
import Derived.Test.YtbilobjddflpeaaGreatDoorCc
import Derived.Test.YtbilobjddflpeaaGreatDoorCd
import Derived.Test.YtbilobjddflpeaaGreatDoorCe
import Derived.Test.YtbilobjddflpeaaGreatDoorCf
import Derived.Test.YtbilobjddflpeaaGreatDoorCg
set_option linter.unusedVariables false
set_option linter.unusedSimpArgs false
set_option maxHeartbeats 4000000
set_option maxRecDepth 20000
namespace Go.Proofs.YtbilobjddflpeaaGreatDoor
open Go.V Go.C

theorem refLine_con {wg : World} (hw : WG wg) {m1 : ApiMeasure} {r : Str} (h : refLine m1 = some r) : Con Tryz.prog wg gl 40 [.v (.agg [.int .i64 m1.ID, .int .i64 m1.Kind, .str m1.Prefix, .sl 1 (m1.Origins.map eStr), .int .i64 m1.Company, .int .i64 m1.From, .int .i64 m1.To, .int .i64 m1.Registered, .int .i64 m1.Duty.Rate, .int .i64 m1.Duty.Amount, .int .i64 m1.Duty.Per, .bool m1.Duty.HasMost, .int .i64 m1.Duty.Most, .bool m1.Duty.HasLeast, .int .i64 m1.Duty.Least])] [] (.v (.str r)) [] := by
 unfold refLine at h
 refine con_of_WC (S := slotsOf 0 _) Tryz.func40 rfl Tryz.ntmps40 rfl (fun t x hx => (slotsOf_get hx).2) ?_
 intro F L w ρ0 R hR
 show WC _ _ _ ⟨[(0, .v (.agg [.int .i64 m1.ID, .int .i64 m1.Kind, .str m1.Prefix, .sl 1 (m1.Origins.map eStr), .int .i64 m1.Company, .int .i64 m1.From, .int .i64 m1.To, .int .i64 m1.Registered, .int .i64 m1.Duty.Rate, .int .i64 m1.Duty.Amount, .int .i64 m1.Duty.Per, .bool m1.Duty.HasMost, .int .i64 m1.Duty.Most, .bool m1.Duty.HasLeast, .int .i64 m1.Duty.Least]))], []⟩ _ _
 refine WC.seq (WC.region ?_)
 refine lr 2 rfl trivial ?_
 refine WL.nil (WQ.thenNormal (WC.seq (WC.order mixed ?_)))
 refine wr 2 rfl trivial ?_
 replace h := bnd h; obtain ⟨v, hvv, h⟩ := h
 refine WR.call0 fn63 rfl rfl rfl rfl (by exact trivial) rfl (r02Digits_con hw hvv) ?_
 obtain ⟨g1, h⟩ := grd h
 refine wr 3 rfl (by repeat' (first | exact trivial | assumption | intro _ | exact g1 (by assumption) | apply And.intro | exact sideT | (refine and_i ?_ ?_))) ?_
 replace h := bnd h; obtain ⟨v2, hvv2, h⟩ := h
 refine WR.call0 fn63 rfl rfl rfl rfl (by exact trivial) rfl (r02Digits_con hw hvv2) ?_
 obtain ⟨g2, h⟩ := grd h
 obtain ⟨g3, h⟩ := grd h
 obtain ⟨g4, h⟩ := grd h
 obtain ⟨g5, h⟩ := grd h
 refine wr 7 rfl (by repeat' (first | exact trivial | assumption | intro _ | exact g2 (by assumption) | exact g3 (by assumption) | exact g4 (by assumption) | exact g5 (by assumption) | apply And.intro | exact sideT | (refine and_i ?_ ?_))) ?_
 refine WR.nil (by kernel_rfl) (WQ.thenNormal (WC.seq (WC.seq (WC.region ?_))))
 refine lr 2 rfl trivial ?_
 refine WL.q [] rfl rfl rfl (q_ev tbOk (.v (.int .i64 (m1.Origins.length : Int))) rfl (by exact trivial) (by exact lenT)) ?_
 refine lr 1 rfl trivial ?_
 refine WL.nil (WQ.thenNormal ?_)
 refine WC.thenCut (X := Str) (fun gG => ⟨[(3, .v (.str gG)), (1, .p 1 0)], [(1, .blk 34 [.v (.int .i64 m1.ID), .v (.int .i64 m1.Kind), .v (.str m1.Prefix), .v (.sl 1 (m1.Origins.map eStr)), .v (.int .i64 m1.Company), .v (.int .i64 m1.From), .v (.int .i64 m1.To), .v (.int .i64 m1.Registered), .v (.int .i64 m1.Duty.Rate), .v (.int .i64 m1.Duty.Amount), .v (.int .i64 m1.Duty.Per), .v (.bool m1.Duty.HasMost), .v (.int .i64 m1.Duty.Most), .v (.bool m1.Duty.HasLeast), .v (.int .i64 m1.Duty.Least)])]⟩) (fun gG => refLine_j1 m1 gG = some r) ?_ ?_
 ·refine WC.cond rfl (fun hc2 => ?_) (fun hc2 => ?_)
  ·replace h := ite_t hc2 h
   refine WC.region ?_
   obtain ⟨g18, h⟩ := grd h
   refine lr 3 rfl (by repeat' (first | exact trivial | assumption | intro _ | exact g18 (by assumption) | apply And.intro | exact sideT | (refine and_i ?_ ?_))) ?_
   refine WL.nil ?_
   exact WQ.cut [] ((((((v ++ ([32] : Str)) ++ v2) ++ ([32] : Str)) ++ m1.Prefix) ++ ([32] : Str)) ++ ([42] : Str)) ⟨(by exact ⟨rfl, rfl, trivial⟩), (by exact ⟨rfl, trivial⟩), rfl, rfl, rfl, rfl⟩ h
  ·replace h := ite_f hc2 h
   refine WC.skip ?_
   exact WQ.cut [] (((((v ++ ([32] : Str)) ++ v2) ++ ([32] : Str)) ++ m1.Prefix) ++ ([32] : Str)) ⟨(by exact ⟨rfl, rfl, trivial⟩), (by exact ⟨rfl, trivial⟩), rfl, rfl, rfl, rfl⟩ h
 ·intro s h
  replace h : refLine_j1 m1 s = some _ := h
  unfold refLine_j1 at h
  show WC _ _ _ ⟨[(3, .v (.str s)), (1, .p 1 0)], [(1, .blk 34 [.v (.int .i64 m1.ID), .v (.int .i64 m1.Kind), .v (.str m1.Prefix), .v (.sl 1 (m1.Origins.map eStr)), .v (.int .i64 m1.Company), .v (.int .i64 m1.From), .v (.int .i64 m1.To), .v (.int .i64 m1.Registered), .v (.int .i64 m1.Duty.Rate), .v (.int .i64 m1.Duty.Amount), .v (.int .i64 m1.Duty.Per), .v (.bool m1.Duty.HasMost), .v (.int .i64 m1.Duty.Most), .v (.bool m1.Duty.HasLeast), .v (.int .i64 m1.Duty.Least)])]⟩ _ _
  refine WC.seq (WC.order mixed ?_)
  refine wr 3 rfl trivial ?_
  replace h := bnd h; obtain ⟨v3, hvv3, h⟩ := h
  refine WR.call0 fn19 rfl rfl rfl rfl (by exact trivial) rfl (refJoined_con hw hvv3) ?_
  obtain ⟨g6, h⟩ := grd h
  obtain ⟨g7, h⟩ := grd h
  refine wr 4 rfl (by repeat' (first | exact trivial | assumption | intro _ | exact g6 (by assumption) | exact g7 (by assumption) | apply And.intro | exact sideT | (refine and_i ?_ ?_))) ?_
  replace h := bnd h; obtain ⟨v4, hvv4, h⟩ := h
  refine WR.call0 fn63 rfl rfl rfl rfl (by exact trivial) rfl (r02Digits_con hw hvv4) ?_
  obtain ⟨g8, h⟩ := grd h
  obtain ⟨g9, h⟩ := grd h
  refine wr 4 rfl (by repeat' (first | exact trivial | assumption | intro _ | exact g8 (by assumption) | exact g9 (by assumption) | apply And.intro | exact sideT | (refine and_i ?_ ?_))) ?_
  replace h := bnd h; obtain ⟨v5, hvv5, h⟩ := h
  refine WR.call0 fn63 rfl rfl rfl rfl (by exact trivial) rfl (r02Digits_con hw hvv5) ?_
  obtain ⟨g10, h⟩ := grd h
  obtain ⟨g11, h⟩ := grd h
  refine wr 4 rfl (by repeat' (first | exact trivial | assumption | intro _ | exact g10 (by assumption) | exact g11 (by assumption) | apply And.intro | exact sideT | (refine and_i ?_ ?_))) ?_
  replace h := bnd h; obtain ⟨v6, hvv6, h⟩ := h
  refine WR.call0 fn63 rfl rfl rfl rfl (by exact trivial) rfl (r02Digits_con hw hvv6) ?_
  obtain ⟨g12, h⟩ := grd h
  obtain ⟨g13, h⟩ := grd h
  refine wr 3 rfl (by repeat' (first | exact trivial | assumption | intro _ | exact g12 (by assumption) | exact g13 (by assumption) | apply And.intro | exact sideT | (refine and_i ?_ ?_))) ?_
  refine WR.nil (by kernel_rfl) (WQ.thenNormal (WC.seq (WC.seq (WC.region ?_))))
  refine lr 3 rfl trivial ?_
  refine WL.nil (WQ.thenNormal ?_)
  refine WC.thenCut (X := Str) (fun gG => ⟨[(3, .v (.str gG)), (1, .p 1 0)], [(1, .blk 34 [.v (.int .i64 m1.ID), .v (.int .i64 m1.Kind), .v (.str m1.Prefix), .v (.sl 1 (m1.Origins.map eStr)), .v (.int .i64 m1.Company), .v (.int .i64 m1.From), .v (.int .i64 m1.To), .v (.int .i64 m1.Registered), .v (.int .i64 m1.Duty.Rate), .v (.int .i64 m1.Duty.Amount), .v (.int .i64 m1.Duty.Per), .v (.bool m1.Duty.HasMost), .v (.int .i64 m1.Duty.Most), .v (.bool m1.Duty.HasLeast), .v (.int .i64 m1.Duty.Least)])]⟩) (fun gG => refLine_j2 m1 gG = some r) ?_ ?_
  ·refine WC.cond rfl (fun hc1 => ?_) (fun hc1 => ?_)
   ·replace h := ite_t hc1 h
    refine WC.region ?_
    obtain ⟨g16, h⟩ := grd h
    refine lr 3 rfl (by repeat' (first | exact trivial | assumption | intro _ | exact g16 (by assumption) | apply And.intro | exact sideT | (refine and_i ?_ ?_))) ?_
    refine WL.nil ?_
    exact WQ.cut [] (((((((((s ++ v3) ++ ([32] : Str)) ++ v4) ++ ([32] : Str)) ++ v5) ++ ([32] : Str)) ++ v6) ++ ([32] : Str)) ++ ([45] : Str)) ⟨(by exact ⟨rfl, rfl, trivial⟩), (by exact ⟨rfl, trivial⟩), rfl, rfl, rfl, rfl⟩ h
   ·replace h := ite_f hc1 h
    refine WC.region ?_
    refine lr 3 rfl trivial ?_
    replace h := bnd h; obtain ⟨v8, hvv8, h⟩ := h
    refine WL.call0 fn63 rfl rfl rfl rfl (by exact trivial) rfl (r02Digits_con hw hvv8) ?_
    obtain ⟨g17, h⟩ := grd h
    refine lr 2 rfl (by repeat' (first | exact trivial | assumption | intro _ | exact g17 (by assumption) | apply And.intro | exact sideT | (refine and_i ?_ ?_))) ?_
    refine WL.nil ?_
    exact WQ.cut [] (((((((((s ++ v3) ++ ([32] : Str)) ++ v4) ++ ([32] : Str)) ++ v5) ++ ([32] : Str)) ++ v6) ++ ([32] : Str)) ++ v8) ⟨(by exact ⟨rfl, rfl, trivial⟩), (by exact ⟨rfl, trivial⟩), rfl, rfl, rfl, rfl⟩ h
  ·intro s2 h
   replace h : refLine_j2 m1 s2 = some _ := h
   unfold refLine_j2 at h
   show WC _ _ _ ⟨[(3, .v (.str s2)), (1, .p 1 0)], [(1, .blk 34 [.v (.int .i64 m1.ID), .v (.int .i64 m1.Kind), .v (.str m1.Prefix), .v (.sl 1 (m1.Origins.map eStr)), .v (.int .i64 m1.Company), .v (.int .i64 m1.From), .v (.int .i64 m1.To), .v (.int .i64 m1.Registered), .v (.int .i64 m1.Duty.Rate), .v (.int .i64 m1.Duty.Amount), .v (.int .i64 m1.Duty.Per), .v (.bool m1.Duty.HasMost), .v (.int .i64 m1.Duty.Most), .v (.bool m1.Duty.HasLeast), .v (.int .i64 m1.Duty.Least)])]⟩ _ _
   refine WC.seq (WC.region ?_)
   obtain ⟨g14, h⟩ := grd h
   refine lr 4 rfl (by repeat' (first | exact trivial | assumption | intro _ | exact g14 (by assumption) | apply And.intro | exact sideT | (refine and_i ?_ ?_))) ?_
   replace h := bnd h; obtain ⟨v7, hvv7, h⟩ := h
   refine WL.call0 fn64 rfl rfl rfl rfl (by exact trivial) rfl (refFormatDuty_con hw hvv7) ?_
   obtain ⟨g15, h⟩ := grd h
   refine lr 2 rfl (by repeat' (first | exact trivial | assumption | intro _ | exact g15 (by assumption) | apply And.intro | exact sideT | (refine and_i ?_ ?_))) ?_
   refine WL.nil (WQ.thenNormal (WC.ret ?_))
   cases h
   exact WQ.rets tbOk hR [] (.inl rfl) rfl rfl (Le.refl _) (by exact trivial) rfl rfl rfl rfl

theorem refFormat_con {wg : World} (hw : WG wg) {l : (List ApiMeasure)} {r : Str} (h : refFormat l = some r) : Con Tryz.prog wg gl 17 [.v (.sl 15 (l.map eApiMeasure))] [] (.v (.str r)) [] := by
 unfold refFormat at h
 refine con_of_WC (S := slotsOf 0 _) Tryz.func17 rfl Tryz.ntmps17 rfl (fun t x hx => (slotsOf_get hx).2) ?_
 intro F L w ρ0 R hR
 show WC _ _ _ ⟨[(0, .v (.sl 15 (l.map eApiMeasure)))], []⟩ _ _
 refine WC.seq (WC.region ?_)
 refine lr 1 rfl trivial ?_
 refine WL.nil (WQ.thenNormal (WC.seq (WC.region ?_)))
 refine lr 1 rfl trivial ?_
 refine WL.nil (WQ.thenNormal (WC.seq (WC.seq (WC.region ?_))))
 refine lr 1 rfl trivial ?_
 replace h := bnd h; obtain ⟨v, hvv, h⟩ := h
 refine WL.call0 fn13 rfl rfl rfl rfl (by exact trivial) rfl (refMeasures_con hw hvv) ?_
 refine lr 1 rfl trivial ?_
 refine WL.nil (WQ.thenNormal ?_)
 refine WC.cond rfl (fun hc1 => ?_) (fun hc1 => ?_)
 ·replace h := ite_t hc1 h
  refine WC.seq (WC.region ?_)
  refine lr 1 rfl trivial ?_
  refine WL.nil (WQ.thenNormal (WC.ret (WQ.thenRet ?_)))
  cases h
  exact WQ.rets tbOk hR [] (.inl rfl) rfl rfl (Le.refl _) (by exact trivial) rfl rfl rfl rfl
 ·replace h := ite_f hc1 h
  refine WC.skip (WQ.thenNormal (WC.seq (WC.seq (WC.region ?_))))
  refine lr 1 rfl trivial ?_
  refine WL.nil (WQ.thenNormal ?_)
  refine WC.thenCut (X := Str) (fun gG => ⟨[(3, .v (.str gG))], []⟩) (fun gG => refFormat_j1 gG = some r) ?_ ?_
  ·refine WC.block ?_
   obtain ⟨eQ1, hl1, hk1⟩ := bnd h
   clear h
   refine WC.loop (σ := Int × Str) (τ := (Str)) (fun sS => ⟨[(4, .v (.int .i64 sS.1)), (3, .v (.str sS.2)), (0, .v (.sl 15 (l.map eApiMeasure)))], []⟩) (refFormat_b1 l) [] ((0 : Int), ([] : Str)) hl1 ⟨(by exact ⟨rfl, rfl, rfl, trivial⟩), (by exact trivial), rfl, rfl, rfl, rfl⟩ ?_
   rintro ⟨i, s2⟩ m hn1 he1 hx1
   obtain ⟨o1, hf1⟩ := some_of hx1
   have h := hf1
   unfold refFormat_b1 at h
   show WC _ _ _ ⟨[(4, .v (.int .i64 i)), (3, .v (.str s2)), (0, .v (.sl 15 (l.map eApiMeasure)))], []⟩ _ _
   refine WC.seq (WC.seq (WC.region ?_))
   refine lr 2 rfl trivial ?_
   refine WL.q [] rfl rfl rfl (q_ev tbOk (.v (.int .i64 (l.length : Int))) rfl (by exact trivial) (by exact lenT)) ?_
   refine lr 1 rfl trivial ?_
   refine WL.nil (WQ.thenNormal ?_)
   refine WC.cond rfl (fun hc2 => ?_) (fun hc2 => ?_)
   ·replace h := ite_t hc2 h
    refine WC.skip (WQ.thenNormal (WC.seq (WC.block (WC.region ?_))))
    refine lr 3 rfl trivial ?_
    obtain ⟨g1, h⟩ := grd h
    replace h := bnd h; obtain ⟨x2, hxx2, h⟩ := h
    refine WL.q [] rfl rfl rfl (q_idx tbOk rfl (by exact trivial) g1 (map_get (f := eApiMeasure) hxx2)) ?_
    refine lr 1 rfl trivial ?_
    replace h := bnd h; obtain ⟨v3, hvv3, h⟩ := h
    refine WL.call0 fn40 rfl rfl rfl rfl (by exact trivial) rfl (refLine_con hw hvv3) ?_
    obtain ⟨g2, h⟩ := grd h
    obtain ⟨g3, h⟩ := grd h
    refine lr 3 rfl (by repeat' (first | exact trivial | assumption | intro _ | exact g2 (by assumption) | exact g3 (by assumption) | apply And.intro | exact sideT | (refine and_i ?_ ?_))) ?_
    refine WL.nil (WQ.blockNormal (WQ.thenNormal (WC.region ?_)))
    refine lr 3 rfl trivial ?_
    refine WL.nil ?_
    cases h
    exact WQ.next [] ((IntKind.i64.wrap (i + (1 : Int))), ((s2 ++ v3) ++ ([10] : Str))) ⟨(by exact ⟨rfl, rfl, rfl, trivial⟩), (by exact trivial), rfl, rfl, rfl, rfl⟩ (hn1 _ hf1)
   ·replace h := ite_f hc2 h
    refine WC.exit (WQ.thenExit ?_)
    cases h
    have he := he1 _ hf1
    subst he
    replace h := hk1
    try dsimp only at h
    refine WQ.thenExit (WQ.blockExit ?_)
    exact WQ.cut [] s2 ⟨(by exact ⟨rfl, trivial⟩), (by exact trivial), rfl, rfl, rfl, rfl⟩ h
  ·intro s h
   replace h : refFormat_j1 s = some _ := h
   unfold refFormat_j1 at h
   show WC _ _ _ ⟨[(3, .v (.str s))], []⟩ _ _
   refine WC.seq (WC.region ?_)
   refine lr 2 rfl trivial ?_
   refine WL.nil (WQ.thenNormal (WC.ret ?_))
   cases h
   exact WQ.rets tbOk hR [] (.inl rfl) rfl rfl (Le.refl _) (by exact trivial) rfl rfl rfl rfl

end Go.Proofs.YtbilobjddflpeaaGreatDoor
