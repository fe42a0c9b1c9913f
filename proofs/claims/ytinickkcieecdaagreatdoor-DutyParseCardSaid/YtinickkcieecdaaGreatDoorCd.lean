/- Contracts: the program's functions compute the plain ones; by program (gen.py). -/
import Derived.Test.YtinickkcieecdaaGreatDoorLib
import Derived.Test.YtinickkcieecdaaGreatDoorPd
import Derived.Test.YtinickkcieecdaaGreatDoorCa
import Derived.Test.YtinickkcieecdaaGreatDoorCb
import Derived.Test.YtinickkcieecdaaGreatDoorCc
set_option linter.unusedVariables false
set_option linter.unusedSimpArgs false
set_option maxHeartbeats 4000000
set_option maxRecDepth 20000
namespace Go.Proofs.YtinickkcieecdaaGreatDoor
open Go.V Go.C

theorem dutyPercentage_con {wg : World} (hw : WG wg) {rate : Int} {r : Str} (h : dutyPercentage rate = some r) : Con Tryz.prog wg gl 25 [.v (.int .i64 rate)] [] (.v (.str r)) [] := by
 unfold dutyPercentage at h
 refine con_of_WC (S := slotsOf 0 _) Tryz.func25 rfl Tryz.ntmps25 rfl (fun t x hx => (slotsOf_get hx).2) ?_
 intro F L w ρ0 R hR
 show WC _ _ _ ⟨[(0, .v (.int .i64 rate))], []⟩ _ _
 refine WC.seq (WC.region ?_)
 refine lr 1 rfl trivial ?_
 refine WL.nil (WQ.thenNormal (WC.seq (WC.region ?_)))
 refine lr 2 rfl (by exact sideR) ?_
 replace h := bnd h; obtain ⟨v, hvv, h⟩ := h
 refine WL.call0 fn27 rfl rfl rfl rfl (by exact trivial) rfl (itoa_con hw hvv) ?_
 refine lr 1 rfl trivial ?_
 refine WL.nil (WQ.thenNormal (WC.seq (WC.seq (WC.region ?_))))
 refine lr 3 rfl (by exact sideR) ?_
 refine WL.nil (WQ.thenNormal (WC.seq (WC.region ?_)))
 refine lr 2 rfl trivial ?_
 refine WL.nil (WQ.thenNormal ?_)
 refine WC.thenCut (X := Str) (fun gG => ⟨[(3, .v (.str gG))], []⟩) (fun gG => dutyPercentage_j1 gG = some r) ?_ ?_
 ·refine WC.cond rfl (fun hc1 => ?_) (fun hc1 => ?_)
  ·replace h := ite_t hc1 h
   refine WC.seq (WC.region ?_)
   refine lr 2 rfl trivial ?_
   replace h := bnd h; obtain ⟨v2, hvv2, h⟩ := h
   refine WL.call0 fn27 rfl rfl rfl rfl (by exact trivial) rfl (itoa_con hw hvv2) ?_
   obtain ⟨g2, h⟩ := grd h
   refine lr 2 rfl (by repeat' (first | exact trivial | assumption | intro _ | exact g2 (by assumption) | apply And.intro | exact sideT | (refine and_i ?_ ?_))) ?_
   refine WL.nil (WQ.thenNormal (WC.region ?_))
   refine lr 2 rfl trivial ?_
   replace h := bnd h; obtain ⟨v3, hvv3, h⟩ := h
   refine WL.call0 fn50 rfl rfl rfl rfl (by exact trivial) rfl (trimRightS_con hw hvv3) ?_
   obtain ⟨g3, h⟩ := grd h
   obtain ⟨g4, h⟩ := grd h
   refine lr 3 rfl (by repeat' (first | exact trivial | assumption | intro _ | exact g3 (by assumption) | exact g4 (by assumption) | apply And.intro | exact sideT | (refine and_i ?_ ?_))) ?_
   refine WL.nil ?_
   exact WQ.cut [] (v ++ (([46] : Str) ++ v3)) ⟨(by exact ⟨rfl, trivial⟩), (by exact trivial), rfl, rfl, rfl, rfl⟩ h
  ·replace h := ite_f hc1 h
   refine WC.skip ?_
   exact WQ.cut [] v ⟨(by exact ⟨rfl, trivial⟩), (by exact trivial), rfl, rfl, rfl, rfl⟩ h
 ·intro s h
  replace h : dutyPercentage_j1 s = some _ := h
  unfold dutyPercentage_j1 at h
  show WC _ _ _ ⟨[(3, .v (.str s))], []⟩ _ _
  refine WC.seq (WC.region ?_)
  obtain ⟨g1, h⟩ := grd h
  refine lr 3 rfl (by repeat' (first | exact trivial | assumption | intro _ | exact g1 (by assumption) | apply And.intro | exact sideT | (refine and_i ?_ ?_))) ?_
  refine WL.nil (WQ.thenNormal (WC.ret ?_))
  cases h
  exact WQ.rets tbOk hR [] (.inl rfl) rfl rfl (Le.refl _) (by exact trivial) rfl rfl rfl rfl

theorem dutyParsePercentage_con {wg : World} (hw : WG wg) {s : Str} {r : Int × Bool} (h : dutyParsePercentage s = some r) : Con Tryz.prog wg gl 73 [.v (.str s)] [] (.tup [.v (.int .i64 r.1), .v (.bool r.2)]) [] := by
 unfold dutyParsePercentage at h
 refine con_of_WC (S := slotsOf 0 _) Tryz.func73 rfl Tryz.ntmps73 rfl (fun t x hx => (slotsOf_get hx).2) ?_
 intro F L w ρ0 R hR
 show WC _ _ _ ⟨[(0, .v (.str s))], []⟩ _ _
 refine WC.seq (WC.region ?_)
 refine lr 2 rfl trivial ?_
 refine WL.nil (WQ.thenNormal (WC.seq (WC.region ?_)))
 refine lr 1 rfl trivial ?_
 replace h := bnd h; obtain ⟨v, hvv, h⟩ := h
 refine WL.call0 fn90 rfl rfl rfl rfl (by exact trivial) rfl (cutSuffixS_con hw hvv) ?_
 refine lr 5 rfl trivial ?_
 refine WL.nil (WQ.thenNormal (WC.seq (WC.region ?_)))
 refine lr 1 rfl trivial ?_
 replace h := bnd h; obtain ⟨v2, hvv2, h⟩ := h
 refine WL.call0 fn74 rfl rfl rfl rfl (by exact trivial) rfl (cutS_con hw hvv2) ?_
 refine lr 7 rfl trivial ?_
 refine WL.nil (WQ.thenNormal (WC.seq (WC.seq (WC.region ?_))))
 refine lr 12 rfl (by exact sideR) ?_
 refine WL.nil (WQ.thenNormal ?_)
 refine WC.cond rfl (fun hc1 => ?_) (fun hc1 => ?_)
 ·replace h := ite_t hc1 h
  refine WC.seq (WC.region ?_)
  refine lr 2 rfl trivial ?_
  refine WL.nil (WQ.thenNormal (WC.ret (WQ.thenRet ?_)))
  cases h
  exact WQ.rets tbOk (r := .tup [.v (.int .i64 (0 : Int)), .v (.bool false)]) hR [] (.inl rfl) rfl rfl (Le.tup (.cons (Le.refl _) (.cons (Le.refl _) .nil))) (by exact trivial) rfl rfl rfl rfl
 ·replace h := ite_f hc1 h
  refine WC.skip (WQ.thenNormal (WC.seq (WC.region ?_)))
  obtain ⟨g1, h⟩ := grd h
  obtain ⟨g2, h⟩ := grd h
  obtain ⟨g3, h⟩ := grd h
  refine lr 7 rfl (by repeat' (first | exact trivial | assumption | intro _ | exact g1 (by assumption) | exact g2 (by assumption) | exact g3 (by assumption) | apply And.intro | exact sideT | (refine and_i ?_ ?_))) ?_
  replace h := bnd h; obtain ⟨v3, hvv3, h⟩ := h
  refine WL.call0 fn76 rfl rfl rfl rfl (by exact trivial) rfl (atoiS_con hw hvv3) ?_
  refine lr 5 rfl trivial ?_
  refine WL.nil (WQ.thenNormal (WC.seq (WC.order mixed ?_)))
  refine wr 5 rfl trivial ?_
  refine WR.nil (by kernel_rfl) (WQ.thenNormal (WC.ret ?_))
  cases h
  exact WQ.rets tbOk (r := .tup [.v (.int .i64 v3.1), .v (.bool v3.2)]) hR [] (.inl rfl) rfl rfl (Le.tup (.cons (Le.refl _) (.cons (Le.refl _) .nil))) (by exact trivial) rfl rfl rfl rfl

theorem dutyFormat_con {wg : World} (hw : WG wg) {d : ApiDuty} {r : Str} (h : dutyFormat d = some r) : Con Tryz.prog wg gl 15 [.v (.agg [.int .i64 d.Rate, .int .i64 d.Amount, .int .i64 d.Per, .bool d.HasMost, .int .i64 d.Most, .bool d.HasLeast, .int .i64 d.Least])] [] (.v (.str r)) [] := by
 unfold dutyFormat at h
 refine con_of_WC (S := slotsOf 0 _) Tryz.func15 rfl Tryz.ntmps15 rfl (fun t x hx => (slotsOf_get hx).2) ?_
 intro F L w ρ0 R hR
 show WC _ _ _ ⟨[(0, .v (.agg [.int .i64 d.Rate, .int .i64 d.Amount, .int .i64 d.Per, .bool d.HasMost, .int .i64 d.Most, .bool d.HasLeast, .int .i64 d.Least]))], []⟩ _ _
 refine WC.seq (WC.region ?_)
 refine lr 2 rfl trivial ?_
 refine WL.nil (WQ.thenNormal (WC.seq (WC.seq (WC.region ?_))))
 refine lr 1 rfl trivial ?_
 replace h := bnd h; obtain ⟨v, hvv, h⟩ := h
 refine WL.call0 fn11 rfl rfl rfl rfl (by exact trivial) rfl (dutyValidate_con hw hvv) ?_
 refine lr 1 rfl trivial ?_
 refine WL.nil (WQ.thenNormal ?_)
 refine WC.cond rfl (fun hc1 => ?_) (fun hc1 => ?_)
 ·replace h := ite_t hc1 h
  refine WC.seq (WC.region ?_)
  refine lr 1 rfl trivial ?_
  refine WL.nil (WQ.thenNormal (WC.ret (WQ.thenRet ?_)))
  cases h
  exact WQ.rets tbOk hR [] (.inl rfl) rfl rfl (Le.refl _) (by exact trivial) rfl rfl rfl rfl
 ·replace h := ite_f hc1 h
  refine WC.skip (WQ.thenNormal (WC.seq (WC.region ?_)))
  refine lr 1 rfl trivial ?_
  refine WL.nil (WQ.thenNormal (WC.seq (WC.seq (WC.region ?_))))
  refine lr 8 rfl (by exact sideR) ?_
  refine WL.nil (WQ.thenNormal ?_)
  refine WC.thenCut (X := (List Str)) (fun gG => ⟨[(3, .r 1003), (1, .p 1 0)], [(1003, .row 9 1 (gG.map eStr)), (1, .blk 23 [.v (.int .i64 d.Rate), .v (.int .i64 d.Amount), .v (.int .i64 d.Per), .v (.bool d.HasMost), .v (.int .i64 d.Most), .v (.bool d.HasLeast), .v (.int .i64 d.Least)])]⟩) (fun gG => dutyFormat_j1 d gG = some r) ?_ ?_
  ·refine WC.cond rfl (fun hc5 => ?_) (fun hc5 => ?_)
   ·replace h := ite_t hc5 h
    refine WC.region ?_
    refine lr 3 rfl trivial ?_
    replace h := bnd h; obtain ⟨v7, hvv7, h⟩ := h
    refine WL.call0 fn25 rfl rfl rfl rfl (by exact trivial) rfl (dutyPercentage_con hw hvv7) ?_
    refine lr 1 rfl trivial ?_
    obtain ⟨g8, h⟩ := grd h
    refine WL.append tbOk ([v7].map eStr) [21] ap37 rfl rfl rfl rfl (fun _ e => by cases e) (by exact trivial) (map_cells (f := eStr) (xs := [v7]) fun _ => rfl) (by have := g8; simp only [List.length_map, List.length_nil, List.length_cons] at this ⊢; omega) rfl rfl rfl rfl ?_
    refine lr 1 rfl trivial ?_
    refine WL.nil ?_
    exact WQ.cut [(1003, 21)] [v7] ⟨(by exact ⟨rfl, rfl, trivial⟩), (by exact ⟨rfl, rfl, trivial⟩), rfl, rfl, rfl, rfl⟩ h
   ·replace h := ite_f hc5 h
    refine WC.skip ?_
    refine WQ.rowNil 3 1003 9 1 rfl rfl ?_
    exact WQ.cut [] [] ⟨(by exact ⟨rfl, rfl, trivial⟩), (by exact ⟨rfl, rfl, trivial⟩), rfl, rfl, rfl, rfl⟩ h
  ·intro terms h
   replace h : dutyFormat_j1 d terms = some _ := h
   unfold dutyFormat_j1 at h
   show WC _ _ _ ⟨[(3, .r 1003), (1, .p 1 0)], [(1003, .row 9 1 (terms.map eStr)), (1, .blk 23 [.v (.int .i64 d.Rate), .v (.int .i64 d.Amount), .v (.int .i64 d.Per), .v (.bool d.HasMost), .v (.int .i64 d.Most), .v (.bool d.HasLeast), .v (.int .i64 d.Least)])]⟩ _ _
   refine WC.seq (WC.seq (WC.region ?_))
   refine lr 3 rfl trivial ?_
   refine WL.nil (WQ.thenNormal ?_)
   refine WC.thenCut (X := (List Str)) (fun gG => ⟨[(3, .r 1003), (1, .p 1 0)], [(1003, .row 9 1 (gG.map eStr)), (1, .blk 23 [.v (.int .i64 d.Rate), .v (.int .i64 d.Amount), .v (.int .i64 d.Per), .v (.bool d.HasMost), .v (.int .i64 d.Most), .v (.bool d.HasLeast), .v (.int .i64 d.Least)])]⟩) (fun gG => dutyFormat_j2 d gG = some r) ?_ ?_
   ·refine WC.cond rfl (fun hc4 => ?_) (fun hc4 => ?_)
    ·replace h := ite_t hc4 h
     refine WC.order mixed ?_
     refine wr 3 rfl trivial ?_
     replace h := bnd h; obtain ⟨v5, hvv5, h⟩ := h
     refine WR.call0 fn26 rfl rfl rfl rfl (by exact trivial) rfl (moneyFormat_con hw hvv5) ?_
     obtain ⟨g5, h⟩ := grd h
     refine wr 3 rfl (by repeat' (first | exact trivial | assumption | intro _ | exact g5 (by assumption) | apply And.intro | exact sideT | (refine and_i ?_ ?_))) ?_
     replace h := bnd h; obtain ⟨v6, hvv6, h⟩ := h
     refine WR.call0 fn27 rfl rfl rfl rfl (by exact trivial) rfl (itoa_con hw hvv6) ?_
     obtain ⟨g6, h⟩ := grd h
     refine wr 2 rfl (by repeat' (first | exact trivial | assumption | intro _ | exact g6 (by assumption) | apply And.intro | exact sideT | (refine and_i ?_ ?_))) ?_
     obtain ⟨g7, h⟩ := grd h
     refine WR.append tbOk ((terms ++ [((v5 ++ ([47] : Str)) ++ v6)]).map eStr) [35, 1003] ap37 rfl rfl rfl rfl (fun _ e => by cases e; rfl) (by exact trivial) (map_cells (f := eStr) (xs := [((v5 ++ ([47] : Str)) ++ v6)]) fun _ => rfl) (by have := g7; simp only [List.length_map, List.length_nil, List.length_cons] at this ⊢; omega) rfl rfl (by simp only [List.map_append]; try rfl) rfl rfl ?_
     refine wr 1 rfl trivial ?_
     refine WR.nil (by kernel_rfl) ?_
     exact WQ.cut [(1003, 35)] (terms ++ [((v5 ++ ([47] : Str)) ++ v6)]) ⟨(by exact ⟨rfl, rfl, trivial⟩), (by exact ⟨rfl, rfl, trivial⟩), rfl, rfl, rfl, rfl⟩ h
    ·replace h := ite_f hc4 h
     refine WC.skip ?_
     exact WQ.cut [] terms ⟨(by exact ⟨rfl, rfl, trivial⟩), (by exact ⟨rfl, rfl, trivial⟩), rfl, rfl, rfl, rfl⟩ h
   ·intro terms2 h
    replace h : dutyFormat_j2 d terms2 = some _ := h
    unfold dutyFormat_j2 at h
    show WC _ _ _ ⟨[(3, .r 1003), (1, .p 1 0)], [(1003, .row 9 1 (terms2.map eStr)), (1, .blk 23 [.v (.int .i64 d.Rate), .v (.int .i64 d.Amount), .v (.int .i64 d.Per), .v (.bool d.HasMost), .v (.int .i64 d.Most), .v (.bool d.HasLeast), .v (.int .i64 d.Least)])]⟩ _ _
    refine WC.seq ?_
    refine WC.publish 1003 rfl rfl ?_
    refine WC.region ?_
    refine lr 1 rfl trivial ?_
    replace h := bnd h; obtain ⟨v2, hvv2, h⟩ := h
    refine WL.call0 fn28 rfl rfl rfl rfl (by exact trivial) rfl (joinS_con hw hvv2) ?_
    refine lr 1 rfl trivial ?_
    refine WL.nil (WQ.thenNormal (WC.seq (WC.seq (WC.region ?_))))
    refine lr 2 rfl trivial ?_
    refine WL.nil (WQ.thenNormal ?_)
    refine WC.thenCut (X := Str) (fun gG => ⟨[(4, .v (.str gG)), (1, .p 1 0)], [(1, .blk 23 [.v (.int .i64 d.Rate), .v (.int .i64 d.Amount), .v (.int .i64 d.Per), .v (.bool d.HasMost), .v (.int .i64 d.Most), .v (.bool d.HasLeast), .v (.int .i64 d.Least)])]⟩) (fun gG => dutyFormat_j3 d gG = some r) ?_ ?_
    ·refine WC.cond rfl (fun hc3 => ?_) (fun hc3 => ?_)
     ·replace h := ite_t hc3 h
      refine WC.region ?_
      refine lr 3 rfl trivial ?_
      replace h := bnd h; obtain ⟨v4, hvv4, h⟩ := h
      refine WL.call0 fn25 rfl rfl rfl rfl (by exact trivial) rfl (dutyPercentage_con hw hvv4) ?_
      obtain ⟨g3, h⟩ := grd h
      obtain ⟨g4, h⟩ := grd h
      refine lr 3 rfl (by repeat' (first | exact trivial | assumption | intro _ | exact g3 (by assumption) | exact g4 (by assumption) | apply And.intro | exact sideT | (refine and_i ?_ ?_))) ?_
      refine WL.nil ?_
      exact WQ.cut [] (v2 ++ (([32, 109, 97, 120, 32] : Str) ++ v4)) ⟨(by exact ⟨rfl, rfl, trivial⟩), (by exact ⟨rfl, trivial⟩), rfl, rfl, rfl, rfl⟩ h
     ·replace h := ite_f hc3 h
      refine WC.skip ?_
      exact WQ.cut [] v2 ⟨(by exact ⟨rfl, rfl, trivial⟩), (by exact ⟨rfl, trivial⟩), rfl, rfl, rfl, rfl⟩ h
    ·intro s h
     replace h : dutyFormat_j3 d s = some _ := h
     unfold dutyFormat_j3 at h
     show WC _ _ _ ⟨[(4, .v (.str s)), (1, .p 1 0)], [(1, .blk 23 [.v (.int .i64 d.Rate), .v (.int .i64 d.Amount), .v (.int .i64 d.Per), .v (.bool d.HasMost), .v (.int .i64 d.Most), .v (.bool d.HasLeast), .v (.int .i64 d.Least)])]⟩ _ _
     refine WC.seq (WC.seq (WC.region ?_))
     refine lr 2 rfl trivial ?_
     refine WL.nil (WQ.thenNormal ?_)
     refine WC.thenCut (X := Str) (fun gG => ⟨[(4, .v (.str gG))], []⟩) (fun gG => dutyFormat_j4 gG = some r) ?_ ?_
     ·refine WC.cond rfl (fun hc2 => ?_) (fun hc2 => ?_)
      ·replace h := ite_t hc2 h
       refine WC.region ?_
       refine lr 3 rfl trivial ?_
       replace h := bnd h; obtain ⟨v3, hvv3, h⟩ := h
       refine WL.call0 fn25 rfl rfl rfl rfl (by exact trivial) rfl (dutyPercentage_con hw hvv3) ?_
       obtain ⟨g1, h⟩ := grd h
       obtain ⟨g2, h⟩ := grd h
       refine lr 3 rfl (by repeat' (first | exact trivial | assumption | intro _ | exact g1 (by assumption) | exact g2 (by assumption) | apply And.intro | exact sideT | (refine and_i ?_ ?_))) ?_
       refine WL.nil ?_
       exact WQ.cut [] (s ++ (([32, 109, 105, 110, 32] : Str) ++ v3)) ⟨(by exact ⟨rfl, trivial⟩), (by exact trivial), rfl, rfl, rfl, rfl⟩ h
      ·replace h := ite_f hc2 h
       refine WC.skip ?_
       exact WQ.cut [] s ⟨(by exact ⟨rfl, trivial⟩), (by exact trivial), rfl, rfl, rfl, rfl⟩ h
     ·intro s2 h
      replace h : dutyFormat_j4 s2 = some _ := h
      unfold dutyFormat_j4 at h
      show WC _ _ _ ⟨[(4, .v (.str s2))], []⟩ _ _
      refine WC.seq (WC.region ?_)
      refine lr 2 rfl trivial ?_
      refine WL.nil (WQ.thenNormal (WC.ret ?_))
      cases h
      exact WQ.rets tbOk hR [] (.inl rfl) rfl rfl (Le.refl _) (by exact trivial) rfl rfl rfl rfl

theorem dutyParseTerms_con {wg : World} (hw : WG wg) {d : ApiDuty} {words : (List Str)} {r : (List Str) × Bool × ApiDuty} (h : dutyParseTerms d words = some r) : Con Tryz.prog wg gl 57 [.p 0 0, .v (.sl 1 (words.map eStr))] [(0, .blk 23 [.v (.int .i64 d.Rate), .v (.int .i64 d.Amount), .v (.int .i64 d.Per), .v (.bool d.HasMost), .v (.int .i64 d.Most), .v (.bool d.HasLeast), .v (.int .i64 d.Least)])] (.tup [.v (.sl 1 (r.1.map eStr)), .v (.bool r.2.1)]) [(0, .blk 23 [.v (.int .i64 r.2.2.Rate), .v (.int .i64 r.2.2.Amount), .v (.int .i64 r.2.2.Per), .v (.bool r.2.2.HasMost), .v (.int .i64 r.2.2.Most), .v (.bool r.2.2.HasLeast), .v (.int .i64 r.2.2.Least)])] := by
 unfold dutyParseTerms at h
 refine con_of_WC (S := slotsOf 0 _) Tryz.func57 rfl Tryz.ntmps57 rfl (fun t x hx => (slotsOf_get hx).2) ?_
 intro F L w ρ0 R hR
 show WC _ _ _ ⟨[(0, .p 0 0), (1, .v (.sl 1 (words.map eStr)))], [(0, .blk 23 [.v (.int .i64 d.Rate), .v (.int .i64 d.Amount), .v (.int .i64 d.Per), .v (.bool d.HasMost), .v (.int .i64 d.Most), .v (.bool d.HasLeast), .v (.int .i64 d.Least)])]⟩ _ _
 refine WC.seq (WC.region ?_)
 refine lr 2 rfl trivial ?_
 refine WL.nil (WQ.thenNormal (WC.seq (WC.seq (WC.region ?_))))
 refine lr 1 rfl trivial ?_
 replace h := bnd h; obtain ⟨x, hxx, h⟩ := h
 refine WL.q [] rfl rfl rfl (q_idx tbOk rfl (by exact trivial) (by decide) (map_get (f := eStr) hxx)) ?_
 refine lr 1 rfl trivial ?_
 replace h := bnd h; obtain ⟨v, hvv, h⟩ := h
 refine WL.call0 fn73 rfl rfl rfl rfl (by exact trivial) rfl (dutyParsePercentage_con hw hvv) ?_
 refine lr 5 rfl trivial ?_
 refine WL.nil (WQ.thenNormal (WC.seq (WC.region ?_)))
 refine lr 1 rfl trivial ?_
 refine WL.nil (WQ.thenNormal ?_)
 refine WC.thenCut (X := (List Str) × Int) (fun gG => ⟨[(1, .v (.sl 1 (gG.1.map eStr))), (0, .p 0 0)], [(0, .blk 23 [.v (.int .i64 gG.2), .v (.int .i64 d.Amount), .v (.int .i64 d.Per), .v (.bool d.HasMost), .v (.int .i64 d.Most), .v (.bool d.HasLeast), .v (.int .i64 d.Least)])]⟩) (fun gG => dutyParseTerms_j1 d gG.1 gG.2 = some r) ?_ ?_
 ·refine WC.cond rfl (fun hc1 => ?_) (fun hc1 => ?_)
  ·replace h := ite_t hc1 h
   refine WC.seq (WC.region ?_)
   refine lr 5 rfl trivial ?_
   refine WL.nil (WQ.thenNormal (WC.seq (WC.seq (WC.region ?_))))
   refine lr 1 rfl trivial ?_
   refine WL.q [] rfl rfl rfl (q_ev tbOk (.v (.int .i64 (words.length : Int))) rfl (by exact trivial) (by exact lenT)) ?_
   refine lr 3 rfl (by exact sideR) ?_
   obtain ⟨g2, h⟩ := grd h
   refine WL.gq [] rfl rfl rfl rfl (fun hg => q_idx tbOk rfl (by exact sideR) (g2 hg).1 (map_getD (f := eStr) (g2 hg).2 (g2 hg).1)) ?_
   refine lr 3 rfl (by exact sideR) ?_
   refine WL.nil (WQ.thenNormal ?_)
   refine WC.cond rfl (fun hc2 => ?_) (fun hc2 => ?_)
   ·replace h := ite_t hc2 h
    refine WC.seq (WC.region ?_)
    refine lr 1 rfl trivial ?_
    obtain ⟨g3, h⟩ := grd h
    refine WL.q [] rfl rfl rfl (q_ev tbOk (.v (.sl 1 ((words.drop (1 : Int).toNat).map eStr))) rfl (by exact sideR) (by exact tdT)) ?_
    refine lr 2 rfl trivial ?_
    refine WL.nil (WQ.thenNormal (WC.ret (WQ.thenRet (WQ.thenRet ?_))))
    cases h
    exact WQ.rets tbOk (r := .tup [.v (.sl 1 ((words.drop (1 : Int).toNat).map eStr)), .v (.bool true)]) hR [] (.inl rfl) rfl rfl (Le.tup (.cons (Le.refl _) (.cons (Le.refl _) .nil))) (by exact ⟨rfl, trivial⟩) rfl rfl rfl rfl
   ·replace h := ite_f hc2 h
    refine WC.skip (WQ.thenNormal (WC.region ?_))
    refine lr 1 rfl trivial ?_
    obtain ⟨g4, h⟩ := grd h
    refine WL.q [] rfl rfl rfl (q_ev tbOk (.v (.sl 1 ((words.drop (2 : Int).toNat).map eStr))) rfl (by exact sideR) (by exact tdT)) ?_
    refine lr 1 rfl trivial ?_
    refine WL.nil ?_
    exact WQ.cut [] ((words.drop (2 : Int).toNat), v.1) ⟨(by exact ⟨rfl, rfl, trivial⟩), (by exact ⟨rfl, trivial⟩), rfl, rfl, rfl, rfl⟩ h
  ·replace h := ite_f hc1 h
   refine WC.skip ?_
   exact WQ.cut [] (words, d.Rate) ⟨(by exact ⟨rfl, rfl, trivial⟩), (by exact ⟨rfl, trivial⟩), rfl, rfl, rfl, rfl⟩ h
 ·rintro ⟨words2, c0_0⟩ h
  replace h : dutyParseTerms_j1 d words2 c0_0 = some _ := h
  unfold dutyParseTerms_j1 at h
  show WC _ _ _ ⟨[(1, .v (.sl 1 (words2.map eStr))), (0, .p 0 0)], [(0, .blk 23 [.v (.int .i64 c0_0), .v (.int .i64 d.Amount), .v (.int .i64 d.Per), .v (.bool d.HasMost), .v (.int .i64 d.Most), .v (.bool d.HasLeast), .v (.int .i64 d.Least)])]⟩ _ _
  refine WC.seq (WC.region ?_)
  refine lr 1 rfl trivial ?_
  replace h := bnd h; obtain ⟨x2, hxx2, h⟩ := h
  refine WL.q [] rfl rfl rfl (q_idx tbOk rfl (by exact trivial) (by decide) (map_get (f := eStr) hxx2)) ?_
  refine lr 1 rfl trivial ?_
  replace h := bnd h; obtain ⟨v2, hvv2, h⟩ := h
  refine WL.call0 fn74 rfl rfl rfl rfl (by exact trivial) rfl (cutS_con hw hvv2) ?_
  refine lr 7 rfl trivial ?_
  refine WL.nil (WQ.thenNormal (WC.seq (WC.region ?_)))
  refine lr 1 rfl trivial ?_
  replace h := bnd h; obtain ⟨v3, hvv3, h⟩ := h
  refine WL.call0 fn75 rfl rfl rfl rfl (by exact trivial) rfl (moneyParse_con hw hvv3) ?_
  refine lr 5 rfl trivial ?_
  refine WL.nil (WQ.thenNormal (WC.seq (WC.region ?_)))
  refine lr 1 rfl trivial ?_
  replace h := bnd h; obtain ⟨v4, hvv4, h⟩ := h
  refine WL.call0 fn76 rfl rfl rfl rfl (by exact trivial) rfl (atoiS_con hw hvv4) ?_
  refine lr 5 rfl trivial ?_
  refine WL.nil (WQ.thenNormal (WC.seq (WC.region ?_)))
  refine lr 10 rfl trivial ?_
  refine WL.nil (WQ.thenNormal (WC.seq (WC.order mixed ?_)))
  refine wr 1 rfl trivial ?_
  obtain ⟨g1, h⟩ := grd h
  refine WR.q [] rfl rfl rfl (q_ev tbOk (.v (.sl 1 ((words2.drop (1 : Int).toNat).map eStr))) rfl (by exact sideR) (by exact tdT)) ?_
  refine wr 8 rfl (by exact sideR) ?_
  refine WR.nil (by kernel_rfl) (WQ.thenNormal (WC.ret ?_))
  cases h
  exact WQ.rets tbOk (r := .tup [.v (.sl 1 ((words2.drop (1 : Int).toNat).map eStr)), .v (.bool (bif (v3.2 == (0 : Int)) then v4.2 else false))]) hR [] (.inl rfl) rfl rfl (Le.tup (.cons (Le.refl _) (.cons (Le.refl _) .nil))) (by exact ⟨rfl, trivial⟩) rfl rfl rfl rfl

theorem dutyParseBound_con {wg : World} (hw : WG wg) {d : ApiDuty} {name : Str} {text : Str} {r : Bool × ApiDuty} (h : dutyParseBound d name text = some r) : Con Tryz.prog wg gl 58 [.p 0 0, .v (.str name), .v (.str text)] [(0, .blk 23 [.v (.int .i64 d.Rate), .v (.int .i64 d.Amount), .v (.int .i64 d.Per), .v (.bool d.HasMost), .v (.int .i64 d.Most), .v (.bool d.HasLeast), .v (.int .i64 d.Least)])] (.v (.bool r.1)) [(0, .blk 23 [.v (.int .i64 r.2.Rate), .v (.int .i64 r.2.Amount), .v (.int .i64 r.2.Per), .v (.bool r.2.HasMost), .v (.int .i64 r.2.Most), .v (.bool r.2.HasLeast), .v (.int .i64 r.2.Least)])] := by
 unfold dutyParseBound at h
 refine con_of_WC (S := slotsOf 0 _) Tryz.func58 rfl Tryz.ntmps58 rfl (fun t x hx => (slotsOf_get hx).2) ?_
 intro F L w ρ0 R hR
 show WC _ _ _ ⟨[(0, .p 0 0), (1, .v (.str name)), (2, .v (.str text))], [(0, .blk 23 [.v (.int .i64 d.Rate), .v (.int .i64 d.Amount), .v (.int .i64 d.Per), .v (.bool d.HasMost), .v (.int .i64 d.Most), .v (.bool d.HasLeast), .v (.int .i64 d.Least)])]⟩ _ _
 refine WC.seq (WC.region ?_)
 refine lr 1 rfl trivial ?_
 refine WL.nil (WQ.thenNormal (WC.seq (WC.region ?_)))
 refine lr 1 rfl trivial ?_
 replace h := bnd h; obtain ⟨v, hvv, h⟩ := h
 refine WL.call0 fn73 rfl rfl rfl rfl (by exact trivial) rfl (dutyParsePercentage_con hw hvv) ?_
 refine lr 5 rfl trivial ?_
 refine WL.nil (WQ.thenNormal (WC.seq (WC.seq (WC.region ?_))))
 refine lr 1 rfl trivial ?_
 refine WL.nil (WQ.thenNormal ?_)
 refine WC.thenCut (X := Bool × Int × Bool × Int) (fun gG => ⟨[(8, .v (.bool v.2)), (0, .p 0 0)], [(0, .blk 23 [.v (.int .i64 d.Rate), .v (.int .i64 d.Amount), .v (.int .i64 d.Per), .v (.bool gG.1), .v (.int .i64 gG.2.1), .v (.bool gG.2.2.1), .v (.int .i64 gG.2.2.2)])]⟩) (fun gG => dutyParseBound_j1 d v gG.1 gG.2.1 gG.2.2.1 gG.2.2.2 = some r) ?_ ?_
 ·refine WC.block (WC.seq (WC.region ?_))
  refine lr 2 rfl trivial ?_
  refine WL.nil (WQ.thenNormal ?_)
  refine WC.cond rfl (fun hc1 => ?_) (fun hc1 => ?_)
  ·replace h := ite_t hc1 h
   refine WC.region ?_
   refine lr 9 rfl trivial ?_
   refine WL.nil (WQ.blockNormal ?_)
   exact WQ.cut [] (true, v.1, d.HasLeast, d.Least) ⟨(by exact ⟨rfl, rfl, trivial⟩), (by exact ⟨rfl, trivial⟩), rfl, rfl, rfl, rfl⟩ h
  ·replace h := ite_f hc1 h
   refine WC.seq (WC.region ?_)
   refine lr 2 rfl trivial ?_
   refine WL.nil (WQ.thenNormal ?_)
   refine WC.cond rfl (fun hc2 => ?_) (fun hc2 => ?_)
   ·replace h := ite_t hc2 h
    refine WC.region ?_
    refine lr 9 rfl trivial ?_
    refine WL.nil (WQ.blockNormal ?_)
    exact WQ.cut [] (d.HasMost, d.Most, true, v.1) ⟨(by exact ⟨rfl, rfl, trivial⟩), (by exact ⟨rfl, trivial⟩), rfl, rfl, rfl, rfl⟩ h
   ·replace h := ite_f hc2 h
    refine WC.seq (WC.region ?_)
    refine lr 1 rfl trivial ?_
    refine WL.nil (WQ.thenNormal (WC.ret (WQ.blockRet (WQ.thenRet ?_))))
    cases h
    exact WQ.rets tbOk hR [] (.inl rfl) rfl rfl (Le.refl _) (by exact ⟨rfl, trivial⟩) rfl rfl rfl rfl
 ·rintro ⟨c0_3, c0_4, c0_5, c0_6⟩ h
  replace h : dutyParseBound_j1 d v c0_3 c0_4 c0_5 c0_6 = some _ := h
  unfold dutyParseBound_j1 at h
  show WC _ _ _ ⟨[(8, .v (.bool v.2)), (0, .p 0 0)], [(0, .blk 23 [.v (.int .i64 d.Rate), .v (.int .i64 d.Amount), .v (.int .i64 d.Per), .v (.bool c0_3), .v (.int .i64 c0_4), .v (.bool c0_5), .v (.int .i64 c0_6)])]⟩ _ _
  refine WC.seq (WC.region ?_)
  refine lr 2 rfl trivial ?_
  refine WL.nil (WQ.thenNormal (WC.ret ?_))
  cases h
  exact WQ.rets tbOk hR [] (.inl rfl) rfl rfl (Le.refl _) (by exact ⟨rfl, trivial⟩) rfl rfl rfl rfl

theorem dutyParseWords_con {wg : World} (hw : WG wg) {words : (List Str)} {r : ApiDuty × Bool} (h : dutyParseWords words = some r) : Con Tryz.prog wg gl 32 [.v (.sl 1 (words.map eStr))] [] (.tup [.v (.agg [.int .i64 r.1.Rate, .int .i64 r.1.Amount, .int .i64 r.1.Per, .bool r.1.HasMost, .int .i64 r.1.Most, .bool r.1.HasLeast, .int .i64 r.1.Least]), .v (.bool r.2)]) [] := by
 unfold dutyParseWords at h
 refine con_of_WC (S := slotsOf 0 _) Tryz.func32 rfl Tryz.ntmps32 rfl (fun t x hx => (slotsOf_get hx).2) ?_
 intro F L w ρ0 R hR
 show WC _ _ _ ⟨[(0, .v (.sl 1 (words.map eStr)))], []⟩ _ _
 refine WC.seq (WC.region ?_)
 refine lr 2 rfl trivial ?_
 refine WL.nil (WQ.thenNormal (WC.seq (WC.region ?_)))
 refine lr 1 rfl trivial ?_
 refine WL.nil (WQ.thenNormal (WC.seq (WC.region ?_)))
 refine lr 1 rfl trivial ?_
 replace h := bnd h; obtain ⟨v, hvv, h⟩ := h
 refine WL.callO [(0, 4)] [(0, 4)] [4] fn57 rfl rfl rfl rfl (by exact trivial) (dutyParseTerms_con hw hvv) rfl rfl (by exact ⟨rfl, trivial⟩) rfl rfl rfl rfl rfl rfl ?_
 refine lr 5 rfl trivial ?_
 refine WL.nil (WQ.thenNormal (WC.seq (WC.seq (WC.region ?_))))
 refine lr 1 rfl trivial ?_
 refine WL.q [] rfl rfl rfl (q_ev tbOk (.v (.int .i64 (v.1.length : Int))) rfl (by exact trivial) (by exact lenT)) ?_
 refine WL.nil (WQ.thenNormal ?_)
 refine WC.thenCut (X := Bool × Int × Int × Int × Bool × Int × Bool × Int) (fun gG => ⟨[(5, .v (.bool gG.1)), (4, .p 4 0), (2, .p 2 0)], [(2, .blk 23 [.v (.int .i64 0), .v (.int .i64 0), .v (.int .i64 0), .v (.bool false), .v (.int .i64 0), .v (.bool false), .v (.int .i64 0)]), (4, .blk 23 [.v (.int .i64 gG.2.1), .v (.int .i64 gG.2.2.1), .v (.int .i64 gG.2.2.2.1), .v (.bool gG.2.2.2.2.1), .v (.int .i64 gG.2.2.2.2.2.1), .v (.bool gG.2.2.2.2.2.2.1), .v (.int .i64 gG.2.2.2.2.2.2.2)])]⟩) (fun gG => dutyParseWords_j1 gG.1 gG.2.1 gG.2.2.1 gG.2.2.2.1 gG.2.2.2.2.1 gG.2.2.2.2.2.1 gG.2.2.2.2.2.2.1 gG.2.2.2.2.2.2.2 = some r) ?_ ?_
 ·refine WC.block (WC.seq (WC.block (WC.seq (WC.block (WC.seq ?_)))))
  refine WC.thenCut (X := (List Str) × Bool × Int × Int × Int × Bool × Int × Bool × Int) (fun gG => ⟨[(0, .v (.sl 1 (gG.1.map eStr))), (5, .v (.bool gG.2.1)), (4, .p 4 0), (2, .p 2 0)], [(2, .blk 23 [.v (.int .i64 0), .v (.int .i64 0), .v (.int .i64 0), .v (.bool false), .v (.int .i64 0), .v (.bool false), .v (.int .i64 0)]), (4, .blk 23 [.v (.int .i64 gG.2.2.1), .v (.int .i64 gG.2.2.2.1), .v (.int .i64 gG.2.2.2.2.1), .v (.bool gG.2.2.2.2.2.1), .v (.int .i64 gG.2.2.2.2.2.2.1), .v (.bool gG.2.2.2.2.2.2.2.1), .v (.int .i64 gG.2.2.2.2.2.2.2.2)])]⟩) (fun gG => dutyParseWords_j2 gG.1 gG.2.1 gG.2.2.1 gG.2.2.2.1 gG.2.2.2.2.1 gG.2.2.2.2.2.1 gG.2.2.2.2.2.2.1 gG.2.2.2.2.2.2.2.1 gG.2.2.2.2.2.2.2.2 = some r) ?_ ?_
  ·refine WC.block (WC.seq (WC.block (WC.seq (WC.seq (WC.seq (WC.region ?_))))))
   refine lr 2 rfl trivial ?_
   refine WL.nil (WQ.thenNormal ?_)
   refine WC.cond rfl (fun hc1 => ?_) (fun hc1 => ?_)
   ·replace h := ite_t hc1 h
    refine WC.exit (WQ.thenExit (WQ.thenExit (WQ.blockExit (WQ.thenNormal (WC.seq (WC.order mixed ?_))))))
    refine wr 1 rfl trivial ?_
    replace h := bnd h; obtain ⟨x3, hxx3, h⟩ := h
    refine WR.q [] rfl rfl rfl (q_idx tbOk rfl (by exact trivial) (by decide) (map_get (f := eStr) hxx3)) ?_
    refine wr 2 rfl trivial ?_
    replace h := bnd h; obtain ⟨x4, hxx4, h⟩ := h
    refine WR.q [] rfl rfl rfl (q_idx tbOk rfl (by exact trivial) (by decide) (map_get (f := eStr) hxx4)) ?_
    refine wr 1 rfl trivial ?_
    replace h := bnd h; obtain ⟨v3, hvv3, h⟩ := h
    refine WR.callO [(0, 4)] [(0, 4)] [4] fn58 rfl rfl rfl rfl (by exact trivial) (dutyParseBound_con hw hvv3) rfl rfl (by exact ⟨rfl, trivial⟩) rfl rfl rfl rfl rfl rfl ?_
    refine wr 4 rfl (by exact sideR) ?_
    refine WR.nil (by kernel_rfl) (WQ.thenNormal (WC.region ?_))
    refine lr 1 rfl trivial ?_
    obtain ⟨g1, h⟩ := grd h
    refine WL.q [] rfl rfl rfl (q_ev tbOk (.v (.sl 1 ((v.1.drop (2 : Int).toNat).map eStr))) rfl (by exact sideR) (by exact tdT)) ?_
    refine lr 1 rfl trivial ?_
    refine WL.nil (WQ.blockNormal ?_)
    exact WQ.cut [] ((v.1.drop (2 : Int).toNat), (bif v3.1 then v.2.1 else false), v3.2.Rate, v3.2.Amount, v3.2.Per, v3.2.HasMost, v3.2.Most, v3.2.HasLeast, v3.2.Least) ⟨(by exact ⟨rfl, rfl, rfl, rfl, trivial⟩), (by exact ⟨rfl, rfl, trivial⟩), rfl, rfl, rfl, rfl⟩ h
   ·replace h := ite_f hc1 h
    refine WC.skip (WQ.thenNormal (WC.seq (WC.seq (WC.region ?_))))
    refine lr 2 rfl trivial ?_
    refine WL.nil (WQ.thenNormal ?_)
    refine WC.cond rfl (fun hc2 => ?_) (fun hc2 => ?_)
    ·replace h := ite_t hc2 h
     refine WC.exit (WQ.thenExit (WQ.thenExit ?_))
     refine WQ.blockPass rfl ?_
     refine WQ.thenExit (WQ.blockExit ?_)
     exact WQ.cut [] (v.1, v.2.1, v.2.2.Rate, v.2.2.Amount, v.2.2.Per, v.2.2.HasMost, v.2.2.Most, v.2.2.HasLeast, v.2.2.Least) ⟨(by exact ⟨rfl, rfl, rfl, rfl, trivial⟩), (by exact ⟨rfl, rfl, trivial⟩), rfl, rfl, rfl, rfl⟩ h
    ·replace h := ite_f hc2 h
     refine WC.skip (WQ.thenNormal (WC.seq (WC.region ?_)))
     refine lr 2 rfl trivial ?_
     refine WL.nil (WQ.thenNormal ?_)
     refine WC.cond rfl (fun hc3 => ?_) (fun hc3 => ?_)
     ·replace h := ite_t hc3 h
      refine WC.exit (WQ.thenExit ?_)
      refine WQ.blockPass rfl ?_
      refine WQ.thenExit ?_
      refine WQ.blockPass rfl ?_
      refine WQ.thenExit (WQ.blockExit (WQ.thenNormal (WC.exit ?_)))
      refine WQ.blockPass rfl ?_
      refine WQ.thenExit (WQ.blockExit ?_)
      exact WQ.cut [] (v.2.1, v.2.2.Rate, v.2.2.Amount, v.2.2.Per, v.2.2.HasMost, v.2.2.Most, v.2.2.HasLeast, v.2.2.Least) ⟨(by exact ⟨rfl, rfl, rfl, trivial⟩), (by exact ⟨rfl, rfl, trivial⟩), rfl, rfl, rfl, rfl⟩ h
     ·replace h := ite_f hc3 h
      refine WC.skip (WQ.thenNormal (WC.exit ?_))
      refine WQ.blockPass rfl ?_
      refine WQ.thenExit ?_
      refine WQ.blockPass rfl ?_
      refine WQ.thenExit ?_
      refine WQ.blockPass rfl ?_
      refine WQ.thenExit (WQ.blockExit (WQ.thenNormal (WC.seq (WC.region ?_))))
      refine lr 1 rfl trivial ?_
      refine WL.nil (WQ.thenNormal (WC.exit (WQ.blockExit ?_)))
      exact WQ.cut [] (false, v.2.2.Rate, v.2.2.Amount, v.2.2.Per, v.2.2.HasMost, v.2.2.Most, v.2.2.HasLeast, v.2.2.Least) ⟨(by exact ⟨rfl, rfl, rfl, trivial⟩), (by exact ⟨rfl, rfl, trivial⟩), rfl, rfl, rfl, rfl⟩ h
  ·rintro ⟨words2, ok2, c4_02, c4_12, c4_22, c4_32, c4_42, c4_52, c4_62⟩ h
   replace h : dutyParseWords_j2 words2 ok2 c4_02 c4_12 c4_22 c4_32 c4_42 c4_52 c4_62 = some _ := h
   unfold dutyParseWords_j2 at h
   show WC _ _ _ ⟨[(0, .v (.sl 1 (words2.map eStr))), (5, .v (.bool ok2)), (4, .p 4 0), (2, .p 2 0)], [(2, .blk 23 [.v (.int .i64 0), .v (.int .i64 0), .v (.int .i64 0), .v (.bool false), .v (.int .i64 0), .v (.bool false), .v (.int .i64 0)]), (4, .blk 23 [.v (.int .i64 c4_02), .v (.int .i64 c4_12), .v (.int .i64 c4_22), .v (.bool c4_32), .v (.int .i64 c4_42), .v (.bool c4_52), .v (.int .i64 c4_62)])]⟩ _ _
   refine WC.seq (WC.order mixed ?_)
   refine wr 1 rfl trivial ?_
   replace h := bnd h; obtain ⟨x, hxx, h⟩ := h
   refine WR.q [] rfl rfl rfl (q_idx tbOk rfl (by exact trivial) (by decide) (map_get (f := eStr) hxx)) ?_
   refine wr 2 rfl trivial ?_
   replace h := bnd h; obtain ⟨x2, hxx2, h⟩ := h
   refine WR.q [] rfl rfl rfl (q_idx tbOk rfl (by exact trivial) (by decide) (map_get (f := eStr) hxx2)) ?_
   refine wr 1 rfl trivial ?_
   replace h := bnd h; obtain ⟨v2, hvv2, h⟩ := h
   refine WR.callO [(0, 4)] [(0, 4)] [4] fn58 rfl rfl rfl rfl (by exact trivial) (dutyParseBound_con hw hvv2) rfl rfl (by exact ⟨rfl, trivial⟩) rfl rfl rfl rfl rfl rfl ?_
   refine wr 4 rfl (by exact sideR) ?_
   refine WR.nil (by kernel_rfl) (WQ.thenNormal (WC.exit ?_))
   refine WQ.blockPass rfl ?_
   refine WQ.thenExit ?_
   refine WQ.blockPass rfl ?_
   refine WQ.thenExit (WQ.blockExit ?_)
   exact WQ.cut [] ((bif v2.1 then ok2 else false), v2.2.Rate, v2.2.Amount, v2.2.Per, v2.2.HasMost, v2.2.Most, v2.2.HasLeast, v2.2.Least) ⟨(by exact ⟨rfl, rfl, rfl, trivial⟩), (by exact ⟨rfl, rfl, trivial⟩), rfl, rfl, rfl, rfl⟩ h
 ·rintro ⟨ok, c4_0, c4_1, c4_2, c4_3, c4_4, c4_5, c4_6⟩ h
  replace h : dutyParseWords_j1 ok c4_0 c4_1 c4_2 c4_3 c4_4 c4_5 c4_6 = some _ := h
  unfold dutyParseWords_j1 at h
  show WC _ _ _ ⟨[(5, .v (.bool ok)), (4, .p 4 0), (2, .p 2 0)], [(2, .blk 23 [.v (.int .i64 0), .v (.int .i64 0), .v (.int .i64 0), .v (.bool false), .v (.int .i64 0), .v (.bool false), .v (.int .i64 0)]), (4, .blk 23 [.v (.int .i64 c4_0), .v (.int .i64 c4_1), .v (.int .i64 c4_2), .v (.bool c4_3), .v (.int .i64 c4_4), .v (.bool c4_5), .v (.int .i64 c4_6)])]⟩ _ _
  refine WC.seq (WC.region ?_)
  refine lr 4 rfl trivial ?_
  refine WL.nil (WQ.thenNormal (WC.ret ?_))
  cases h
  exact WQ.rets tbOk (r := .tup [.v (.agg [.int .i64 ((⟨c4_0, c4_1, c4_2, c4_3, c4_4, c4_5, c4_6⟩ : ApiDuty).Rate), .int .i64 ((⟨c4_0, c4_1, c4_2, c4_3, c4_4, c4_5, c4_6⟩ : ApiDuty).Amount), .int .i64 ((⟨c4_0, c4_1, c4_2, c4_3, c4_4, c4_5, c4_6⟩ : ApiDuty).Per), .bool ((⟨c4_0, c4_1, c4_2, c4_3, c4_4, c4_5, c4_6⟩ : ApiDuty).HasMost), .int .i64 ((⟨c4_0, c4_1, c4_2, c4_3, c4_4, c4_5, c4_6⟩ : ApiDuty).Most), .bool ((⟨c4_0, c4_1, c4_2, c4_3, c4_4, c4_5, c4_6⟩ : ApiDuty).HasLeast), .int .i64 ((⟨c4_0, c4_1, c4_2, c4_3, c4_4, c4_5, c4_6⟩ : ApiDuty).Least)]), .v (.bool ok)]) hR [] (.inl rfl) rfl rfl (Le.tup (.cons (Le.refl _) (.cons (Le.refl _) .nil))) (by exact trivial) rfl rfl rfl rfl

theorem dutyParse_con {wg : World} (hw : WG wg) {s : Str} {r : ApiDuty × Int} (h : dutyParse s = some r) : Con Tryz.prog wg gl 17 [.v (.str s)] [] (.tup [.v (.agg [.int .i64 r.1.Rate, .int .i64 r.1.Amount, .int .i64 r.1.Per, .bool r.1.HasMost, .int .i64 r.1.Most, .bool r.1.HasLeast, .int .i64 r.1.Least]), .v (.int .i64 r.2)]) [] := by
 unfold dutyParse at h
 refine con_of_WC (S := slotsOf 0 _) Tryz.func17 rfl Tryz.ntmps17 rfl (fun t x hx => (slotsOf_get hx).2) ?_
 intro F L w ρ0 R hR
 show WC _ _ _ ⟨[(0, .v (.str s))], []⟩ _ _
 refine WC.seq (WC.region ?_)
 refine lr 2 rfl trivial ?_
 refine WL.nil (WQ.thenNormal (WC.seq (WC.region ?_)))
 refine lr 1 rfl trivial ?_
 replace h := bnd h; obtain ⟨v, hvv, h⟩ := h
 refine WL.call0 fn33 rfl rfl rfl rfl (by exact trivial) rfl (splitS_con hw hvv) ?_
 replace h := bnd h; obtain ⟨v2, hvv2, h⟩ := h
 refine WL.call0 fn32 rfl rfl rfl rfl (by exact trivial) rfl (dutyParseWords_con hw hvv2) ?_
 refine lr 6 rfl trivial ?_
 refine WL.nil (WQ.thenNormal (WC.seq (WC.seq (WC.region ?_))))
 refine lr 4 rfl (by exact sideR) ?_
 replace h := bnd h; obtain ⟨v3, hvv3, h⟩ := h
 refine WL.gcall0 fn11 rfl rfl rfl rfl rfl (fun _ => (by exact sideR)) rfl (fun hg => (dutyValidate_con hw (ite_t hg hvv3))) ?_
 refine lr 4 rfl (by exact sideR) ?_
 replace h := bnd h; obtain ⟨v4, hvv4, h⟩ := h
 refine WL.gcall0 fn15 rfl rfl rfl rfl rfl (fun _ => (by exact sideR)) rfl (fun hg => (dutyFormat_con hw (ite_t hg hvv4))) ?_
 refine lr 3 rfl (by exact sideR) ?_
 refine WL.nil (WQ.thenNormal ?_)
 refine WC.cond rfl (fun hc1 => ?_) (fun hc1 => ?_)
 ·replace h := ite_t hc1 h
  refine WC.seq (WC.region ?_)
  refine lr 3 rfl trivial ?_
  refine WL.nil (WQ.thenNormal (WC.ret (WQ.thenRet ?_)))
  cases h
  exact WQ.rets tbOk (r := .tup [.v (.agg [.int .i64 ((⟨0, 0, 0, false, 0, false, 0⟩ : ApiDuty).Rate), .int .i64 ((⟨0, 0, 0, false, 0, false, 0⟩ : ApiDuty).Amount), .int .i64 ((⟨0, 0, 0, false, 0, false, 0⟩ : ApiDuty).Per), .bool ((⟨0, 0, 0, false, 0, false, 0⟩ : ApiDuty).HasMost), .int .i64 ((⟨0, 0, 0, false, 0, false, 0⟩ : ApiDuty).Most), .bool ((⟨0, 0, 0, false, 0, false, 0⟩ : ApiDuty).HasLeast), .int .i64 ((⟨0, 0, 0, false, 0, false, 0⟩ : ApiDuty).Least)]), .v (.int .i64 (4 : Int))]) hR [] (.inl rfl) rfl rfl (Le.tup (.cons (Le.refl _) (.cons (Le.refl _) .nil))) (by exact trivial) rfl rfl rfl rfl
 ·replace h := ite_f hc1 h
  refine WC.skip (WQ.thenNormal (WC.seq (WC.region ?_)))
  refine lr 3 rfl trivial ?_
  refine WL.nil (WQ.thenNormal (WC.ret ?_))
  cases h
  exact WQ.rets tbOk (r := .tup [.v (.agg [.int .i64 v2.1.Rate, .int .i64 v2.1.Amount, .int .i64 v2.1.Per, .bool v2.1.HasMost, .int .i64 v2.1.Most, .bool v2.1.HasLeast, .int .i64 v2.1.Least]), .v (.int .i64 (0 : Int))]) hR [] (.inl rfl) rfl rfl (Le.tup (.cons (Le.refl _) (.cons (Le.refl _) .nil))) (by exact trivial) rfl rfl rfl rfl

theorem refFormatDuty_con {wg : World} (hw : WG wg) {d : ApiDuty} {r : Str} (h : refFormatDuty d = some r) : Con Tryz.prog wg gl 16 [.v (.agg [.int .i64 d.Rate, .int .i64 d.Amount, .int .i64 d.Per, .bool d.HasMost, .int .i64 d.Most, .bool d.HasLeast, .int .i64 d.Least])] [] (.v (.str r)) [] := by
 unfold refFormatDuty at h
 refine con_of_WC (S := slotsOf 0 _) Tryz.func16 rfl Tryz.ntmps16 rfl (fun t x hx => (slotsOf_get hx).2) ?_
 intro F L w ρ0 R hR
 show WC _ _ _ ⟨[(0, .v (.agg [.int .i64 d.Rate, .int .i64 d.Amount, .int .i64 d.Per, .bool d.HasMost, .int .i64 d.Most, .bool d.HasLeast, .int .i64 d.Least]))], []⟩ _ _
 refine WC.seq (WC.region ?_)
 refine lr 2 rfl trivial ?_
 refine WL.nil (WQ.thenNormal (WC.seq (WC.seq (WC.region ?_))))
 refine lr 1 rfl trivial ?_
 replace h := bnd h; obtain ⟨v, hvv, h⟩ := h
 refine WL.call0 fn12 rfl rfl rfl rfl (by exact trivial) rfl (refDuty_con hw hvv) ?_
 refine lr 1 rfl trivial ?_
 refine WL.nil (WQ.thenNormal ?_)
 refine WC.cond rfl (fun hc1 => ?_) (fun hc1 => ?_)
 ·replace h := ite_t hc1 h
  refine WC.seq (WC.region ?_)
  refine lr 1 rfl trivial ?_
  refine WL.nil (WQ.thenNormal (WC.ret (WQ.thenRet ?_)))
  cases h
  exact WQ.rets tbOk hR [] (.inl rfl) rfl rfl (Le.refl _) (by exact trivial) rfl rfl rfl rfl
 ·replace h := ite_f hc1 h
  refine WC.skip (WQ.thenNormal (WC.seq (WC.region ?_)))
  refine lr 2 rfl trivial ?_
  replace h := bnd h; obtain ⟨v2, hvv2, h⟩ := h
  refine WL.call0 fn29 rfl rfl rfl rfl (by exact trivial) rfl (r12Percent_con hw hvv2) ?_
  refine lr 1 rfl trivial ?_
  refine WL.nil (WQ.thenNormal (WC.seq (WC.seq (WC.region ?_))))
  refine lr 3 rfl trivial ?_
  refine WL.nil (WQ.thenNormal ?_)
  refine WC.thenCut (X := Str) (fun gG => ⟨[(3, .v (.str gG)), (1, .p 1 0)], [(1, .blk 23 [.v (.int .i64 d.Rate), .v (.int .i64 d.Amount), .v (.int .i64 d.Per), .v (.bool d.HasMost), .v (.int .i64 d.Most), .v (.bool d.HasLeast), .v (.int .i64 d.Least)])]⟩) (fun gG => refFormatDuty_j1 d gG = some r) ?_ ?_
  ·refine WC.cond rfl (fun hc4 => ?_) (fun hc4 => ?_)
   ·replace h := ite_t hc4 h
    refine WC.seq (WC.order mixed ?_)
    refine wr 2 rfl trivial ?_
    replace h := bnd h; obtain ⟨v5, hvv5, h⟩ := h
    refine WR.call0 fn30 rfl rfl rfl rfl (by exact trivial) rfl (r02Format_con hw hvv5) ?_
    obtain ⟨g5, h⟩ := grd h
    refine wr 3 rfl (by repeat' (first | exact trivial | assumption | intro _ | exact g5 (by assumption) | apply And.intro | exact sideT | (refine and_i ?_ ?_))) ?_
    replace h := bnd h; obtain ⟨v6, hvv6, h⟩ := h
    refine WR.call0 fn31 rfl rfl rfl rfl (by exact trivial) rfl (r02Digits_con hw hvv6) ?_
    obtain ⟨g6, h⟩ := grd h
    refine wr 2 rfl (by repeat' (first | exact trivial | assumption | intro _ | exact g6 (by assumption) | apply And.intro | exact sideT | (refine and_i ?_ ?_))) ?_
    refine WR.nil (by kernel_rfl) (WQ.thenNormal (WC.seq (WC.region ?_)))
    refine lr 3 rfl trivial ?_
    refine WL.nil (WQ.thenNormal ?_)
    refine WC.cond rfl (fun hc5 => ?_) (fun hc5 => ?_)
    ·replace h := ite_t hc5 h
     refine WC.region ?_
     refine lr 2 rfl trivial ?_
     refine WL.nil ?_
     exact WQ.cut [] ((v5 ++ ([47] : Str)) ++ v6) ⟨(by exact ⟨rfl, rfl, trivial⟩), (by exact ⟨rfl, trivial⟩), rfl, rfl, rfl, rfl⟩ h
    ·replace h := ite_f hc5 h
     refine WC.region ?_
     obtain ⟨g7, h⟩ := grd h
     obtain ⟨g8, h⟩ := grd h
     refine lr 5 rfl (by repeat' (first | exact trivial | assumption | intro _ | exact g7 (by assumption) | exact g8 (by assumption) | apply And.intro | exact sideT | (refine and_i ?_ ?_))) ?_
     refine WL.nil ?_
     exact WQ.cut [] ((v2 ++ ([32, 43, 32] : Str)) ++ ((v5 ++ ([47] : Str)) ++ v6)) ⟨(by exact ⟨rfl, rfl, trivial⟩), (by exact ⟨rfl, trivial⟩), rfl, rfl, rfl, rfl⟩ h
   ·replace h := ite_f hc4 h
    refine WC.skip ?_
    exact WQ.cut [] v2 ⟨(by exact ⟨rfl, rfl, trivial⟩), (by exact ⟨rfl, trivial⟩), rfl, rfl, rfl, rfl⟩ h
  ·intro s h
   replace h : refFormatDuty_j1 d s = some _ := h
   unfold refFormatDuty_j1 at h
   show WC _ _ _ ⟨[(3, .v (.str s)), (1, .p 1 0)], [(1, .blk 23 [.v (.int .i64 d.Rate), .v (.int .i64 d.Amount), .v (.int .i64 d.Per), .v (.bool d.HasMost), .v (.int .i64 d.Most), .v (.bool d.HasLeast), .v (.int .i64 d.Least)])]⟩ _ _
   refine WC.seq (WC.seq (WC.region ?_))
   refine lr 2 rfl trivial ?_
   refine WL.nil (WQ.thenNormal ?_)
   refine WC.thenCut (X := Str) (fun gG => ⟨[(3, .v (.str gG)), (1, .p 1 0)], [(1, .blk 23 [.v (.int .i64 d.Rate), .v (.int .i64 d.Amount), .v (.int .i64 d.Per), .v (.bool d.HasMost), .v (.int .i64 d.Most), .v (.bool d.HasLeast), .v (.int .i64 d.Least)])]⟩) (fun gG => refFormatDuty_j2 d gG = some r) ?_ ?_
   ·refine WC.cond rfl (fun hc3 => ?_) (fun hc3 => ?_)
    ·replace h := ite_t hc3 h
     refine WC.region ?_
     obtain ⟨g3, h⟩ := grd h
     refine lr 4 rfl (by repeat' (first | exact trivial | assumption | intro _ | exact g3 (by assumption) | apply And.intro | exact sideT | (refine and_i ?_ ?_))) ?_
     replace h := bnd h; obtain ⟨v4, hvv4, h⟩ := h
     refine WL.call0 fn29 rfl rfl rfl rfl (by exact trivial) rfl (r12Percent_con hw hvv4) ?_
     obtain ⟨g4, h⟩ := grd h
     refine lr 2 rfl (by repeat' (first | exact trivial | assumption | intro _ | exact g4 (by assumption) | apply And.intro | exact sideT | (refine and_i ?_ ?_))) ?_
     refine WL.nil ?_
     exact WQ.cut [] ((s ++ ([32, 109, 97, 120, 32] : Str)) ++ v4) ⟨(by exact ⟨rfl, rfl, trivial⟩), (by exact ⟨rfl, trivial⟩), rfl, rfl, rfl, rfl⟩ h
    ·replace h := ite_f hc3 h
     refine WC.skip ?_
     exact WQ.cut [] s ⟨(by exact ⟨rfl, rfl, trivial⟩), (by exact ⟨rfl, trivial⟩), rfl, rfl, rfl, rfl⟩ h
   ·intro s2 h
    replace h : refFormatDuty_j2 d s2 = some _ := h
    unfold refFormatDuty_j2 at h
    show WC _ _ _ ⟨[(3, .v (.str s2)), (1, .p 1 0)], [(1, .blk 23 [.v (.int .i64 d.Rate), .v (.int .i64 d.Amount), .v (.int .i64 d.Per), .v (.bool d.HasMost), .v (.int .i64 d.Most), .v (.bool d.HasLeast), .v (.int .i64 d.Least)])]⟩ _ _
    refine WC.seq (WC.seq (WC.region ?_))
    refine lr 2 rfl trivial ?_
    refine WL.nil (WQ.thenNormal ?_)
    refine WC.thenCut (X := Str) (fun gG => ⟨[(3, .v (.str gG))], []⟩) (fun gG => refFormatDuty_j3 gG = some r) ?_ ?_
    ·refine WC.cond rfl (fun hc2 => ?_) (fun hc2 => ?_)
     ·replace h := ite_t hc2 h
      refine WC.region ?_
      obtain ⟨g1, h⟩ := grd h
      refine lr 4 rfl (by repeat' (first | exact trivial | assumption | intro _ | exact g1 (by assumption) | apply And.intro | exact sideT | (refine and_i ?_ ?_))) ?_
      replace h := bnd h; obtain ⟨v3, hvv3, h⟩ := h
      refine WL.call0 fn29 rfl rfl rfl rfl (by exact trivial) rfl (r12Percent_con hw hvv3) ?_
      obtain ⟨g2, h⟩ := grd h
      refine lr 2 rfl (by repeat' (first | exact trivial | assumption | intro _ | exact g2 (by assumption) | apply And.intro | exact sideT | (refine and_i ?_ ?_))) ?_
      refine WL.nil ?_
      exact WQ.cut [] ((s2 ++ ([32, 109, 105, 110, 32] : Str)) ++ v3) ⟨(by exact ⟨rfl, trivial⟩), (by exact trivial), rfl, rfl, rfl, rfl⟩ h
     ·replace h := ite_f hc2 h
      refine WC.skip ?_
      exact WQ.cut [] s2 ⟨(by exact ⟨rfl, trivial⟩), (by exact trivial), rfl, rfl, rfl, rfl⟩ h
    ·intro s3 h
     replace h : refFormatDuty_j3 s3 = some _ := h
     unfold refFormatDuty_j3 at h
     show WC _ _ _ ⟨[(3, .v (.str s3))], []⟩ _ _
     refine WC.seq (WC.region ?_)
     refine lr 2 rfl trivial ?_
     refine WL.nil (WQ.thenNormal (WC.ret ?_))
     cases h
     exact WQ.rets tbOk hR [] (.inl rfl) rfl rfl (Le.refl _) (by exact trivial) rfl rfl rfl rfl

theorem refParseDuty_con {wg : World} (hw : WG wg) {s : Str} {r : ApiDuty × Int} (h : refParseDuty s = some r) : Con Tryz.prog wg gl 18 [.v (.str s)] [] (.tup [.v (.agg [.int .i64 r.1.Rate, .int .i64 r.1.Amount, .int .i64 r.1.Per, .bool r.1.HasMost, .int .i64 r.1.Most, .bool r.1.HasLeast, .int .i64 r.1.Least]), .v (.int .i64 r.2)]) [] := by
 unfold refParseDuty at h
 refine con_of_WC (S := slotsOf 0 _) Tryz.func18 rfl Tryz.ntmps18 rfl (fun t x hx => (slotsOf_get hx).2) ?_
 intro F L w ρ0 R hR
 show WC _ _ _ ⟨[(0, .v (.str s))], []⟩ _ _
 refine WC.seq (WC.region ?_)
 refine lr 2 rfl trivial ?_
 refine WL.nil (WQ.thenNormal (WC.seq (WC.region ?_)))
 refine lr 3 rfl trivial ?_
 refine WL.nil (WQ.thenNormal (WC.seq (WC.region ?_)))
 refine lr 1 rfl trivial ?_
 replace h := bnd h; obtain ⟨v, hvv, h⟩ := h
 refine WL.call0 fn34 rfl rfl rfl rfl (by exact trivial) rfl (r08Split_con hw hvv) ?_
 refine lr 1 rfl trivial ?_
 refine WL.nil (WQ.thenNormal (WC.seq (WC.seq (WC.region ?_))))
 refine lr 1 rfl trivial ?_
 refine WL.nil (WQ.thenNormal ?_)
 refine WC.thenCut (X := Int × Int × Int × Bool × Int × Bool × Int) (fun gG => ⟨[(4, .p 4 0), (2, .p 2 0), (0, .v (.str s))], [(2, .blk 23 [.v (.int .i64 0), .v (.int .i64 0), .v (.int .i64 0), .v (.bool false), .v (.int .i64 0), .v (.bool false), .v (.int .i64 0)]), (4, .blk 23 [.v (.int .i64 gG.1), .v (.int .i64 gG.2.1), .v (.int .i64 gG.2.2.1), .v (.bool gG.2.2.2.1), .v (.int .i64 gG.2.2.2.2.1), .v (.bool gG.2.2.2.2.2.1), .v (.int .i64 gG.2.2.2.2.2.2)])]⟩) (fun gG => refParseDuty_j1 s gG.1 gG.2.1 gG.2.2.1 gG.2.2.2.1 gG.2.2.2.2.1 gG.2.2.2.2.2.1 gG.2.2.2.2.2.2 = some r) ?_ ?_
 ·refine WC.block ?_
  obtain ⟨eQ1, hl1, hk1⟩ := bnd h
  clear h
  refine WC.loop (σ := Int × Int × Int × Int × Bool × Int × Bool × Int) (τ := (Int × Int × Int × Bool × Int × Bool × Int)) (fun sS => ⟨[(6, .v (.int .i64 sS.1)), (5, .v (.sl 1 (v.map eStr))), (4, .p 4 0), (2, .p 2 0), (0, .v (.str s))], [(2, .blk 23 [.v (.int .i64 0), .v (.int .i64 0), .v (.int .i64 0), .v (.bool false), .v (.int .i64 0), .v (.bool false), .v (.int .i64 0)]), (4, .blk 23 [.v (.int .i64 sS.2.1), .v (.int .i64 sS.2.2.1), .v (.int .i64 sS.2.2.2.1), .v (.bool sS.2.2.2.2.1), .v (.int .i64 sS.2.2.2.2.2.1), .v (.bool sS.2.2.2.2.2.2.1), .v (.int .i64 sS.2.2.2.2.2.2.2)])]⟩) (refParseDuty_b1 s v) [] ((0 : Int), 0, 0, 0, false, 0, false, 0) hl1 ⟨(by exact ⟨rfl, rfl, rfl, rfl, rfl, trivial⟩), (by exact ⟨rfl, rfl, trivial⟩), rfl, rfl, rfl, rfl⟩ ?_
  rintro ⟨i, c4_02, c4_12, c4_22, c4_32, c4_42, c4_52, c4_62⟩ m hn1 he1 hx1
  obtain ⟨o1, hf1⟩ := some_of hx1
  have h := hf1
  unfold refParseDuty_b1 at h
  show WC _ _ _ ⟨[(6, .v (.int .i64 i)), (5, .v (.sl 1 (v.map eStr))), (4, .p 4 0), (2, .p 2 0), (0, .v (.str s))], [(2, .blk 23 [.v (.int .i64 0), .v (.int .i64 0), .v (.int .i64 0), .v (.bool false), .v (.int .i64 0), .v (.bool false), .v (.int .i64 0)]), (4, .blk 23 [.v (.int .i64 c4_02), .v (.int .i64 c4_12), .v (.int .i64 c4_22), .v (.bool c4_32), .v (.int .i64 c4_42), .v (.bool c4_52), .v (.int .i64 c4_62)])]⟩ _ _
  refine WC.seq (WC.seq (WC.region ?_))
  refine lr 2 rfl trivial ?_
  refine WL.q [] rfl rfl rfl (q_ev tbOk (.v (.int .i64 (v.length : Int))) rfl (by exact trivial) (by exact lenT)) ?_
  refine lr 1 rfl trivial ?_
  refine WL.nil (WQ.thenNormal ?_)
  refine WC.cond rfl (fun hc2 => ?_) (fun hc2 => ?_)
  ·replace h := ite_t hc2 h
   refine WC.skip (WQ.thenNormal (WC.seq ?_))
   refine WC.thenCut (X := Int × Int × Int × Int × Bool × Int × Bool × Int) (fun gG => ⟨[(6, .v (.int .i64 gG.1)), (5, .v (.sl 1 (v.map eStr))), (4, .p 4 0), (2, .p 2 0), (0, .v (.str s))], [(2, .blk 23 [.v (.int .i64 0), .v (.int .i64 0), .v (.int .i64 0), .v (.bool false), .v (.int .i64 0), .v (.bool false), .v (.int .i64 0)]), (4, .blk 23 [.v (.int .i64 gG.2.1), .v (.int .i64 gG.2.2.1), .v (.int .i64 gG.2.2.2.1), .v (.bool gG.2.2.2.2.1), .v (.int .i64 gG.2.2.2.2.2.1), .v (.bool gG.2.2.2.2.2.2.1), .v (.int .i64 gG.2.2.2.2.2.2.2)])]⟩) (fun gG => refParseDuty_j2 s v gG.1 gG.2.1 gG.2.2.1 gG.2.2.2.1 gG.2.2.2.2.1 gG.2.2.2.2.2.1 gG.2.2.2.2.2.2.1 gG.2.2.2.2.2.2.2 = some o1) ?_ ?_
   ·refine WC.block (WC.seq (WC.region ?_))
    refine lr 2 rfl trivial ?_
    obtain ⟨g1, h⟩ := grd h
    replace h := bnd h; obtain ⟨x9, hxx9, h⟩ := h
    refine WL.q [] rfl rfl rfl (q_idx tbOk rfl (by exact trivial) g1 (map_get (f := eStr) hxx9)) ?_
    refine lr 1 rfl trivial ?_
    replace h := bnd h; obtain ⟨v9, hvv9, h⟩ := h
    refine WL.call0 fn34 rfl rfl rfl rfl (by exact trivial) rfl (r08Split_con hw hvv9) ?_
    refine lr 1 rfl trivial ?_
    refine WL.nil (WQ.thenNormal (WC.block (WC.seq (WC.region ?_))))
    refine lr 1 rfl trivial ?_
    refine WL.q [] rfl rfl rfl (q_ev tbOk (.v (.int .i64 (v9.length : Int))) rfl (by exact trivial) (by exact lenT)) ?_
    refine lr 2 rfl trivial ?_
    refine WL.nil (WQ.thenNormal ?_)
    refine WC.cond rfl (fun hc3 => ?_) (fun hc3 => ?_)
    ·replace h := ite_t hc3 h
     refine WC.seq (WC.region ?_)
     refine lr 1 rfl trivial ?_
     replace h := bnd h; obtain ⟨x10, hxx10, h⟩ := h
     refine WL.q [] rfl rfl rfl (q_idx tbOk rfl (by exact trivial) (by decide) (map_get (f := eStr) hxx10)) ?_
     refine lr 1 rfl trivial ?_
     replace h := bnd h; obtain ⟨v10, hvv10, h⟩ := h
     refine WL.call0 fn35 rfl rfl rfl rfl (by exact trivial) rfl (r02Parse_con hw hvv10) ?_
     refine lr 5 rfl trivial ?_
     refine WL.nil (WQ.thenNormal (WC.region ?_))
     refine lr 1 rfl trivial ?_
     replace h := bnd h; obtain ⟨x11, hxx11, h⟩ := h
     refine WL.q [] rfl rfl rfl (q_idx tbOk rfl (by exact trivial) (by decide) (map_get (f := eStr) hxx11)) ?_
     refine lr 1 rfl trivial ?_
     replace h := bnd h; obtain ⟨v11, hvv11, h⟩ := h
     refine WL.call0 fn36 rfl rfl rfl rfl (by exact trivial) rfl (r08Num_con hw hvv11) ?_
     refine lr 2 rfl trivial ?_
     refine WL.nil (WQ.blockNormal (WQ.blockNormal ?_))
     exact WQ.cut [] (i, c4_02, v10.1, v11, c4_32, c4_42, c4_52, c4_62) ⟨(by exact ⟨rfl, rfl, rfl, rfl, rfl, trivial⟩), (by exact ⟨rfl, rfl, trivial⟩), rfl, rfl, rfl, rfl⟩ h
    ·replace h := ite_f hc3 h
     refine WC.seq (WC.region ?_)
     refine lr 2 rfl trivial ?_
     obtain ⟨g2, h⟩ := grd h
     replace h := bnd h; obtain ⟨x12, hxx12, h⟩ := h
     refine WL.q [] rfl rfl rfl (q_idx tbOk rfl (by exact trivial) g2 (map_get (f := eStr) hxx12)) ?_
     refine lr 6 rfl (by exact sideR) ?_
     refine WL.gq [] rfl rfl rfl rfl (fun hg => q_ev tbOk (.v (.int .i64 (v.length : Int))) rfl (by exact sideR) (by exact lenT)) ?_
     refine lr 3 rfl (by exact sideR) ?_
     refine WL.nil (WQ.thenNormal ?_)
     refine WC.cond rfl (fun hc4 => ?_) (fun hc4 => ?_)
     ·replace h := ite_t hc4 h
      refine WC.seq (WC.region ?_)
      refine lr 3 rfl trivial ?_
      refine WL.nil (WQ.thenNormal (WC.region ?_))
      refine lr 2 rfl trivial ?_
      obtain ⟨g3, h⟩ := grd h
      replace h := bnd h; obtain ⟨x13, hxx13, h⟩ := h
      refine WL.q [] rfl rfl rfl (q_idx tbOk rfl (by exact trivial) g3 (map_get (f := eStr) hxx13)) ?_
      refine lr 1 rfl trivial ?_
      replace h := bnd h; obtain ⟨v12, hvv12, h⟩ := h
      refine WL.call0 fn37 rfl rfl rfl rfl (by exact trivial) rfl (refShare_con hw hvv12) ?_
      refine lr 4 rfl trivial ?_
      refine WL.nil (WQ.blockNormal (WQ.blockNormal ?_))
      exact WQ.cut [] ((IntKind.i64.wrap (i + (1 : Int))), c4_02, c4_12, c4_22, true, v12, c4_52, c4_62) ⟨(by exact ⟨rfl, rfl, rfl, rfl, rfl, trivial⟩), (by exact ⟨rfl, rfl, trivial⟩), rfl, rfl, rfl, rfl⟩ h
     ·replace h := ite_f hc4 h
      refine WC.seq (WC.region ?_)
      refine lr 2 rfl trivial ?_
      obtain ⟨g4, h⟩ := grd h
      replace h := bnd h; obtain ⟨x14, hxx14, h⟩ := h
      refine WL.q [] rfl rfl rfl (q_idx tbOk rfl (by exact trivial) g4 (map_get (f := eStr) hxx14)) ?_
      refine lr 6 rfl (by exact sideR) ?_
      refine WL.gq [] rfl rfl rfl rfl (fun hg => q_ev tbOk (.v (.int .i64 (v.length : Int))) rfl (by exact sideR) (by exact lenT)) ?_
      refine lr 3 rfl (by exact sideR) ?_
      refine WL.nil (WQ.thenNormal ?_)
      refine WC.cond rfl (fun hc5 => ?_) (fun hc5 => ?_)
      ·replace h := ite_t hc5 h
       refine WC.seq (WC.region ?_)
       refine lr 3 rfl trivial ?_
       refine WL.nil (WQ.thenNormal (WC.region ?_))
       refine lr 2 rfl trivial ?_
       obtain ⟨g5, h⟩ := grd h
       replace h := bnd h; obtain ⟨x15, hxx15, h⟩ := h
       refine WL.q [] rfl rfl rfl (q_idx tbOk rfl (by exact trivial) g5 (map_get (f := eStr) hxx15)) ?_
       refine lr 1 rfl trivial ?_
       replace h := bnd h; obtain ⟨v13, hvv13, h⟩ := h
       refine WL.call0 fn37 rfl rfl rfl rfl (by exact trivial) rfl (refShare_con hw hvv13) ?_
       refine lr 4 rfl trivial ?_
       refine WL.nil (WQ.blockNormal (WQ.blockNormal ?_))
       exact WQ.cut [] ((IntKind.i64.wrap (i + (1 : Int))), c4_02, c4_12, c4_22, c4_32, c4_42, true, v13) ⟨(by exact ⟨rfl, rfl, rfl, rfl, rfl, trivial⟩), (by exact ⟨rfl, rfl, trivial⟩), rfl, rfl, rfl, rfl⟩ h
      ·replace h := ite_f hc5 h
       refine WC.seq (WC.region ?_)
       refine lr 3 rfl trivial ?_
       refine WL.nil (WQ.thenNormal ?_)
       refine WC.cond rfl (fun hc6 => ?_) (fun hc6 => ?_)
       ·replace h := ite_t hc6 h
        refine WC.region ?_
        refine lr 2 rfl trivial ?_
        obtain ⟨g6, h⟩ := grd h
        replace h := bnd h; obtain ⟨x16, hxx16, h⟩ := h
        refine WL.q [] rfl rfl rfl (q_idx tbOk rfl (by exact trivial) g6 (map_get (f := eStr) hxx16)) ?_
        refine lr 1 rfl trivial ?_
        replace h := bnd h; obtain ⟨v14, hvv14, h⟩ := h
        refine WL.call0 fn37 rfl rfl rfl rfl (by exact trivial) rfl (refShare_con hw hvv14) ?_
        refine lr 2 rfl trivial ?_
        refine WL.nil (WQ.blockNormal (WQ.blockNormal ?_))
        exact WQ.cut [] (i, v14, c4_12, c4_22, c4_32, c4_42, c4_52, c4_62) ⟨(by exact ⟨rfl, rfl, rfl, rfl, rfl, trivial⟩), (by exact ⟨rfl, rfl, trivial⟩), rfl, rfl, rfl, rfl⟩ h
       ·replace h := ite_f hc6 h
        refine WC.skip (WQ.blockNormal (WQ.blockNormal ?_))
        exact WQ.cut [] (i, c4_02, c4_12, c4_22, c4_32, c4_42, c4_52, c4_62) ⟨(by exact ⟨rfl, rfl, rfl, rfl, rfl, trivial⟩), (by exact ⟨rfl, rfl, trivial⟩), rfl, rfl, rfl, rfl⟩ h
   ·rintro ⟨i4, c4_06, c4_16, c4_26, c4_36, c4_46, c4_56, c4_66⟩ h
    replace h : refParseDuty_j2 s v i4 c4_06 c4_16 c4_26 c4_36 c4_46 c4_56 c4_66 = some _ := h
    unfold refParseDuty_j2 at h
    show WC _ _ _ ⟨[(6, .v (.int .i64 i4)), (5, .v (.sl 1 (v.map eStr))), (4, .p 4 0), (2, .p 2 0), (0, .v (.str s))], [(2, .blk 23 [.v (.int .i64 0), .v (.int .i64 0), .v (.int .i64 0), .v (.bool false), .v (.int .i64 0), .v (.bool false), .v (.int .i64 0)]), (4, .blk 23 [.v (.int .i64 c4_06), .v (.int .i64 c4_16), .v (.int .i64 c4_26), .v (.bool c4_36), .v (.int .i64 c4_46), .v (.bool c4_56), .v (.int .i64 c4_66)])]⟩ _ _
    refine WC.region ?_
    refine lr 3 rfl trivial ?_
    refine WL.nil ?_
    cases h
    exact WQ.next [] ((IntKind.i64.wrap (i4 + (1 : Int))), c4_06, c4_16, c4_26, c4_36, c4_46, c4_56, c4_66) ⟨(by exact ⟨rfl, rfl, rfl, rfl, rfl, trivial⟩), (by exact ⟨rfl, rfl, trivial⟩), rfl, rfl, rfl, rfl⟩ (hn1 _ hf1)
  ·replace h := ite_f hc2 h
   refine WC.exit (WQ.thenExit ?_)
   cases h
   have he := he1 _ hf1
   subst he
   replace h := hk1
   try dsimp only at h
   refine WQ.thenExit (WQ.blockExit ?_)
   exact WQ.cut [] (c4_02, c4_12, c4_22, c4_32, c4_42, c4_52, c4_62) ⟨(by exact ⟨rfl, rfl, rfl, trivial⟩), (by exact ⟨rfl, rfl, trivial⟩), rfl, rfl, rfl, rfl⟩ h
 ·rintro ⟨c4_0, c4_1, c4_2, c4_3, c4_4, c4_5, c4_6⟩ h
  replace h : refParseDuty_j1 s c4_0 c4_1 c4_2 c4_3 c4_4 c4_5 c4_6 = some _ := h
  unfold refParseDuty_j1 at h
  show WC _ _ _ ⟨[(4, .p 4 0), (2, .p 2 0), (0, .v (.str s))], [(2, .blk 23 [.v (.int .i64 0), .v (.int .i64 0), .v (.int .i64 0), .v (.bool false), .v (.int .i64 0), .v (.bool false), .v (.int .i64 0)]), (4, .blk 23 [.v (.int .i64 c4_0), .v (.int .i64 c4_1), .v (.int .i64 c4_2), .v (.bool c4_3), .v (.int .i64 c4_4), .v (.bool c4_5), .v (.int .i64 c4_6)])]⟩ _ _
  refine WC.seq (WC.seq (WC.region ?_))
  refine lr 4 rfl (by exact sideR) ?_
  replace h := bnd h; obtain ⟨v2, hvv2, h⟩ := h
  refine WL.gcall0 fn16 rfl rfl rfl rfl rfl (fun _ => (by exact sideR)) rfl (fun hg => (refFormatDuty_con hw (ite_t hg hvv2))) ?_
  refine lr 3 rfl (by exact sideR) ?_
  refine WL.nil (WQ.thenNormal ?_)
  refine WC.cond rfl (fun hc1 => ?_) (fun hc1 => ?_)
  ·replace h := ite_t hc1 h
   refine WC.seq (WC.region ?_)
   refine lr 3 rfl trivial ?_
   refine WL.nil (WQ.thenNormal (WC.ret (WQ.thenRet ?_)))
   cases h
   exact WQ.rets tbOk (r := .tup [.v (.agg [.int .i64 ((⟨0, 0, 0, false, 0, false, 0⟩ : ApiDuty).Rate), .int .i64 ((⟨0, 0, 0, false, 0, false, 0⟩ : ApiDuty).Amount), .int .i64 ((⟨0, 0, 0, false, 0, false, 0⟩ : ApiDuty).Per), .bool ((⟨0, 0, 0, false, 0, false, 0⟩ : ApiDuty).HasMost), .int .i64 ((⟨0, 0, 0, false, 0, false, 0⟩ : ApiDuty).Most), .bool ((⟨0, 0, 0, false, 0, false, 0⟩ : ApiDuty).HasLeast), .int .i64 ((⟨0, 0, 0, false, 0, false, 0⟩ : ApiDuty).Least)]), .v (.int .i64 (4 : Int))]) hR [] (.inl rfl) rfl rfl (Le.tup (.cons (Le.refl _) (.cons (Le.refl _) .nil))) (by exact trivial) rfl rfl rfl rfl
  ·replace h := ite_f hc1 h
   refine WC.skip (WQ.thenNormal (WC.seq (WC.region ?_)))
   refine lr 3 rfl trivial ?_
   refine WL.nil (WQ.thenNormal (WC.ret ?_))
   cases h
   exact WQ.rets tbOk (r := .tup [.v (.agg [.int .i64 ((⟨c4_0, c4_1, c4_2, c4_3, c4_4, c4_5, c4_6⟩ : ApiDuty).Rate), .int .i64 ((⟨c4_0, c4_1, c4_2, c4_3, c4_4, c4_5, c4_6⟩ : ApiDuty).Amount), .int .i64 ((⟨c4_0, c4_1, c4_2, c4_3, c4_4, c4_5, c4_6⟩ : ApiDuty).Per), .bool ((⟨c4_0, c4_1, c4_2, c4_3, c4_4, c4_5, c4_6⟩ : ApiDuty).HasMost), .int .i64 ((⟨c4_0, c4_1, c4_2, c4_3, c4_4, c4_5, c4_6⟩ : ApiDuty).Most), .bool ((⟨c4_0, c4_1, c4_2, c4_3, c4_4, c4_5, c4_6⟩ : ApiDuty).HasLeast), .int .i64 ((⟨c4_0, c4_1, c4_2, c4_3, c4_4, c4_5, c4_6⟩ : ApiDuty).Least)]), .v (.int .i64 (0 : Int))]) hR [] (.inl rfl) rfl rfl (Le.tup (.cons (Le.refl _) (.cons (Le.refl _) .nil))) (by exact trivial) rfl rfl rfl rfl

end Go.Proofs.YtinickkcieecdaaGreatDoor
