/- Contracts: the program's functions compute the plain ones; by program (gen.py). -/
import Derived.Test.YtinickkcieecdaaGreatDoorLib
import Derived.Test.YtinickkcieecdaaGreatDoorPa
set_option linter.unusedVariables false
set_option linter.unusedSimpArgs false
set_option maxHeartbeats 4000000
set_option maxRecDepth 20000
namespace Go.Proofs.YtinickkcieecdaaGreatDoor
open Go.V Go.C

theorem dutyValidate_con {wg : World} (hw : WG wg) {d : ApiDuty} {r : Int} (h : dutyValidate d = some r) : Con Tryz.prog wg gl 11 [.v (.agg [.int .i64 d.Rate, .int .i64 d.Amount, .int .i64 d.Per, .bool d.HasMost, .int .i64 d.Most, .bool d.HasLeast, .int .i64 d.Least])] [] (.v (.int .i64 r)) [] := by
 unfold dutyValidate at h
 refine con_of_WC (S := slotsOf 0 _) Tryz.func11 rfl Tryz.ntmps11 rfl (fun t x hx => (slotsOf_get hx).2) ?_
 intro F L w ρ0 R hR
 show WC _ _ _ ⟨[(0, .v (.agg [.int .i64 d.Rate, .int .i64 d.Amount, .int .i64 d.Per, .bool d.HasMost, .int .i64 d.Most, .bool d.HasLeast, .int .i64 d.Least]))], []⟩ _ _
 refine WC.seq (WC.region ?_)
 refine lr 2 rfl trivial ?_
 refine WL.nil (WQ.thenNormal (WC.seq (WC.seq (WC.region ?_))))
 refine lr 18 rfl (by exact sideR) ?_
 refine WL.nil (WQ.thenNormal ?_)
 refine WC.cond rfl (fun hc1 => ?_) (fun hc1 => ?_)
 ·replace h := ite_t hc1 h
  refine WC.seq (WC.region ?_)
  refine lr 1 rfl trivial ?_
  refine WL.nil (WQ.thenNormal (WC.ret (WQ.thenRet ?_)))
  cases h
  exact WQ.rets tbOk hR [] (.inl rfl) rfl rfl (Le.refl _) (by exact trivial) rfl rfl rfl rfl
 ·replace h := ite_f hc1 h
  refine WC.skip (WQ.thenNormal (WC.seq (WC.seq (WC.region ?_))))
  refine lr 23 rfl (by exact sideR) ?_
  refine WL.nil (WQ.thenNormal ?_)
  refine WC.cond rfl (fun hc2 => ?_) (fun hc2 => ?_)
  ·replace h := ite_t hc2 h
   refine WC.seq (WC.region ?_)
   refine lr 1 rfl trivial ?_
   refine WL.nil (WQ.thenNormal (WC.ret (WQ.thenRet ?_)))
   cases h
   exact WQ.rets tbOk hR [] (.inl rfl) rfl rfl (Le.refl _) (by exact trivial) rfl rfl rfl rfl
  ·replace h := ite_f hc2 h
   refine WC.skip (WQ.thenNormal (WC.seq (WC.seq (WC.region ?_))))
   refine lr 18 rfl (by exact sideR) ?_
   refine WL.nil (WQ.thenNormal ?_)
   refine WC.cond rfl (fun hc3 => ?_) (fun hc3 => ?_)
   ·replace h := ite_t hc3 h
    refine WC.seq (WC.region ?_)
    refine lr 1 rfl trivial ?_
    refine WL.nil (WQ.thenNormal (WC.ret (WQ.thenRet ?_)))
    cases h
    exact WQ.rets tbOk hR [] (.inl rfl) rfl rfl (Le.refl _) (by exact trivial) rfl rfl rfl rfl
   ·replace h := ite_f hc3 h
    refine WC.skip (WQ.thenNormal (WC.seq (WC.seq (WC.region ?_))))
    refine lr 18 rfl (by exact sideR) ?_
    refine WL.nil (WQ.thenNormal ?_)
    refine WC.cond rfl (fun hc4 => ?_) (fun hc4 => ?_)
    ·replace h := ite_t hc4 h
     refine WC.seq (WC.region ?_)
     refine lr 1 rfl trivial ?_
     refine WL.nil (WQ.thenNormal (WC.ret (WQ.thenRet ?_)))
     cases h
     exact WQ.rets tbOk hR [] (.inl rfl) rfl rfl (Le.refl _) (by exact trivial) rfl rfl rfl rfl
    ·replace h := ite_f hc4 h
     refine WC.skip (WQ.thenNormal (WC.seq (WC.seq (WC.region ?_))))
     refine lr 13 rfl (by exact sideR) ?_
     refine WL.nil (WQ.thenNormal ?_)
     refine WC.cond rfl (fun hc5 => ?_) (fun hc5 => ?_)
     ·replace h := ite_t hc5 h
      refine WC.seq (WC.region ?_)
      refine lr 1 rfl trivial ?_
      refine WL.nil (WQ.thenNormal (WC.ret (WQ.thenRet ?_)))
      cases h
      exact WQ.rets tbOk hR [] (.inl rfl) rfl rfl (Le.refl _) (by exact trivial) rfl rfl rfl rfl
     ·replace h := ite_f hc5 h
      refine WC.skip (WQ.thenNormal (WC.seq (WC.region ?_)))
      refine lr 1 rfl trivial ?_
      refine WL.nil (WQ.thenNormal (WC.ret ?_))
      cases h
      exact WQ.rets tbOk hR [] (.inl rfl) rfl rfl (Le.refl _) (by exact trivial) rfl rfl rfl rfl

theorem refIn_con {wg : World} (hw : WG wg) {x : Int} {n1 : Int} {r : Bool} (h : refIn x n1 = some r) : Con Tryz.prog wg gl 24 [.v (.int .i64 x), .v (.int .i64 n1)] [] (.v (.bool r)) [] := by
 unfold refIn at h
 refine con_of_WC (S := slotsOf 0 _) Tryz.func24 rfl Tryz.ntmps24 rfl (fun t x hx => (slotsOf_get hx).2) ?_
 intro F L w ρ0 R hR
 show WC _ _ _ ⟨[(0, .v (.int .i64 x)), (1, .v (.int .i64 n1))], []⟩ _ _
 refine WC.seq (WC.region ?_)
 refine lr 1 rfl trivial ?_
 refine WL.nil (WQ.thenNormal (WC.seq (WC.region ?_)))
 refine lr 8 rfl (by exact sideR) ?_
 refine WL.nil (WQ.thenNormal (WC.ret ?_))
 cases h
 exact WQ.rets tbOk hR [] (.inl rfl) rfl rfl (Le.refl _) (by exact trivial) rfl rfl rfl rfl

theorem refDuty_con {wg : World} (hw : WG wg) {d : ApiDuty} {r : Int} (h : refDuty d = some r) : Con Tryz.prog wg gl 12 [.v (.agg [.int .i64 d.Rate, .int .i64 d.Amount, .int .i64 d.Per, .bool d.HasMost, .int .i64 d.Most, .bool d.HasLeast, .int .i64 d.Least])] [] (.v (.int .i64 r)) [] := by
 unfold refDuty at h
 refine con_of_WC (S := slotsOf 0 _) Tryz.func12 rfl Tryz.ntmps12 rfl (fun t x hx => (slotsOf_get hx).2) ?_
 intro F L w ρ0 R hR
 show WC _ _ _ ⟨[(0, .v (.agg [.int .i64 d.Rate, .int .i64 d.Amount, .int .i64 d.Per, .bool d.HasMost, .int .i64 d.Most, .bool d.HasLeast, .int .i64 d.Least]))], []⟩ _ _
 refine WC.seq (WC.region ?_)
 refine lr 2 rfl trivial ?_
 refine WL.nil (WQ.thenNormal (WC.seq (WC.seq (WC.region ?_))))
 refine lr 2 rfl trivial ?_
 replace h := bnd h; obtain ⟨v, hvv, h⟩ := h
 refine WL.call0 fn24 rfl rfl rfl rfl (by exact trivial) rfl (refIn_con hw hvv) ?_
 refine lr 4 rfl (by exact sideR) ?_
 replace h := bnd h; obtain ⟨v2, hvv2, h⟩ := h
 refine WL.gcall0 fn24 rfl rfl rfl rfl rfl (fun _ => (by exact sideR)) rfl (fun hg => (refIn_con hw (ite_t hg hvv2))) ?_
 refine lr 30 rfl (by exact sideR) ?_
 replace h := bnd h; obtain ⟨v3, hvv3, h⟩ := h
 refine WL.gcall0 fn24 rfl rfl rfl rfl rfl (fun _ => (by exact sideR)) rfl (fun hg => (refIn_con hw (ite_t hg hvv3))) ?_
 refine lr 5 rfl (by exact sideR) ?_
 replace h := bnd h; obtain ⟨v4, hvv4, h⟩ := h
 refine WL.gcall0 fn24 rfl rfl rfl rfl rfl (fun _ => (by exact sideR)) rfl (fun hg => (refIn_con hw (ite_t hg hvv4))) ?_
 refine lr 2 rfl (by exact sideR) ?_
 refine WL.nil (WQ.thenNormal ?_)
 refine WC.cond rfl (fun hc1 => ?_) (fun hc1 => ?_)
 ·replace h := ite_t hc1 h
  refine WC.seq (WC.region ?_)
  refine lr 1 rfl trivial ?_
  refine WL.nil (WQ.thenNormal (WC.ret (WQ.thenRet ?_)))
  cases h
  exact WQ.rets tbOk hR [] (.inl rfl) rfl rfl (Le.refl _) (by exact trivial) rfl rfl rfl rfl
 ·replace h := ite_f hc1 h
  refine WC.skip (WQ.thenNormal (WC.seq (WC.seq (WC.region ?_))))
  refine lr 33 rfl (by exact sideR) ?_
  refine WL.nil (WQ.thenNormal ?_)
  refine WC.cond rfl (fun hc2 => ?_) (fun hc2 => ?_)
  ·replace h := ite_t hc2 h
   refine WC.seq (WC.region ?_)
   refine lr 1 rfl trivial ?_
   refine WL.nil (WQ.thenNormal (WC.ret (WQ.thenRet ?_)))
   cases h
   exact WQ.rets tbOk hR [] (.inl rfl) rfl rfl (Le.refl _) (by exact trivial) rfl rfl rfl rfl
  ·replace h := ite_f hc2 h
   refine WC.skip (WQ.thenNormal (WC.seq (WC.region ?_)))
   refine lr 1 rfl trivial ?_
   refine WL.nil (WQ.thenNormal (WC.ret ?_))
   cases h
   exact WQ.rets tbOk hR [] (.inl rfl) rfl rfl (Le.refl _) (by exact trivial) rfl rfl rfl rfl

theorem within_con {wg : World} (hw : WG wg) {x : Int} {n1 : Int} {r : Int} (h : within x n1 = some r) : Con Tryz.prog wg gl 13 [.v (.int .i64 x), .v (.int .i64 n1)] [] (.v (.int .i64 r)) [] := by
 unfold within at h
 refine con_of_WC (S := slotsOf 0 _) Tryz.func13 rfl Tryz.ntmps13 rfl (fun t x hx => (slotsOf_get hx).2) ?_
 intro F L w ρ0 R hR
 show WC _ _ _ ⟨[(0, .v (.int .i64 x)), (1, .v (.int .i64 n1))], []⟩ _ _
 refine WC.seq (WC.region ?_)
 refine lr 1 rfl trivial ?_
 refine WL.nil (WQ.thenNormal (WC.seq (WC.region ?_)))
 obtain ⟨g1, h⟩ := grd h
 obtain ⟨g2, h⟩ := grd h
 refine lr 8 rfl (by repeat' (first | exact trivial | assumption | intro _ | exact g1 (by assumption) | exact g2 (by assumption) | apply And.intro | exact sideT | (refine and_i ?_ ?_))) ?_
 refine WL.nil (WQ.thenNormal (WC.ret ?_))
 cases h
 exact WQ.rets tbOk hR [] (.inl rfl) rfl rfl (Le.refl _) (by exact trivial) rfl rfl rfl rfl

theorem amount18_con {wg : World} (hw : WG wg) {n1 : Int} {small : Bool} {r : Int} (h : amount18 n1 small = some r) : Con Tryz.prog wg gl 19 [.v (.int .i64 n1), .v (.bool small)] [] (.v (.int .i64 r)) [] := by
 unfold amount18 at h
 refine con_of_WC (S := slotsOf 0 _) Tryz.func19 rfl Tryz.ntmps19 rfl (fun t x hx => (slotsOf_get hx).2) ?_
 intro F L w ρ0 R hR
 show WC _ _ _ ⟨[(0, .v (.int .i64 n1)), (1, .v (.bool small))], []⟩ _ _
 refine WC.seq (WC.region ?_)
 refine lr 1 rfl trivial ?_
 refine WL.nil (WQ.thenNormal (WC.seq (WC.seq (WC.region ?_))))
 refine lr 1 rfl trivial ?_
 refine WL.nil (WQ.thenNormal ?_)
 refine WC.cond rfl (fun hc1 => ?_) (fun hc1 => ?_)
 ·replace h := ite_t hc1 h
  refine WC.seq (WC.region ?_)
  refine lr 1 rfl trivial ?_
  replace h := bnd h; obtain ⟨v, hvv, h⟩ := h
  refine WL.call0 fn13 rfl rfl rfl rfl (by exact trivial) rfl (within_con hw hvv) ?_
  refine lr 1 rfl trivial ?_
  refine WL.nil (WQ.thenNormal (WC.ret (WQ.thenRet ?_)))
  cases h
  exact WQ.rets tbOk hR [] (.inl rfl) rfl rfl (Le.refl _) (by exact trivial) rfl rfl rfl rfl
 ·replace h := ite_f hc1 h
  refine WC.skip (WQ.thenNormal (WC.seq (WC.region ?_)))
  refine lr 1 rfl trivial ?_
  replace h := bnd h; obtain ⟨v2, hvv2, h⟩ := h
  refine WL.call0 fn13 rfl rfl rfl rfl (by exact trivial) rfl (within_con hw hvv2) ?_
  refine lr 1 rfl trivial ?_
  refine WL.nil (WQ.thenNormal (WC.ret ?_))
  cases h
  exact WQ.rets tbOk hR [] (.inl rfl) rfl rfl (Le.refl _) (by exact trivial) rfl rfl rfl rfl

theorem srcNext_con {wg : World} (hw : WG wg) {s : CustomsmadeSource} {n1 : Int} {r : Int × CustomsmadeSource} (h : srcNext s n1 = some r) : Con Tryz.prog wg gl 48 [.p 0 0, .v (.int .i64 n1)] [(0, .blk 48 [.v (.sl 1 (s.L.map eInt_i64)), .v (.int .i64 s.I)])] (.v (.int .i64 r.1)) [(0, .blk 48 [.v (.sl 1 (r.2.L.map eInt_i64)), .v (.int .i64 r.2.I)])] := by
 unfold srcNext at h
 refine con_of_WC (S := slotsOf 0 _) Tryz.func48 rfl Tryz.ntmps48 rfl (fun t x hx => (slotsOf_get hx).2) ?_
 intro F L w ρ0 R hR
 show WC _ _ _ ⟨[(0, .p 0 0), (1, .v (.int .i64 n1))], [(0, .blk 48 [.v (.sl 1 (s.L.map eInt_i64)), .v (.int .i64 s.I)])]⟩ _ _
 refine WC.seq (WC.region ?_)
 refine lr 1 rfl trivial ?_
 refine WL.nil (WQ.thenNormal (WC.seq (WC.seq (WC.order mixed ?_))))
 refine wr 8 rfl trivial ?_
 refine WR.q [] rfl rfl rfl (q_ev tbOk (.v (.int .i64 (s.L.length : Int))) rfl (by exact trivial) (by exact lenT)) ?_
 refine wr 1 rfl trivial ?_
 refine WR.nil (by kernel_rfl) (WQ.thenNormal ?_)
 refine WC.cond rfl (fun hc1 => ?_) (fun hc1 => ?_)
 ·replace h := ite_t hc1 h
  refine WC.seq (WC.region ?_)
  refine lr 1 rfl trivial ?_
  refine WL.nil (WQ.thenNormal (WC.ret (WQ.thenRet ?_)))
  cases h
  exact WQ.rets tbOk hR [] (.inl rfl) rfl rfl (Le.refl _) (by exact ⟨rfl, trivial⟩) rfl rfl rfl rfl
 ·replace h := ite_f hc1 h
  refine WC.skip (WQ.thenNormal (WC.seq (WC.region ?_)))
  refine lr 8 rfl trivial ?_
  refine WL.nil (WQ.thenNormal (WC.seq (WC.order mixed ?_)))
  refine wr 9 rfl trivial ?_
  obtain ⟨g1, h⟩ := grd h
  replace h := bnd h; obtain ⟨x, hxx, h⟩ := h
  refine WR.q [] rfl rfl rfl (q_idx tbOk rfl (by exact trivial) g1 (map_get (f := eInt_i64) hxx)) ?_
  refine wr 2 rfl trivial ?_
  replace h := bnd h; obtain ⟨v, hvv, h⟩ := h
  refine WR.call0 fn13 rfl rfl rfl rfl (by exact trivial) rfl (within_con hw hvv) ?_
  refine wr 1 rfl trivial ?_
  refine WR.nil (by kernel_rfl) (WQ.thenNormal (WC.ret ?_))
  cases h
  exact WQ.rets tbOk hR [] (.inl rfl) rfl rfl (Le.refl _) (by exact ⟨rfl, trivial⟩) rfl rfl rfl rfl

theorem srcRate_con {wg : World} (hw : WG wg) {s : CustomsmadeSource} {r : Int × CustomsmadeSource} (h : srcRate s = some r) : Con Tryz.prog wg gl 49 [.p 0 0] [(0, .blk 48 [.v (.sl 1 (s.L.map eInt_i64)), .v (.int .i64 s.I)])] (.v (.int .i64 r.1)) [(0, .blk 48 [.v (.sl 1 (r.2.L.map eInt_i64)), .v (.int .i64 r.2.I)])] := by
 unfold srcRate at h
 refine con_of_WC (S := slotsOf 0 _) Tryz.func49 rfl Tryz.ntmps49 rfl (fun t x hx => (slotsOf_get hx).2) ?_
 intro F L w ρ0 R hR
 show WC _ _ _ ⟨[(0, .p 0 0)], [(0, .blk 48 [.v (.sl 1 (s.L.map eInt_i64)), .v (.int .i64 s.I)])]⟩ _ _
 refine WC.seq (WC.region ?_)
 refine lr 1 rfl trivial ?_
 refine WL.nil (WQ.thenNormal (WC.seq (WC.seq (WC.region ?_))))
 refine lr 1 rfl trivial ?_
 replace h := bnd h; obtain ⟨v, hvv, h⟩ := h
 refine WL.callO [(0, 0)] [(0, 0)] [0] fn48 rfl rfl rfl rfl (by exact trivial) (srcNext_con hw hvv) rfl rfl (by exact ⟨rfl, trivial⟩) rfl rfl rfl rfl rfl rfl ?_
 refine lr 1 rfl trivial ?_
 refine WL.nil (WQ.thenNormal ?_)
 refine WC.cond rfl (fun hc1 => ?_) (fun hc1 => ?_)
 ·replace h := ite_t hc1 h
  refine WC.seq (WC.region ?_)
  refine lr 1 rfl trivial ?_
  replace h := bnd h; obtain ⟨v2, hvv2, h⟩ := h
  refine WL.callO [(0, 0)] [(0, 0)] [0] fn48 rfl rfl rfl rfl (by exact trivial) (srcNext_con hw hvv2) rfl rfl (by exact ⟨rfl, trivial⟩) rfl rfl rfl rfl rfl rfl ?_
  refine lr 2 rfl trivial ?_
  refine WL.nil (WQ.thenNormal (WC.ret (WQ.thenRet ?_)))
  cases h
  exact WQ.rets tbOk hR [] (.inl rfl) rfl rfl (Le.refl _) (by exact ⟨rfl, trivial⟩) rfl rfl rfl rfl
 ·replace h := ite_f hc1 h
  refine WC.skip (WQ.thenNormal (WC.seq (WC.region ?_)))
  refine lr 1 rfl trivial ?_
  replace h := bnd h; obtain ⟨v3, hvv3, h⟩ := h
  refine WL.callO [(0, 0)] [(0, 0)] [0] fn48 rfl rfl rfl rfl (by exact trivial) (srcNext_con hw hvv3) rfl rfl (by exact ⟨rfl, trivial⟩) rfl rfl rfl rfl rfl rfl ?_
  refine lr 1 rfl trivial ?_
  refine WL.nil (WQ.thenNormal (WC.ret ?_))
  cases h
  exact WQ.rets tbOk hR [] (.inl rfl) rfl rfl (Le.refl _) (by exact ⟨rfl, trivial⟩) rfl rfl rfl rfl

theorem srcDuty_con {wg : World} (hw : WG wg) {s : CustomsmadeSource} {r : ApiDuty × CustomsmadeSource} (h : srcDuty s = some r) : Con Tryz.prog wg gl 23 [.p 0 0] [(0, .blk 48 [.v (.sl 1 (s.L.map eInt_i64)), .v (.int .i64 s.I)])] (.v (.agg [.int .i64 r.1.Rate, .int .i64 r.1.Amount, .int .i64 r.1.Per, .bool r.1.HasMost, .int .i64 r.1.Most, .bool r.1.HasLeast, .int .i64 r.1.Least])) [(0, .blk 48 [.v (.sl 1 (r.2.L.map eInt_i64)), .v (.int .i64 r.2.I)])] := by
 unfold srcDuty at h
 refine con_of_WC (S := slotsOf 0 _) Tryz.func23 rfl Tryz.ntmps23 rfl (fun t x hx => (slotsOf_get hx).2) ?_
 intro F L w ρ0 R hR
 show WC _ _ _ ⟨[(0, .p 0 0)], [(0, .blk 48 [.v (.sl 1 (s.L.map eInt_i64)), .v (.int .i64 s.I)])]⟩ _ _
 refine WC.seq (WC.region ?_)
 refine lr 1 rfl trivial ?_
 refine WL.nil (WQ.thenNormal (WC.seq (WC.region ?_)))
 refine lr 3 rfl trivial ?_
 refine WL.nil (WQ.thenNormal (WC.seq (WC.seq (WC.region ?_))))
 refine lr 1 rfl trivial ?_
 replace h := bnd h; obtain ⟨v, hvv, h⟩ := h
 refine WL.callO [(0, 0)] [(0, 0)] [0] fn48 rfl rfl rfl rfl (by exact trivial) (srcNext_con hw hvv) rfl rfl (by exact ⟨rfl, trivial⟩) rfl rfl rfl rfl rfl rfl ?_
 refine lr 1 rfl trivial ?_
 refine WL.nil (WQ.thenNormal ?_)
 refine WC.thenCut (X := (List Int) × Int × Int) (fun gG => ⟨[(3, .p 3 0), (2, .p 2 0), (0, .p 0 0)], [(0, .blk 48 [.v (.sl 1 (gG.1.map eInt_i64)), .v (.int .i64 gG.2.1)]), (2, .blk 23 [.v (.int .i64 0), .v (.int .i64 0), .v (.int .i64 0), .v (.bool false), .v (.int .i64 0), .v (.bool false), .v (.int .i64 0)]), (3, .blk 23 [.v (.int .i64 gG.2.2), .v (.int .i64 0), .v (.int .i64 0), .v (.bool false), .v (.int .i64 0), .v (.bool false), .v (.int .i64 0)])]⟩) (fun gG => srcDuty_j1 gG.1 gG.2.1 gG.2.2 = some r) ?_ ?_
 ·refine WC.cond rfl (fun hc5 => ?_) (fun hc5 => ?_)
  ·replace h := ite_t hc5 h
   refine WC.region ?_
   refine lr 1 rfl trivial ?_
   replace h := bnd h; obtain ⟨v9, hvv9, h⟩ := h
   refine WL.callO [(0, 0)] [(0, 0)] [0] fn49 rfl rfl rfl rfl (by exact trivial) (srcRate_con hw hvv9) rfl rfl (by exact ⟨rfl, trivial⟩) rfl rfl rfl rfl rfl rfl ?_
   refine lr 3 rfl (by exact sideR) ?_
   refine WL.nil ?_
   exact WQ.cut [] (v9.2.L, v9.2.I, (IntKind.i64.wrap (v9.1.tdiv (4 : Int)))) ⟨(by exact ⟨rfl, rfl, rfl, trivial⟩), (by exact ⟨rfl, rfl, rfl, trivial⟩), rfl, rfl, rfl, rfl⟩ h
  ·replace h := ite_f hc5 h
   refine WC.skip ?_
   exact WQ.cut [] (v.2.L, v.2.I, 0) ⟨(by exact ⟨rfl, rfl, rfl, trivial⟩), (by exact ⟨rfl, rfl, rfl, trivial⟩), rfl, rfl, rfl, rfl⟩ h
 ·rintro ⟨c0_0, c0_1, c3_0⟩ h
  replace h : srcDuty_j1 c0_0 c0_1 c3_0 = some _ := h
  unfold srcDuty_j1 at h
  show WC _ _ _ ⟨[(3, .p 3 0), (2, .p 2 0), (0, .p 0 0)], [(0, .blk 48 [.v (.sl 1 (c0_0.map eInt_i64)), .v (.int .i64 c0_1)]), (2, .blk 23 [.v (.int .i64 0), .v (.int .i64 0), .v (.int .i64 0), .v (.bool false), .v (.int .i64 0), .v (.bool false), .v (.int .i64 0)]), (3, .blk 23 [.v (.int .i64 c3_0), .v (.int .i64 0), .v (.int .i64 0), .v (.bool false), .v (.int .i64 0), .v (.bool false), .v (.int .i64 0)])]⟩ _ _
  refine WC.seq (WC.seq (WC.region ?_))
  refine lr 1 rfl trivial ?_
  replace h := bnd h; obtain ⟨v2, hvv2, h⟩ := h
  refine WL.callO [(0, 0)] [(0, 0)] [0] fn48 rfl rfl rfl rfl (by exact trivial) (srcNext_con hw hvv2) rfl rfl (by exact ⟨rfl, trivial⟩) rfl rfl rfl rfl rfl rfl ?_
  refine lr 1 rfl trivial ?_
  refine WL.nil (WQ.thenNormal ?_)
  refine WC.thenCut (X := (List Int) × Int × Int × Int) (fun gG => ⟨[(3, .p 3 0), (2, .p 2 0), (0, .p 0 0)], [(0, .blk 48 [.v (.sl 1 (gG.1.map eInt_i64)), .v (.int .i64 gG.2.1)]), (2, .blk 23 [.v (.int .i64 0), .v (.int .i64 0), .v (.int .i64 0), .v (.bool false), .v (.int .i64 0), .v (.bool false), .v (.int .i64 0)]), (3, .blk 23 [.v (.int .i64 c3_0), .v (.int .i64 gG.2.2.1), .v (.int .i64 gG.2.2.2), .v (.bool false), .v (.int .i64 0), .v (.bool false), .v (.int .i64 0)])]⟩) (fun gG => srcDuty_j2 c3_0 gG.1 gG.2.1 gG.2.2.1 gG.2.2.2 = some r) ?_ ?_
  ·refine WC.cond rfl (fun hc4 => ?_) (fun hc4 => ?_)
   ·replace h := ite_t hc4 h
    refine WC.order mixed ?_
    refine wr 1 rfl trivial ?_
    replace h := bnd h; obtain ⟨v7, hvv7, h⟩ := h
    refine WR.callO [(0, 0)] [(0, 0)] [0] fn48 rfl rfl rfl rfl (by exact trivial) (srcNext_con hw hvv7) rfl rfl (by exact ⟨rfl, trivial⟩) rfl rfl rfl rfl rfl rfl ?_
    refine wr 3 rfl trivial ?_
    replace h := bnd h; obtain ⟨v8, hvv8, h⟩ := h
    refine WR.callO [(0, 0)] [(0, 0)] [0] fn48 rfl rfl rfl rfl (by exact trivial) (srcNext_con hw hvv8) rfl rfl (by exact ⟨rfl, trivial⟩) rfl rfl rfl rfl rfl rfl ?_
    obtain ⟨g1, h⟩ := grd h
    replace h := bnd h; obtain ⟨x, hxx, h⟩ := h
    refine WR.q [] rfl rfl rfl (q_idx tbOk rfl (by exact trivial) g1 (map_get (f := eInt_i64) hxx)) ?_
    refine wr 5 rfl trivial ?_
    refine WR.nil (by kernel_rfl) ?_
    exact WQ.cut [] (v8.2.L, v8.2.I, (IntKind.i64.wrap ((1 : Int) + v7.1)), x) ⟨(by exact ⟨rfl, rfl, rfl, trivial⟩), (by exact ⟨rfl, rfl, rfl, trivial⟩), rfl, rfl, rfl, rfl⟩ h
   ·replace h := ite_f hc4 h
    refine WC.skip ?_
    exact WQ.cut [] (v2.2.L, v2.2.I, 0, 0) ⟨(by exact ⟨rfl, rfl, rfl, trivial⟩), (by exact ⟨rfl, rfl, rfl, trivial⟩), rfl, rfl, rfl, rfl⟩ h
  ·rintro ⟨c0_02, c0_12, c3_1, c3_2⟩ h
   replace h : srcDuty_j2 c3_0 c0_02 c0_12 c3_1 c3_2 = some _ := h
   unfold srcDuty_j2 at h
   show WC _ _ _ ⟨[(3, .p 3 0), (2, .p 2 0), (0, .p 0 0)], [(0, .blk 48 [.v (.sl 1 (c0_02.map eInt_i64)), .v (.int .i64 c0_12)]), (2, .blk 23 [.v (.int .i64 0), .v (.int .i64 0), .v (.int .i64 0), .v (.bool false), .v (.int .i64 0), .v (.bool false), .v (.int .i64 0)]), (3, .blk 23 [.v (.int .i64 c3_0), .v (.int .i64 c3_1), .v (.int .i64 c3_2), .v (.bool false), .v (.int .i64 0), .v (.bool false), .v (.int .i64 0)])]⟩ _ _
   refine WC.seq (WC.seq (WC.region ?_))
   refine lr 1 rfl trivial ?_
   replace h := bnd h; obtain ⟨v3, hvv3, h⟩ := h
   refine WL.callO [(0, 0)] [(0, 0)] [0] fn48 rfl rfl rfl rfl (by exact trivial) (srcNext_con hw hvv3) rfl rfl (by exact ⟨rfl, trivial⟩) rfl rfl rfl rfl rfl rfl ?_
   refine lr 1 rfl trivial ?_
   refine WL.nil (WQ.thenNormal ?_)
   refine WC.thenCut (X := (List Int) × Int × Bool × Int) (fun gG => ⟨[(3, .p 3 0), (2, .p 2 0), (0, .p 0 0)], [(0, .blk 48 [.v (.sl 1 (gG.1.map eInt_i64)), .v (.int .i64 gG.2.1)]), (2, .blk 23 [.v (.int .i64 0), .v (.int .i64 0), .v (.int .i64 0), .v (.bool false), .v (.int .i64 0), .v (.bool false), .v (.int .i64 0)]), (3, .blk 23 [.v (.int .i64 c3_0), .v (.int .i64 c3_1), .v (.int .i64 c3_2), .v (.bool gG.2.2.1), .v (.int .i64 gG.2.2.2), .v (.bool false), .v (.int .i64 0)])]⟩) (fun gG => srcDuty_j3 c3_0 c3_1 c3_2 gG.1 gG.2.1 gG.2.2.1 gG.2.2.2 = some r) ?_ ?_
   ·refine WC.cond rfl (fun hc3 => ?_) (fun hc3 => ?_)
    ·replace h := ite_t hc3 h
     refine WC.region ?_
     refine lr 1 rfl trivial ?_
     replace h := bnd h; obtain ⟨v6, hvv6, h⟩ := h
     refine WL.callO [(0, 0)] [(0, 0)] [0] fn49 rfl rfl rfl rfl (by exact trivial) (srcRate_con hw hvv6) rfl rfl (by exact ⟨rfl, trivial⟩) rfl rfl rfl rfl rfl rfl ?_
     refine lr 4 rfl trivial ?_
     refine WL.nil ?_
     exact WQ.cut [] (v6.2.L, v6.2.I, true, v6.1) ⟨(by exact ⟨rfl, rfl, rfl, trivial⟩), (by exact ⟨rfl, rfl, rfl, trivial⟩), rfl, rfl, rfl, rfl⟩ h
    ·replace h := ite_f hc3 h
     refine WC.skip ?_
     exact WQ.cut [] (v3.2.L, v3.2.I, false, 0) ⟨(by exact ⟨rfl, rfl, rfl, trivial⟩), (by exact ⟨rfl, rfl, rfl, trivial⟩), rfl, rfl, rfl, rfl⟩ h
   ·rintro ⟨c0_03, c0_13, c3_3, c3_4⟩ h
    replace h : srcDuty_j3 c3_0 c3_1 c3_2 c0_03 c0_13 c3_3 c3_4 = some _ := h
    unfold srcDuty_j3 at h
    show WC _ _ _ ⟨[(3, .p 3 0), (2, .p 2 0), (0, .p 0 0)], [(0, .blk 48 [.v (.sl 1 (c0_03.map eInt_i64)), .v (.int .i64 c0_13)]), (2, .blk 23 [.v (.int .i64 0), .v (.int .i64 0), .v (.int .i64 0), .v (.bool false), .v (.int .i64 0), .v (.bool false), .v (.int .i64 0)]), (3, .blk 23 [.v (.int .i64 c3_0), .v (.int .i64 c3_1), .v (.int .i64 c3_2), .v (.bool c3_3), .v (.int .i64 c3_4), .v (.bool false), .v (.int .i64 0)])]⟩ _ _
    refine WC.seq (WC.seq (WC.region ?_))
    refine lr 1 rfl trivial ?_
    replace h := bnd h; obtain ⟨v4, hvv4, h⟩ := h
    refine WL.callO [(0, 0)] [(0, 0)] [0] fn48 rfl rfl rfl rfl (by exact trivial) (srcNext_con hw hvv4) rfl rfl (by exact ⟨rfl, trivial⟩) rfl rfl rfl rfl rfl rfl ?_
    refine lr 1 rfl trivial ?_
    refine WL.nil (WQ.thenNormal ?_)
    refine WC.thenCut (X := (List Int) × Int × Bool × Int) (fun gG => ⟨[(3, .p 3 0), (2, .p 2 0), (0, .p 0 0)], [(0, .blk 48 [.v (.sl 1 (gG.1.map eInt_i64)), .v (.int .i64 gG.2.1)]), (2, .blk 23 [.v (.int .i64 0), .v (.int .i64 0), .v (.int .i64 0), .v (.bool false), .v (.int .i64 0), .v (.bool false), .v (.int .i64 0)]), (3, .blk 23 [.v (.int .i64 c3_0), .v (.int .i64 c3_1), .v (.int .i64 c3_2), .v (.bool c3_3), .v (.int .i64 c3_4), .v (.bool gG.2.2.1), .v (.int .i64 gG.2.2.2)])]⟩) (fun gG => srcDuty_j4 c3_0 c3_1 c3_2 c3_3 c3_4 gG.1 gG.2.1 gG.2.2.1 gG.2.2.2 = some r) ?_ ?_
    ·refine WC.cond rfl (fun hc1 => ?_) (fun hc1 => ?_)
     ·replace h := ite_t hc1 h
      refine WC.seq (WC.region ?_)
      refine lr 1 rfl trivial ?_
      replace h := bnd h; obtain ⟨v5, hvv5, h⟩ := h
      refine WL.callO [(0, 0)] [(0, 0)] [0] fn49 rfl rfl rfl rfl (by exact trivial) (srcRate_con hw hvv5) rfl rfl (by exact ⟨rfl, trivial⟩) rfl rfl rfl rfl rfl rfl ?_
      refine lr 5 rfl (by exact sideR) ?_
      refine WL.nil (WQ.thenNormal (WC.seq (WC.region ?_)))
      refine lr 2 rfl trivial ?_
      refine WL.nil (WQ.thenNormal ?_)
      refine WC.cond rfl (fun hc2 => ?_) (fun hc2 => ?_)
      ·replace h := ite_t hc2 h
       refine WC.region ?_
       refine lr 7 rfl trivial ?_
       refine WL.nil ?_
       exact WQ.cut [] (v5.2.L, v5.2.I, true, (if c3_4 < (IntKind.i64.wrap (v5.1.tdiv (8 : Int))) then c3_4 else (IntKind.i64.wrap (v5.1.tdiv (8 : Int))))) ⟨(by exact ⟨rfl, rfl, rfl, trivial⟩), (by exact ⟨rfl, rfl, rfl, trivial⟩), rfl, rfl, rfl, rfl⟩ h
      ·replace h := ite_f hc2 h
       refine WC.skip ?_
       exact WQ.cut [] (v5.2.L, v5.2.I, true, (IntKind.i64.wrap (v5.1.tdiv (8 : Int)))) ⟨(by exact ⟨rfl, rfl, rfl, trivial⟩), (by exact ⟨rfl, rfl, rfl, trivial⟩), rfl, rfl, rfl, rfl⟩ h
     ·replace h := ite_f hc1 h
      refine WC.skip ?_
      exact WQ.cut [] (v4.2.L, v4.2.I, false, 0) ⟨(by exact ⟨rfl, rfl, rfl, trivial⟩), (by exact ⟨rfl, rfl, rfl, trivial⟩), rfl, rfl, rfl, rfl⟩ h
    ·rintro ⟨c0_04, c0_14, c3_5, c3_6⟩ h
     replace h : srcDuty_j4 c3_0 c3_1 c3_2 c3_3 c3_4 c0_04 c0_14 c3_5 c3_6 = some _ := h
     unfold srcDuty_j4 at h
     show WC _ _ _ ⟨[(3, .p 3 0), (2, .p 2 0), (0, .p 0 0)], [(0, .blk 48 [.v (.sl 1 (c0_04.map eInt_i64)), .v (.int .i64 c0_14)]), (2, .blk 23 [.v (.int .i64 0), .v (.int .i64 0), .v (.int .i64 0), .v (.bool false), .v (.int .i64 0), .v (.bool false), .v (.int .i64 0)]), (3, .blk 23 [.v (.int .i64 c3_0), .v (.int .i64 c3_1), .v (.int .i64 c3_2), .v (.bool c3_3), .v (.int .i64 c3_4), .v (.bool c3_5), .v (.int .i64 c3_6)])]⟩ _ _
     refine WC.seq (WC.region ?_)
     refine lr 2 rfl trivial ?_
     refine WL.nil (WQ.thenNormal (WC.ret ?_))
     cases h
     exact WQ.rets tbOk hR [] (.inl rfl) rfl rfl (Le.refl _) (by exact ⟨rfl, trivial⟩) rfl rfl rfl rfl

theorem madeCut_con {wg : World} (hw : WG wg) {l : (List Int)} {n1 : Int} {r : (List Int)} (h : madeCut l n1 = some r) : Con Tryz.prog wg gl 22 [.v (.sl 1 (l.map eInt_i64)), .v (.int .i64 n1)] [] (.v (.sl 1 (r.map eInt_i64))) [] := by
 unfold madeCut at h
 refine con_of_WC (S := slotsOf 0 _) Tryz.func22 rfl Tryz.ntmps22 rfl (fun t x hx => (slotsOf_get hx).2) ?_
 intro F L w ρ0 R hR
 show WC _ _ _ ⟨[(0, .v (.sl 1 (l.map eInt_i64))), (1, .v (.int .i64 n1))], []⟩ _ _
 refine WC.seq (WC.region ?_)
 refine lr 1 rfl trivial ?_
 refine WL.nil (WQ.thenNormal (WC.seq (WC.seq (WC.region ?_))))
 refine lr 1 rfl trivial ?_
 refine WL.q [] rfl rfl rfl (q_ev tbOk (.v (.int .i64 (l.length : Int))) rfl (by exact trivial) (by exact lenT)) ?_
 refine lr 2 rfl trivial ?_
 refine WL.nil (WQ.thenNormal ?_)
 refine WC.cond rfl (fun hc1 => ?_) (fun hc1 => ?_)
 ·replace h := ite_t hc1 h
  refine WC.seq (WC.region ?_)
  refine lr 2 rfl trivial ?_
  obtain ⟨g1, h⟩ := grd h
  refine WL.q [] rfl rfl rfl (q_ev tbOk (.v (.sl 1 (((l.take n1.toNat).drop (0 : Int).toNat).map eInt_i64))) rfl (by exact sideR) (by exact tdT)) ?_
  refine lr 1 rfl trivial ?_
  refine WL.nil (WQ.thenNormal (WC.ret (WQ.thenRet ?_)))
  cases h
  exact WQ.rets tbOk hR [] (.inl rfl) rfl rfl (Le.refl _) (by exact trivial) rfl rfl rfl rfl
 ·replace h := ite_f hc1 h
  refine WC.skip (WQ.thenNormal (WC.seq (WC.region ?_)))
  refine lr 2 rfl trivial ?_
  refine WL.nil (WQ.thenNormal (WC.ret ?_))
  cases h
  exact WQ.rets tbOk hR [] (.inl rfl) rfl rfl (Le.refl _) (by exact trivial) rfl rfl rfl rfl

theorem madeDuty_con {wg : World} (hw : WG wg) {l : (List Int)} {r : ApiDuty} (h : madeDuty l = some r) : Con Tryz.prog wg gl 10 [.v (.sl 1 (l.map eInt_i64))] [] (.v (.agg [.int .i64 r.Rate, .int .i64 r.Amount, .int .i64 r.Per, .bool r.HasMost, .int .i64 r.Most, .bool r.HasLeast, .int .i64 r.Least])) [] := by
 unfold madeDuty at h
 refine con_of_WC (S := slotsOf 0 _) Tryz.func10 rfl Tryz.ntmps10 rfl (fun t x hx => (slotsOf_get hx).2) ?_
 intro F L w ρ0 R hR
 show WC _ _ _ ⟨[(0, .v (.sl 1 (l.map eInt_i64)))], []⟩ _ _
 refine WC.seq (WC.region ?_)
 refine lr 1 rfl trivial ?_
 refine WL.nil (WQ.thenNormal (WC.seq (WC.region ?_)))
 refine lr 1 rfl trivial ?_
 replace h := bnd h; obtain ⟨v, hvv, h⟩ := h
 refine WL.call0 fn22 rfl rfl rfl rfl (by exact trivial) rfl (madeCut_con hw hvv) ?_
 refine lr 3 rfl trivial ?_
 refine WL.nil (WQ.thenNormal (WC.seq (WC.region ?_)))
 refine lr 1 rfl trivial ?_
 replace h := bnd h; obtain ⟨v2, hvv2, h⟩ := h
 refine WL.callO [(0, 7)] [(0, 7)] [7] fn23 rfl rfl rfl rfl (by exact trivial) (srcDuty_con hw hvv2) rfl rfl (by exact ⟨rfl, trivial⟩) rfl rfl rfl rfl rfl rfl ?_
 refine lr 1 rfl trivial ?_
 refine WL.nil (WQ.thenNormal (WC.ret ?_))
 cases h
 exact WQ.rets tbOk hR [] (.inl rfl) rfl rfl (Le.refl _) (by exact trivial) rfl rfl rfl rfl

end Go.Proofs.YtinickkcieecdaaGreatDoor
