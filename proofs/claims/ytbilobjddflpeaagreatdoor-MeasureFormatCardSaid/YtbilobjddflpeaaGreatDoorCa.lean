/- Contracts: the program's functions compute the plain ones; by program (gen.py). -/
import Derived.Test.YtbilobjddflpeaaGreatDoorLib
import Derived.Test.YtbilobjddflpeaaGreatDoorPa
set_option linter.unusedVariables false
set_option linter.unusedSimpArgs false
set_option maxHeartbeats 4000000
set_option maxRecDepth 20000
namespace Go.Proofs.YtbilobjddflpeaaGreatDoor
open Go.V Go.C

theorem within_con {wg : World} (hw : WG wg) {x : Int} {n1 : Int} {r : Int} (h : within x n1 = some r) : Con Tryz.prog wg gl 16 [.v (.int .i64 x), .v (.int .i64 n1)] [] (.v (.int .i64 r)) [] := by
 unfold within at h
 refine con_of_WC (S := slotsOf 0 _) Tryz.func16 rfl Tryz.ntmps16 rfl (fun t x hx => (slotsOf_get hx).2) ?_
 intro F L w ρ0 R hR
 show WC _ _ _ ⟨[(0, .v (.int .i64 x)), (1, .v (.int .i64 n1))], []⟩ _ _
 refine WC.seq (WC.region ?_)
 refine lr 1 rfl trivial ?_
 refine WL.nil (WQ.thenNormal (WC.seq (WC.region ?_)))
 obtain ⟨g1, h⟩ := grd h
 obtain ⟨g2, h⟩ := grd h
 refine lr 8 rfl (by repeat' (first | exact trivial | assumption | intro _ | exact g1 (by assumption) | exact g2 (by assumption) | apply And.intro | exact sideT | (refine and_i ?_ ?_))) ?_
 refine WL.nil (WQ.thenNormal (WC.ret ?_))
 cases h
 exact WQ.rets tbOk hR [] (.inl rfl) rfl rfl (Le.refl _) (by exact trivial) rfl rfl rfl rfl

theorem srcNext_con {wg : World} (hw : WG wg) {s : CustomsmadeSource} {n1 : Int} {r : Int × CustomsmadeSource} (h : srcNext s n1 = some r) : Con Tryz.prog wg gl 36 [.p 0 0, .v (.int .i64 n1)] [(0, .blk 63 [.v (.sl 1 (s.L.map eInt_i64)), .v (.int .i64 s.I)])] (.v (.int .i64 r.1)) [(0, .blk 63 [.v (.sl 1 (r.2.L.map eInt_i64)), .v (.int .i64 r.2.I)])] := by
 unfold srcNext at h
 refine con_of_WC (S := slotsOf 0 _) Tryz.func36 rfl Tryz.ntmps36 rfl (fun t x hx => (slotsOf_get hx).2) ?_
 intro F L w ρ0 R hR
 show WC _ _ _ ⟨[(0, .p 0 0), (1, .v (.int .i64 n1))], [(0, .blk 63 [.v (.sl 1 (s.L.map eInt_i64)), .v (.int .i64 s.I)])]⟩ _ _
 refine WC.seq (WC.region ?_)
 refine lr 1 rfl trivial ?_
 refine WL.nil (WQ.thenNormal (WC.seq (WC.seq (WC.order mixed ?_))))
 refine wr 8 rfl trivial ?_
 refine WR.q [] rfl rfl rfl (q_ev tbOk (.v (.int .i64 (s.L.length : Int))) rfl (by exact trivial) (by exact lenT)) ?_
 refine wr 1 rfl trivial ?_
 refine WR.nil (by kernel_rfl) (WQ.thenNormal ?_)
 refine WC.cond rfl (fun hc1 => ?_) (fun hc1 => ?_)
 ·replace h := ite_t hc1 h
  refine WC.seq (WC.region ?_)
  refine lr 1 rfl trivial ?_
  refine WL.nil (WQ.thenNormal (WC.ret (WQ.thenRet ?_)))
  cases h
  exact WQ.rets tbOk hR [] (.inl rfl) rfl rfl (Le.refl _) (by exact ⟨rfl, trivial⟩) rfl rfl rfl rfl
 ·replace h := ite_f hc1 h
  refine WC.skip (WQ.thenNormal (WC.seq (WC.region ?_)))
  refine lr 8 rfl trivial ?_
  refine WL.nil (WQ.thenNormal (WC.seq (WC.order mixed ?_)))
  refine wr 9 rfl trivial ?_
  obtain ⟨g1, h⟩ := grd h
  replace h := bnd h; obtain ⟨x, hxx, h⟩ := h
  refine WR.q [] rfl rfl rfl (q_idx tbOk rfl (by exact trivial) g1 (map_get (f := eInt_i64) hxx)) ?_
  refine wr 2 rfl trivial ?_
  replace h := bnd h; obtain ⟨v, hvv, h⟩ := h
  refine WR.call0 fn16 rfl rfl rfl rfl (by exact trivial) rfl (within_con hw hvv) ?_
  refine wr 1 rfl trivial ?_
  refine WR.nil (by kernel_rfl) (WQ.thenNormal (WC.ret ?_))
  cases h
  exact WQ.rets tbOk hR [] (.inl rfl) rfl rfl (Le.refl _) (by exact ⟨rfl, trivial⟩) rfl rfl rfl rfl

theorem madeCut_con {wg : World} (hw : WG wg) {l : (List Int)} {n1 : Int} {r : (List Int)} (h : madeCut l n1 = some r) : Con Tryz.prog wg gl 35 [.v (.sl 1 (l.map eInt_i64)), .v (.int .i64 n1)] [] (.v (.sl 1 (r.map eInt_i64))) [] := by
 unfold madeCut at h
 refine con_of_WC (S := slotsOf 0 _) Tryz.func35 rfl Tryz.ntmps35 rfl (fun t x hx => (slotsOf_get hx).2) ?_
 intro F L w ρ0 R hR
 show WC _ _ _ ⟨[(0, .v (.sl 1 (l.map eInt_i64))), (1, .v (.int .i64 n1))], []⟩ _ _
 refine WC.seq (WC.region ?_)
 refine lr 1 rfl trivial ?_
 refine WL.nil (WQ.thenNormal (WC.seq (WC.seq (WC.region ?_))))
 refine lr 1 rfl trivial ?_
 refine WL.q [] rfl rfl rfl (q_ev tbOk (.v (.int .i64 (l.length : Int))) rfl (by exact trivial) (by exact lenT)) ?_
 refine lr 2 rfl trivial ?_
 refine WL.nil (WQ.thenNormal ?_)
 refine WC.cond rfl (fun hc1 => ?_) (fun hc1 => ?_)
 ·replace h := ite_t hc1 h
  refine WC.seq (WC.region ?_)
  refine lr 2 rfl trivial ?_
  obtain ⟨g1, h⟩ := grd h
  refine WL.q [] rfl rfl rfl (q_ev tbOk (.v (.sl 1 (((l.take n1.toNat).drop (0 : Int).toNat).map eInt_i64))) rfl (by exact sideR) (by exact tdT)) ?_
  refine lr 1 rfl trivial ?_
  refine WL.nil (WQ.thenNormal (WC.ret (WQ.thenRet ?_)))
  cases h
  exact WQ.rets tbOk hR [] (.inl rfl) rfl rfl (Le.refl _) (by exact trivial) rfl rfl rfl rfl
 ·replace h := ite_f hc1 h
  refine WC.skip (WQ.thenNormal (WC.seq (WC.region ?_)))
  refine lr 2 rfl trivial ?_
  refine WL.nil (WQ.thenNormal (WC.ret ?_))
  cases h
  exact WQ.rets tbOk hR [] (.inl rfl) rfl rfl (Le.refl _) (by exact trivial) rfl rfl rfl rfl

theorem srcRate_con {wg : World} (hw : WG wg) {s : CustomsmadeSource} {r : Int × CustomsmadeSource} (h : srcRate s = some r) : Con Tryz.prog wg gl 62 [.p 0 0] [(0, .blk 63 [.v (.sl 1 (s.L.map eInt_i64)), .v (.int .i64 s.I)])] (.v (.int .i64 r.1)) [(0, .blk 63 [.v (.sl 1 (r.2.L.map eInt_i64)), .v (.int .i64 r.2.I)])] := by
 unfold srcRate at h
 refine con_of_WC (S := slotsOf 0 _) Tryz.func62 rfl Tryz.ntmps62 rfl (fun t x hx => (slotsOf_get hx).2) ?_
 intro F L w ρ0 R hR
 show WC _ _ _ ⟨[(0, .p 0 0)], [(0, .blk 63 [.v (.sl 1 (s.L.map eInt_i64)), .v (.int .i64 s.I)])]⟩ _ _
 refine WC.seq (WC.region ?_)
 refine lr 1 rfl trivial ?_
 refine WL.nil (WQ.thenNormal (WC.seq (WC.seq (WC.region ?_))))
 refine lr 1 rfl trivial ?_
 replace h := bnd h; obtain ⟨v, hvv, h⟩ := h
 refine WL.callO [(0, 0)] [(0, 0)] [0] fn36 rfl rfl rfl rfl (by exact trivial) (srcNext_con hw hvv) rfl rfl (by exact ⟨rfl, trivial⟩) rfl rfl rfl rfl rfl rfl ?_
 refine lr 1 rfl trivial ?_
 refine WL.nil (WQ.thenNormal ?_)
 refine WC.cond rfl (fun hc1 => ?_) (fun hc1 => ?_)
 ·replace h := ite_t hc1 h
  refine WC.seq (WC.region ?_)
  refine lr 1 rfl trivial ?_
  replace h := bnd h; obtain ⟨v2, hvv2, h⟩ := h
  refine WL.callO [(0, 0)] [(0, 0)] [0] fn36 rfl rfl rfl rfl (by exact trivial) (srcNext_con hw hvv2) rfl rfl (by exact ⟨rfl, trivial⟩) rfl rfl rfl rfl rfl rfl ?_
  refine lr 2 rfl trivial ?_
  refine WL.nil (WQ.thenNormal (WC.ret (WQ.thenRet ?_)))
  cases h
  exact WQ.rets tbOk hR [] (.inl rfl) rfl rfl (Le.refl _) (by exact ⟨rfl, trivial⟩) rfl rfl rfl rfl
 ·replace h := ite_f hc1 h
  refine WC.skip (WQ.thenNormal (WC.seq (WC.region ?_)))
  refine lr 1 rfl trivial ?_
  replace h := bnd h; obtain ⟨v3, hvv3, h⟩ := h
  refine WL.callO [(0, 0)] [(0, 0)] [0] fn36 rfl rfl rfl rfl (by exact trivial) (srcNext_con hw hvv3) rfl rfl (by exact ⟨rfl, trivial⟩) rfl rfl rfl rfl rfl rfl ?_
  refine lr 1 rfl trivial ?_
  refine WL.nil (WQ.thenNormal (WC.ret ?_))
  cases h
  exact WQ.rets tbOk hR [] (.inl rfl) rfl rfl (Le.refl _) (by exact ⟨rfl, trivial⟩) rfl rfl rfl rfl

theorem srcDuty_con {wg : World} (hw : WG wg) {s : CustomsmadeSource} {r : ApiDuty × CustomsmadeSource} (h : srcDuty s = some r) : Con Tryz.prog wg gl 37 [.p 0 0] [(0, .blk 63 [.v (.sl 1 (s.L.map eInt_i64)), .v (.int .i64 s.I)])] (.v (.agg [.int .i64 r.1.Rate, .int .i64 r.1.Amount, .int .i64 r.1.Per, .bool r.1.HasMost, .int .i64 r.1.Most, .bool r.1.HasLeast, .int .i64 r.1.Least])) [(0, .blk 63 [.v (.sl 1 (r.2.L.map eInt_i64)), .v (.int .i64 r.2.I)])] := by
 unfold srcDuty at h
 refine con_of_WC (S := slotsOf 0 _) Tryz.func37 rfl Tryz.ntmps37 rfl (fun t x hx => (slotsOf_get hx).2) ?_
 intro F L w ρ0 R hR
 show WC _ _ _ ⟨[(0, .p 0 0)], [(0, .blk 63 [.v (.sl 1 (s.L.map eInt_i64)), .v (.int .i64 s.I)])]⟩ _ _
 refine WC.seq (WC.region ?_)
 refine lr 1 rfl trivial ?_
 refine WL.nil (WQ.thenNormal (WC.seq (WC.region ?_)))
 refine lr 3 rfl trivial ?_
 refine WL.nil (WQ.thenNormal (WC.seq (WC.seq (WC.region ?_))))
 refine lr 1 rfl trivial ?_
 replace h := bnd h; obtain ⟨v, hvv, h⟩ := h
 refine WL.callO [(0, 0)] [(0, 0)] [0] fn36 rfl rfl rfl rfl (by exact trivial) (srcNext_con hw hvv) rfl rfl (by exact ⟨rfl, trivial⟩) rfl rfl rfl rfl rfl rfl ?_
 refine lr 1 rfl trivial ?_
 refine WL.nil (WQ.thenNormal ?_)
 refine WC.thenCut (X := (List Int) × Int × Int) (fun gG => ⟨[(3, .p 3 0), (2, .p 2 0), (0, .p 0 0)], [(0, .blk 63 [.v (.sl 1 (gG.1.map eInt_i64)), .v (.int .i64 gG.2.1)]), (2, .blk 32 [.v (.int .i64 0), .v (.int .i64 0), .v (.int .i64 0), .v (.bool false), .v (.int .i64 0), .v (.bool false), .v (.int .i64 0)]), (3, .blk 32 [.v (.int .i64 gG.2.2), .v (.int .i64 0), .v (.int .i64 0), .v (.bool false), .v (.int .i64 0), .v (.bool false), .v (.int .i64 0)])]⟩) (fun gG => srcDuty_j1 gG.1 gG.2.1 gG.2.2 = some r) ?_ ?_
 ·refine WC.cond rfl (fun hc5 => ?_) (fun hc5 => ?_)
  ·replace h := ite_t hc5 h
   refine WC.region ?_
   refine lr 1 rfl trivial ?_
   replace h := bnd h; obtain ⟨v9, hvv9, h⟩ := h
   refine WL.callO [(0, 0)] [(0, 0)] [0] fn62 rfl rfl rfl rfl (by exact trivial) (srcRate_con hw hvv9) rfl rfl (by exact ⟨rfl, trivial⟩) rfl rfl rfl rfl rfl rfl ?_
   refine lr 3 rfl (by exact sideR) ?_
   refine WL.nil ?_
   exact WQ.cut [] (v9.2.L, v9.2.I, (IntKind.i64.wrap (v9.1.tdiv (4 : Int)))) ⟨(by exact ⟨rfl, rfl, rfl, trivial⟩), (by exact ⟨rfl, rfl, rfl, trivial⟩), rfl, rfl, rfl, rfl⟩ h
  ·replace h := ite_f hc5 h
   refine WC.skip ?_
   exact WQ.cut [] (v.2.L, v.2.I, 0) ⟨(by exact ⟨rfl, rfl, rfl, trivial⟩), (by exact ⟨rfl, rfl, rfl, trivial⟩), rfl, rfl, rfl, rfl⟩ h
 ·rintro ⟨c0_0, c0_1, c3_0⟩ h
  replace h : srcDuty_j1 c0_0 c0_1 c3_0 = some _ := h
  unfold srcDuty_j1 at h
  show WC _ _ _ ⟨[(3, .p 3 0), (2, .p 2 0), (0, .p 0 0)], [(0, .blk 63 [.v (.sl 1 (c0_0.map eInt_i64)), .v (.int .i64 c0_1)]), (2, .blk 32 [.v (.int .i64 0), .v (.int .i64 0), .v (.int .i64 0), .v (.bool false), .v (.int .i64 0), .v (.bool false), .v (.int .i64 0)]), (3, .blk 32 [.v (.int .i64 c3_0), .v (.int .i64 0), .v (.int .i64 0), .v (.bool false), .v (.int .i64 0), .v (.bool false), .v (.int .i64 0)])]⟩ _ _
  refine WC.seq (WC.seq (WC.region ?_))
  refine lr 1 rfl trivial ?_
  replace h := bnd h; obtain ⟨v2, hvv2, h⟩ := h
  refine WL.callO [(0, 0)] [(0, 0)] [0] fn36 rfl rfl rfl rfl (by exact trivial) (srcNext_con hw hvv2) rfl rfl (by exact ⟨rfl, trivial⟩) rfl rfl rfl rfl rfl rfl ?_
  refine lr 1 rfl trivial ?_
  refine WL.nil (WQ.thenNormal ?_)
  refine WC.thenCut (X := (List Int) × Int × Int × Int) (fun gG => ⟨[(3, .p 3 0), (2, .p 2 0), (0, .p 0 0)], [(0, .blk 63 [.v (.sl 1 (gG.1.map eInt_i64)), .v (.int .i64 gG.2.1)]), (2, .blk 32 [.v (.int .i64 0), .v (.int .i64 0), .v (.int .i64 0), .v (.bool false), .v (.int .i64 0), .v (.bool false), .v (.int .i64 0)]), (3, .blk 32 [.v (.int .i64 c3_0), .v (.int .i64 gG.2.2.1), .v (.int .i64 gG.2.2.2), .v (.bool false), .v (.int .i64 0), .v (.bool false), .v (.int .i64 0)])]⟩) (fun gG => srcDuty_j2 c3_0 gG.1 gG.2.1 gG.2.2.1 gG.2.2.2 = some r) ?_ ?_
  ·refine WC.cond rfl (fun hc4 => ?_) (fun hc4 => ?_)
   ·replace h := ite_t hc4 h
    refine WC.order mixed ?_
    refine wr 1 rfl trivial ?_
    replace h := bnd h; obtain ⟨v7, hvv7, h⟩ := h
    refine WR.callO [(0, 0)] [(0, 0)] [0] fn36 rfl rfl rfl rfl (by exact trivial) (srcNext_con hw hvv7) rfl rfl (by exact ⟨rfl, trivial⟩) rfl rfl rfl rfl rfl rfl ?_
    refine wr 3 rfl trivial ?_
    replace h := bnd h; obtain ⟨v8, hvv8, h⟩ := h
    refine WR.callO [(0, 0)] [(0, 0)] [0] fn36 rfl rfl rfl rfl (by exact trivial) (srcNext_con hw hvv8) rfl rfl (by exact ⟨rfl, trivial⟩) rfl rfl rfl rfl rfl rfl ?_
    obtain ⟨g1, h⟩ := grd h
    replace h := bnd h; obtain ⟨x, hxx, h⟩ := h
    refine WR.q [] rfl rfl rfl (q_idx tbOk rfl (by exact trivial) g1 (map_get (f := eInt_i64) hxx)) ?_
    refine wr 5 rfl trivial ?_
    refine WR.nil (by kernel_rfl) ?_
    exact WQ.cut [] (v8.2.L, v8.2.I, (IntKind.i64.wrap ((1 : Int) + v7.1)), x) ⟨(by exact ⟨rfl, rfl, rfl, trivial⟩), (by exact ⟨rfl, rfl, rfl, trivial⟩), rfl, rfl, rfl, rfl⟩ h
   ·replace h := ite_f hc4 h
    refine WC.skip ?_
    exact WQ.cut [] (v2.2.L, v2.2.I, 0, 0) ⟨(by exact ⟨rfl, rfl, rfl, trivial⟩), (by exact ⟨rfl, rfl, rfl, trivial⟩), rfl, rfl, rfl, rfl⟩ h
  ·rintro ⟨c0_02, c0_12, c3_1, c3_2⟩ h
   replace h : srcDuty_j2 c3_0 c0_02 c0_12 c3_1 c3_2 = some _ := h
   unfold srcDuty_j2 at h
   show WC _ _ _ ⟨[(3, .p 3 0), (2, .p 2 0), (0, .p 0 0)], [(0, .blk 63 [.v (.sl 1 (c0_02.map eInt_i64)), .v (.int .i64 c0_12)]), (2, .blk 32 [.v (.int .i64 0), .v (.int .i64 0), .v (.int .i64 0), .v (.bool false), .v (.int .i64 0), .v (.bool false), .v (.int .i64 0)]), (3, .blk 32 [.v (.int .i64 c3_0), .v (.int .i64 c3_1), .v (.int .i64 c3_2), .v (.bool false), .v (.int .i64 0), .v (.bool false), .v (.int .i64 0)])]⟩ _ _
   refine WC.seq (WC.seq (WC.region ?_))
   refine lr 1 rfl trivial ?_
   replace h := bnd h; obtain ⟨v3, hvv3, h⟩ := h
   refine WL.callO [(0, 0)] [(0, 0)] [0] fn36 rfl rfl rfl rfl (by exact trivial) (srcNext_con hw hvv3) rfl rfl (by exact ⟨rfl, trivial⟩) rfl rfl rfl rfl rfl rfl ?_
   refine lr 1 rfl trivial ?_
   refine WL.nil (WQ.thenNormal ?_)
   refine WC.thenCut (X := (List Int) × Int × Bool × Int) (fun gG => ⟨[(3, .p 3 0), (2, .p 2 0), (0, .p 0 0)], [(0, .blk 63 [.v (.sl 1 (gG.1.map eInt_i64)), .v (.int .i64 gG.2.1)]), (2, .blk 32 [.v (.int .i64 0), .v (.int .i64 0), .v (.int .i64 0), .v (.bool false), .v (.int .i64 0), .v (.bool false), .v (.int .i64 0)]), (3, .blk 32 [.v (.int .i64 c3_0), .v (.int .i64 c3_1), .v (.int .i64 c3_2), .v (.bool gG.2.2.1), .v (.int .i64 gG.2.2.2), .v (.bool false), .v (.int .i64 0)])]⟩) (fun gG => srcDuty_j3 c3_0 c3_1 c3_2 gG.1 gG.2.1 gG.2.2.1 gG.2.2.2 = some r) ?_ ?_
   ·refine WC.cond rfl (fun hc3 => ?_) (fun hc3 => ?_)
    ·replace h := ite_t hc3 h
     refine WC.region ?_
     refine lr 1 rfl trivial ?_
     replace h := bnd h; obtain ⟨v6, hvv6, h⟩ := h
     refine WL.callO [(0, 0)] [(0, 0)] [0] fn62 rfl rfl rfl rfl (by exact trivial) (srcRate_con hw hvv6) rfl rfl (by exact ⟨rfl, trivial⟩) rfl rfl rfl rfl rfl rfl ?_
     refine lr 4 rfl trivial ?_
     refine WL.nil ?_
     exact WQ.cut [] (v6.2.L, v6.2.I, true, v6.1) ⟨(by exact ⟨rfl, rfl, rfl, trivial⟩), (by exact ⟨rfl, rfl, rfl, trivial⟩), rfl, rfl, rfl, rfl⟩ h
    ·replace h := ite_f hc3 h
     refine WC.skip ?_
     exact WQ.cut [] (v3.2.L, v3.2.I, false, 0) ⟨(by exact ⟨rfl, rfl, rfl, trivial⟩), (by exact ⟨rfl, rfl, rfl, trivial⟩), rfl, rfl, rfl, rfl⟩ h
   ·rintro ⟨c0_03, c0_13, c3_3, c3_4⟩ h
    replace h : srcDuty_j3 c3_0 c3_1 c3_2 c0_03 c0_13 c3_3 c3_4 = some _ := h
    unfold srcDuty_j3 at h
    show WC _ _ _ ⟨[(3, .p 3 0), (2, .p 2 0), (0, .p 0 0)], [(0, .blk 63 [.v (.sl 1 (c0_03.map eInt_i64)), .v (.int .i64 c0_13)]), (2, .blk 32 [.v (.int .i64 0), .v (.int .i64 0), .v (.int .i64 0), .v (.bool false), .v (.int .i64 0), .v (.bool false), .v (.int .i64 0)]), (3, .blk 32 [.v (.int .i64 c3_0), .v (.int .i64 c3_1), .v (.int .i64 c3_2), .v (.bool c3_3), .v (.int .i64 c3_4), .v (.bool false), .v (.int .i64 0)])]⟩ _ _
    refine WC.seq (WC.seq (WC.region ?_))
    refine lr 1 rfl trivial ?_
    replace h := bnd h; obtain ⟨v4, hvv4, h⟩ := h
    refine WL.callO [(0, 0)] [(0, 0)] [0] fn36 rfl rfl rfl rfl (by exact trivial) (srcNext_con hw hvv4) rfl rfl (by exact ⟨rfl, trivial⟩) rfl rfl rfl rfl rfl rfl ?_
    refine lr 1 rfl trivial ?_
    refine WL.nil (WQ.thenNormal ?_)
    refine WC.thenCut (X := (List Int) × Int × Bool × Int) (fun gG => ⟨[(3, .p 3 0), (2, .p 2 0), (0, .p 0 0)], [(0, .blk 63 [.v (.sl 1 (gG.1.map eInt_i64)), .v (.int .i64 gG.2.1)]), (2, .blk 32 [.v (.int .i64 0), .v (.int .i64 0), .v (.int .i64 0), .v (.bool false), .v (.int .i64 0), .v (.bool false), .v (.int .i64 0)]), (3, .blk 32 [.v (.int .i64 c3_0), .v (.int .i64 c3_1), .v (.int .i64 c3_2), .v (.bool c3_3), .v (.int .i64 c3_4), .v (.bool gG.2.2.1), .v (.int .i64 gG.2.2.2)])]⟩) (fun gG => srcDuty_j4 c3_0 c3_1 c3_2 c3_3 c3_4 gG.1 gG.2.1 gG.2.2.1 gG.2.2.2 = some r) ?_ ?_
    ·refine WC.cond rfl (fun hc1 => ?_) (fun hc1 => ?_)
     ·replace h := ite_t hc1 h
      refine WC.seq (WC.region ?_)
      refine lr 1 rfl trivial ?_
      replace h := bnd h; obtain ⟨v5, hvv5, h⟩ := h
      refine WL.callO [(0, 0)] [(0, 0)] [0] fn62 rfl rfl rfl rfl (by exact trivial) (srcRate_con hw hvv5) rfl rfl (by exact ⟨rfl, trivial⟩) rfl rfl rfl rfl rfl rfl ?_
      refine lr 5 rfl (by exact sideR) ?_
      refine WL.nil (WQ.thenNormal (WC.seq (WC.region ?_)))
      refine lr 2 rfl trivial ?_
      refine WL.nil (WQ.thenNormal ?_)
      refine WC.cond rfl (fun hc2 => ?_) (fun hc2 => ?_)
      ·replace h := ite_t hc2 h
       refine WC.region ?_
       refine lr 7 rfl trivial ?_
       refine WL.nil ?_
       exact WQ.cut [] (v5.2.L, v5.2.I, true, (if c3_4 < (IntKind.i64.wrap (v5.1.tdiv (8 : Int))) then c3_4 else (IntKind.i64.wrap (v5.1.tdiv (8 : Int))))) ⟨(by exact ⟨rfl, rfl, rfl, trivial⟩), (by exact ⟨rfl, rfl, rfl, trivial⟩), rfl, rfl, rfl, rfl⟩ h
      ·replace h := ite_f hc2 h
       refine WC.skip ?_
       exact WQ.cut [] (v5.2.L, v5.2.I, true, (IntKind.i64.wrap (v5.1.tdiv (8 : Int)))) ⟨(by exact ⟨rfl, rfl, rfl, trivial⟩), (by exact ⟨rfl, rfl, rfl, trivial⟩), rfl, rfl, rfl, rfl⟩ h
     ·replace h := ite_f hc1 h
      refine WC.skip ?_
      exact WQ.cut [] (v4.2.L, v4.2.I, false, 0) ⟨(by exact ⟨rfl, rfl, rfl, trivial⟩), (by exact ⟨rfl, rfl, rfl, trivial⟩), rfl, rfl, rfl, rfl⟩ h
    ·rintro ⟨c0_04, c0_14, c3_5, c3_6⟩ h
     replace h : srcDuty_j4 c3_0 c3_1 c3_2 c3_3 c3_4 c0_04 c0_14 c3_5 c3_6 = some _ := h
     unfold srcDuty_j4 at h
     show WC _ _ _ ⟨[(3, .p 3 0), (2, .p 2 0), (0, .p 0 0)], [(0, .blk 63 [.v (.sl 1 (c0_04.map eInt_i64)), .v (.int .i64 c0_14)]), (2, .blk 32 [.v (.int .i64 0), .v (.int .i64 0), .v (.int .i64 0), .v (.bool false), .v (.int .i64 0), .v (.bool false), .v (.int .i64 0)]), (3, .blk 32 [.v (.int .i64 c3_0), .v (.int .i64 c3_1), .v (.int .i64 c3_2), .v (.bool c3_3), .v (.int .i64 c3_4), .v (.bool c3_5), .v (.int .i64 c3_6)])]⟩ _ _
     refine WC.seq (WC.region ?_)
     refine lr 2 rfl trivial ?_
     refine WL.nil (WQ.thenNormal (WC.ret ?_))
     cases h
     exact WQ.rets tbOk hR [] (.inl rfl) rfl rfl (Le.refl _) (by exact ⟨rfl, trivial⟩) rfl rfl rfl rfl

theorem srcCode_con {wg : World} (hw : WG wg) {s : CustomsmadeSource} {n1 : Int} {r : Str × CustomsmadeSource} (h : srcCode s n1 = some r) : Con Tryz.prog wg gl 38 [.p 0 0, .v (.int .i64 n1)] [(0, .blk 63 [.v (.sl 1 (s.L.map eInt_i64)), .v (.int .i64 s.I)])] (.v (.str r.1)) [(0, .blk 63 [.v (.sl 1 (r.2.L.map eInt_i64)), .v (.int .i64 r.2.I)])] := by
 unfold srcCode at h
 refine con_of_WC (S := slotsOf 0 _) Tryz.func38 rfl Tryz.ntmps38 rfl (fun t x hx => (slotsOf_get hx).2) ?_
 intro F L w ρ0 R hR
 show WC _ _ _ ⟨[(0, .p 0 0), (1, .v (.int .i64 n1))], [(0, .blk 63 [.v (.sl 1 (s.L.map eInt_i64)), .v (.int .i64 s.I)])]⟩ _ _
 refine WC.seq (WC.region ?_)
 refine lr 1 rfl trivial ?_
 refine WL.nil (WQ.thenNormal (WC.seq (WC.region ?_)))
 refine lr 1 rfl trivial ?_
 replace h := bnd h; obtain ⟨v, hvv, h⟩ := h
 refine WL.callO [(0, 0)] [(0, 0)] [0] fn36 rfl rfl rfl rfl (by exact trivial) (srcNext_con hw hvv) rfl rfl (by exact ⟨rfl, trivial⟩) rfl rfl rfl rfl rfl rfl ?_
 refine lr 2 rfl trivial ?_
 refine WL.buildRow tbOk ([(57 : Int), (IntKind.u8.wrap (IntKind.i64.wrap ((52 : Int) + v.1)))].map eInt_u8) rfl rfl rfl rfl (by exact trivial) rfl rfl ?_
 refine lr 1 rfl trivial ?_
 refine WL.nil (WQ.thenNormal (WC.seq ?_))
 refine WC.thenCut (X := (List Int) × (List Int) × Int) (fun gG => ⟨[(5, .r 1005), (0, .p 0 0)], [(1005, .row 5 1 (gG.1.map eInt_u8)), (0, .blk 63 [.v (.sl 1 (gG.2.1.map eInt_i64)), .v (.int .i64 gG.2.2)])]⟩) (fun gG => srcCode_j1 gG.1 gG.2.1 gG.2.2 = some r) ?_ ?_
 ·refine WC.block ?_
  obtain ⟨eQ1, hl1, hk1⟩ := bnd h
  clear h
  refine WC.loop (σ := (List Int) × (List Int) × Int) (τ := ((List Int) × (List Int) × Int)) (fun sS => ⟨[(5, .r 1005), (0, .p 0 0), (1, .v (.int .i64 n1))], [(1005, .row 5 1 (sS.1.map eInt_u8)), (0, .blk 63 [.v (.sl 1 (sS.2.1.map eInt_i64)), .v (.int .i64 sS.2.2)])]⟩) (srcCode_b1 n1) [(1005, 10)] ([(57 : Int), (IntKind.u8.wrap (IntKind.i64.wrap ((52 : Int) + v.1)))], v.2.L, v.2.I) hl1 ⟨(by exact ⟨rfl, rfl, rfl, trivial⟩), (by exact ⟨rfl, rfl, trivial⟩), rfl, rfl, rfl, rfl⟩ ?_
  rintro ⟨b2, c0_02, c0_12⟩ m hn1 he1 hx1
  obtain ⟨o1, hf1⟩ := some_of hx1
  have h := hf1
  unfold srcCode_b1 at h
  show WC _ _ _ ⟨[(5, .r 1005), (0, .p 0 0), (1, .v (.int .i64 n1))], [(1005, .row 5 1 (b2.map eInt_u8)), (0, .blk 63 [.v (.sl 1 (c0_02.map eInt_i64)), .v (.int .i64 c0_12)])]⟩ _ _
  refine WC.seq (WC.seq (WC.region ?_))
  refine lr 1 rfl trivial ?_
  refine WL.q [1005] rfl rfl rfl (q_ev tbOk (.v (.int .i64 (b2.length : Int))) rfl (by exact trivial) (by exact lenT)) ?_
  refine lr 2 rfl trivial ?_
  refine WL.nil (WQ.thenNormal ?_)
  refine WC.cond rfl (fun hc1 => ?_) (fun hc1 => ?_)
  ·replace h := ite_t hc1 h
   refine WC.skip (WQ.thenNormal (WC.block (WC.region ?_)))
   refine lr 2 rfl trivial ?_
   replace h := bnd h; obtain ⟨v3, hvv3, h⟩ := h
   refine WL.callO [(0, 0)] [(0, 0)] [0] fn36 rfl rfl rfl rfl (by exact trivial) (srcNext_con hw hvv3) rfl rfl (by exact ⟨rfl, trivial⟩) rfl rfl rfl rfl rfl rfl ?_
   refine lr 3 rfl trivial ?_
   obtain ⟨g1, h⟩ := grd h
   refine WL.append tbOk ((b2 ++ [(48 : Int), (IntKind.u8.wrap (IntKind.i64.wrap ((49 : Int) + v3.1)))]).map eInt_u8) [21, 1005] ap37 rfl rfl rfl rfl (fun _ e => by cases e; rfl) (by exact trivial) (map_cells (f := eInt_u8) (xs := [(48 : Int), (IntKind.u8.wrap (IntKind.i64.wrap ((49 : Int) + v3.1)))]) fun _ => rfl) (by have := g1; simp only [List.length_map, List.length_nil, List.length_cons] at this ⊢; omega) rfl rfl (by simp only [List.map_append]; try rfl) rfl ?_
   refine lr 1 rfl trivial ?_
   refine WL.nil (WQ.blockNormal ?_)
   cases h
   exact WQ.next [(1005, 21)] ((b2 ++ [(48 : Int), (IntKind.u8.wrap (IntKind.i64.wrap ((49 : Int) + v3.1)))]), v3.2.L, v3.2.I) ⟨(by exact ⟨rfl, rfl, rfl, trivial⟩), (by exact ⟨rfl, rfl, trivial⟩), rfl, rfl, rfl, rfl⟩ (hn1 _ hf1)
  ·replace h := ite_f hc1 h
   refine WC.exit (WQ.thenExit ?_)
   cases h
   have he := he1 _ hf1
   subst he
   replace h := hk1
   try dsimp only at h
   refine WQ.thenExit (WQ.blockExit ?_)
   exact WQ.cut [] (b2, c0_02, c0_12) ⟨(by exact ⟨rfl, rfl, trivial⟩), (by exact ⟨rfl, rfl, trivial⟩), rfl, rfl, rfl, rfl⟩ h
 ·rintro ⟨b, c0_0, c0_1⟩ h
  replace h : srcCode_j1 b c0_0 c0_1 = some _ := h
  unfold srcCode_j1 at h
  show WC _ _ _ ⟨[(5, .r 1005), (0, .p 0 0)], [(1005, .row 5 1 (b.map eInt_u8)), (0, .blk 63 [.v (.sl 1 (c0_0.map eInt_i64)), .v (.int .i64 c0_1)])]⟩ _ _
  refine WC.seq ?_
  refine WC.publish 1005 rfl rfl ?_
  refine WC.region ?_
  refine lr 1 rfl trivial ?_
  refine WL.q [] rfl rfl rfl (q_b2s tbOk (xs := b) by37 rfl (by exact trivial)) ?_
  refine lr 1 rfl trivial ?_
  refine WL.nil (WQ.thenNormal (WC.ret ?_))
  cases h
  exact WQ.rets tbOk hR [] (.inl rfl) rfl rfl (Le.refl _) (by exact ⟨rfl, trivial⟩) rfl rfl rfl rfl

theorem countries_con {wg : World} (hw : WG wg)  {r : (List Str)} (h : countries  = some r) : Con Tryz.prog wg gl 39 [] [] (.v (.sl 1 (r.map eStr))) [] := by
 unfold countries at h
 refine con_of_WC (S := slotsOf 0 _) Tryz.func39 rfl Tryz.ntmps39 rfl (fun t x hx => (slotsOf_get hx).2) ?_
 intro F L w ρ0 R hR
 show WC _ _ _ ⟨[], []⟩ _ _
 refine WC.seq (WC.region ?_)
 refine lr 1 rfl trivial ?_
 refine WL.nil (WQ.thenNormal (WC.seq (WC.region ?_)))
 refine lr 2 rfl trivial ?_
 refine WL.nil (WQ.thenNormal (WC.ret ?_))
 cases h
 exact WQ.rets tbOk hR [] (.inl rfl) rfl rfl (Le.refl _) (by exact trivial) rfl rfl rfl rfl

theorem madeMeasures_con {wg : World} (hw : WG wg) {l : (List Int)} {r : (List ApiMeasure)} (h : madeMeasures l = some r) : Con Tryz.prog wg gl 14 [.v (.sl 1 (l.map eInt_i64))] [] (.v (.sl 15 (r.map eApiMeasure))) [] := by
 unfold madeMeasures at h
 refine con_of_WC (S := slotsOf 0 _) Tryz.func14 rfl Tryz.ntmps14 rfl (fun t x hx => (slotsOf_get hx).2) ?_
 intro F L w ρ0 R hR
 show WC _ _ _ ⟨[(0, .v (.sl 1 (l.map eInt_i64)))], []⟩ _ _
 refine WC.seq (WC.region ?_)
 refine lr 1 rfl trivial ?_
 refine WL.nil (WQ.thenNormal (WC.seq (WC.region ?_)))
 refine lr 1 rfl trivial ?_
 replace h := bnd h; obtain ⟨v, hvv, h⟩ := h
 refine WL.call0 fn35 rfl rfl rfl rfl (by exact trivial) rfl (madeCut_con hw hvv) ?_
 refine lr 3 rfl trivial ?_
 refine WL.nil (WQ.thenNormal (WC.seq (WC.region ?_)))
 refine lr 1 rfl trivial ?_
 refine WL.nil (WQ.thenNormal (WC.seq (WC.seq (WC.region ?_))))
 refine lr 1 rfl trivial ?_
 replace h := bnd h; obtain ⟨v2, hvv2, h⟩ := h
 refine WL.callO [(0, 13)] [(0, 13)] [13] fn36 rfl rfl rfl rfl (by exact trivial) (srcNext_con hw hvv2) rfl rfl (by exact ⟨rfl, trivial⟩) rfl rfl rfl rfl rfl rfl ?_
 refine lr 1 rfl trivial ?_
 refine WL.nil (WQ.thenNormal ?_)
 refine WC.thenCut (X := (List ApiMeasure) × (List Int) × Int) (fun gG => ⟨[(4, .r 1004), (3, .p 13 0)], [(1004, .row 34 15 (gG.1.map eApiMeasure)), (13, .blk 63 [.v (.sl 1 (gG.2.1.map eInt_i64)), .v (.int .i64 gG.2.2)])]⟩) (fun gG => madeMeasures_j1 gG.1 gG.2.1 gG.2.2 = some r) ?_ ?_
 ·refine WC.cond rfl (fun hc6 => ?_) (fun hc6 => ?_)
  ·replace h := ite_t hc6 h
   refine WC.region ?_
   refine lr 2 rfl trivial ?_
   replace h := bnd h; obtain ⟨v32, hvv32, h⟩ := h
   refine WL.callO [(0, 13)] [(0, 13)] [13] fn37 rfl rfl rfl rfl (by exact trivial) (srcDuty_con hw hvv32) rfl rfl (by exact ⟨rfl, trivial⟩) rfl rfl rfl rfl rfl rfl ?_
   refine lr 2 rfl trivial ?_
   replace h := bnd h; obtain ⟨v33, hvv33, h⟩ := h
   refine WL.callO [(0, 13)] [(0, 13)] [13] fn37 rfl rfl rfl rfl (by exact trivial) (srcDuty_con hw hvv33) rfl rfl (by exact ⟨rfl, trivial⟩) rfl rfl rfl rfl rfl rfl ?_
   refine lr 1 rfl trivial ?_
   refine WL.mkLe tbOk (.v (.sl 15 ([(⟨(1 : Int), (1 : Int), ([57, 52] : Str), [], 0, 0, (36525 : Int), (-1 : Int), v32.1⟩ : ApiMeasure), (⟨(2 : Int), (1 : Int), ([57, 53] : Str), [], 0, 0, (25 : Int), (-1 : Int), v33.1⟩ : ApiMeasure)].map eApiMeasure))) rfl (by exact trivial) (Le.sl (.cons (.same (.same (.same (.sl 1 (.same (.same (.same (.same (.same (.same (.same (.same (.same (.same (.same .nil))))))))))))))) (.cons (.same (.same (.same (.sl 1 (.same (.same (.same (.same (.same (.same (.same (.same (.same (.same (.same .nil))))))))))))))) .nil))) ?_
   obtain ⟨g5, h⟩ := grd h
   refine WL.append tbOk ([(⟨(1 : Int), (1 : Int), ([57, 52] : Str), [], 0, 0, (36525 : Int), (-1 : Int), v32.1⟩ : ApiMeasure), (⟨(2 : Int), (1 : Int), ([57, 53] : Str), [], 0, 0, (25 : Int), (-1 : Int), v33.1⟩ : ApiMeasure)].map eApiMeasure) [25] ap22 rfl rfl rfl rfl (fun _ e => by cases e) (by exact trivial) (map_cells (f := eApiMeasure) (xs := [(⟨(1 : Int), (1 : Int), ([57, 52] : Str), [], 0, 0, (36525 : Int), (-1 : Int), v32.1⟩ : ApiMeasure), (⟨(2 : Int), (1 : Int), ([57, 53] : Str), [], 0, 0, (25 : Int), (-1 : Int), v33.1⟩ : ApiMeasure)]) fun _ => rfl) (by have := g5; simp only [List.length_map, List.length_nil, List.length_cons] at this ⊢; omega) rfl rfl rfl rfl ?_
   refine lr 1 rfl trivial ?_
   refine WL.nil ?_
   exact WQ.cut [(1004, 25)] ([(⟨(1 : Int), (1 : Int), ([57, 52] : Str), [], 0, 0, (36525 : Int), (-1 : Int), v32.1⟩ : ApiMeasure), (⟨(2 : Int), (1 : Int), ([57, 53] : Str), [], 0, 0, (25 : Int), (-1 : Int), v33.1⟩ : ApiMeasure)], v33.2.L, v33.2.I) ⟨(by exact ⟨rfl, rfl, trivial⟩), (by exact ⟨rfl, rfl, trivial⟩), rfl, rfl, rfl, rfl⟩ h
  ·replace h := ite_f hc6 h
   refine WC.skip ?_
   refine WQ.rowNil 4 1004 34 15 rfl rfl ?_
   exact WQ.cut [] ([], v2.2.L, v2.2.I) ⟨(by exact ⟨rfl, rfl, trivial⟩), (by exact ⟨rfl, rfl, trivial⟩), rfl, rfl, rfl, rfl⟩ h
 ·rintro ⟨out, c13_0, c13_1⟩ h
  replace h : madeMeasures_j1 out c13_0 c13_1 = some _ := h
  unfold madeMeasures_j1 at h
  show WC _ _ _ ⟨[(4, .r 1004), (3, .p 13 0)], [(1004, .row 34 15 (out.map eApiMeasure)), (13, .blk 63 [.v (.sl 1 (c13_0.map eInt_i64)), .v (.int .i64 c13_1)])]⟩ _ _
  refine WC.seq (WC.seq (WC.region ?_))
  refine lr 1 rfl trivial ?_
  replace h := bnd h; obtain ⟨v3, hvv3, h⟩ := h
  refine WL.callO [(0, 13)] [(0, 13)] [13] fn36 rfl rfl rfl rfl (by exact trivial) (srcNext_con hw hvv3) rfl rfl (by exact ⟨rfl, trivial⟩) rfl rfl rfl rfl rfl rfl ?_
  refine lr 2 rfl trivial ?_
  refine WL.nil (WQ.thenNormal ?_)
  refine WC.thenCut (X := (List ApiMeasure)) (fun gG => ⟨[(4, .r 1004)], [(1004, .row 34 15 (gG.map eApiMeasure))]⟩) (fun gG => madeMeasures_j2 gG = some r) ?_ ?_
  ·refine WC.block ?_
   obtain ⟨eQ1, hl1, hk1⟩ := bnd h
   clear h
   refine WC.loop (σ := Int × (List ApiMeasure) × (List Int) × Int) (τ := ((List ApiMeasure))) (fun sS => ⟨[(6, .v (.int .i64 v3.1)), (5, .v (.int .i64 sS.1)), (4, .r 1004), (3, .p 13 0)], [(1004, .row 34 15 (sS.2.1.map eApiMeasure)), (13, .blk 63 [.v (.sl 1 (sS.2.2.1.map eInt_i64)), .v (.int .i64 sS.2.2.2)])]⟩) (madeMeasures_b1 v3) [] ((0 : Int), out, v3.2.L, v3.2.I) hl1 ⟨(by exact ⟨rfl, rfl, rfl, rfl, trivial⟩), (by exact ⟨rfl, rfl, trivial⟩), rfl, rfl, rfl, rfl⟩ ?_
   rintro ⟨i, out3, c13_02, c13_12⟩ m hn1 he1 hx1
   obtain ⟨o1, hf1⟩ := some_of hx1
   have h := hf1
   unfold madeMeasures_b1 at h
   show WC _ _ _ ⟨[(6, .v (.int .i64 v3.1)), (5, .v (.int .i64 i)), (4, .r 1004), (3, .p 13 0)], [(1004, .row 34 15 (out3.map eApiMeasure)), (13, .blk 63 [.v (.sl 1 (c13_02.map eInt_i64)), .v (.int .i64 c13_12)])]⟩ _ _
   refine WC.seq (WC.seq (WC.region ?_))
   refine lr 3 rfl trivial ?_
   refine WL.nil (WQ.thenNormal ?_)
   refine WC.cond rfl (fun hc1 => ?_) (fun hc1 => ?_)
   ·replace h := ite_t hc1 h
    refine WC.skip (WQ.thenNormal (WC.seq ?_))
    refine WC.thenCut (X := (List ApiMeasure) × (List Int) × Int) (fun gG => ⟨[(4, .r 1004), (6, .v (.int .i64 v3.1)), (5, .v (.int .i64 i)), (3, .p 13 0)], [(1004, .row 34 15 (gG.1.map eApiMeasure)), (13, .blk 63 [.v (.sl 1 (gG.2.1.map eInt_i64)), .v (.int .i64 gG.2.2)])]⟩) (fun gG => madeMeasures_j3 v3 i gG.1 gG.2.1 gG.2.2 = some o1) ?_ ?_
    ·refine WC.block (WC.seq (WC.region ?_))
     refine lr 4 rfl trivial ?_
     replace h := bnd h; obtain ⟨v18, hvv18, h⟩ := h
     refine WL.callO [(0, 13)] [(0, 13)] [13] fn36 rfl rfl rfl rfl (by exact trivial) (srcNext_con hw hvv18) rfl rfl (by exact ⟨rfl, trivial⟩) rfl rfl rfl rfl rfl rfl ?_
     refine lr 3 rfl trivial ?_
     replace h := bnd h; obtain ⟨v19, hvv19, h⟩ := h
     refine WL.callO [(0, 13)] [(0, 13)] [13] fn36 rfl rfl rfl rfl (by exact trivial) (srcNext_con hw hvv19) rfl rfl (by exact ⟨rfl, trivial⟩) rfl rfl rfl rfl rfl rfl ?_
     refine lr 2 rfl trivial ?_
     replace h := bnd h; obtain ⟨v20, hvv20, h⟩ := h
     refine WL.callO [(0, 13)] [(0, 13)] [13] fn38 rfl rfl rfl rfl (by exact trivial) (srcCode_con hw hvv20) rfl rfl (by exact ⟨rfl, trivial⟩) rfl rfl rfl rfl rfl rfl ?_
     refine lr 1 rfl trivial ?_
     replace h := bnd h; obtain ⟨v21, hvv21, h⟩ := h
     refine WL.callO [(0, 13)] [(0, 13)] [13] fn36 rfl rfl rfl rfl (by exact trivial) (srcNext_con hw hvv21) rfl rfl (by exact ⟨rfl, trivial⟩) rfl rfl rfl rfl rfl rfl ?_
     refine lr 1 rfl trivial ?_
     replace h := bnd h; obtain ⟨v22, hvv22, h⟩ := h
     refine WL.callO [(0, 13)] [(0, 13)] [13] fn37 rfl rfl rfl rfl (by exact trivial) (srcDuty_con hw hvv22) rfl rfl (by exact ⟨rfl, trivial⟩) rfl rfl rfl rfl rfl rfl ?_
     refine lr 3 rfl trivial ?_
     refine WL.nil (WQ.thenNormal (WC.seq (WC.order mixed ?_)))
     refine wr 4 rfl trivial ?_
     replace h := bnd h; obtain ⟨v23, hvv23, h⟩ := h
     refine WR.callO [(0, 13)] [(0, 13)] [13] fn36 rfl rfl rfl rfl (by exact trivial) (srcNext_con hw hvv23) rfl rfl (by exact ⟨rfl, trivial⟩) rfl rfl rfl rfl rfl rfl ?_
     refine wr 3 rfl trivial ?_
     refine WR.nil (by kernel_rfl) (WQ.thenNormal (WC.seq (WC.seq (WC.region ?_))))
     refine lr 1 rfl trivial ?_
     replace h := bnd h; obtain ⟨v24, hvv24, h⟩ := h
     refine WL.callO [(0, 13)] [(0, 13)] [13] fn36 rfl rfl rfl rfl (by exact trivial) (srcNext_con hw hvv24) rfl rfl (by exact ⟨rfl, trivial⟩) rfl rfl rfl rfl rfl rfl ?_
     refine lr 1 rfl trivial ?_
     refine WL.nil (WQ.thenNormal ?_)
     refine WC.thenCut (X := (List ApiMeasure) × (List Int) × Int × Int) (fun gG => ⟨[(7, .p 7 0), (6, .v (.int .i64 v3.1)), (5, .v (.int .i64 i)), (4, .r 1004), (3, .p 13 0)], [(1004, .row 34 15 (gG.1.map eApiMeasure)), (13, .blk 63 [.v (.sl 1 (gG.2.1.map eInt_i64)), .v (.int .i64 gG.2.2.1)]), (7, .blk 34 [.v (.int .i64 (IntKind.i64.wrap ((3 : Int) + (IntKind.i64.wrap ((2 : Int) * i))))), .v (.int .i64 (IntKind.i64.wrap ((1 : Int) + v18.1))), .v (.str v20.1), .v (.raw (.slice none 0 0)), .v (.int .i64 0), .v (.int .i64 v21.1), .v (.int .i64 (IntKind.i64.wrap ((IntKind.i64.wrap (v21.1 + (1 : Int))) + v23.1))), .v (.int .i64 gG.2.2.2), .v (.int .i64 v22.1.Rate), .v (.int .i64 v22.1.Amount), .v (.int .i64 v22.1.Per), .v (.bool v22.1.HasMost), .v (.int .i64 v22.1.Most), .v (.bool v22.1.HasLeast), .v (.int .i64 v22.1.Least)])]⟩) (fun gG => madeMeasures_j4 v3 i v18 v20 v21 v22 v23 gG.1 gG.2.1 gG.2.2.1 gG.2.2.2 = some o1) ?_ ?_
     ·refine WC.cond rfl (fun hc5 => ?_) (fun hc5 => ?_)
      ·replace h := ite_t hc5 h
       refine WC.region ?_
       refine lr 4 rfl trivial ?_
       replace h := bnd h; obtain ⟨v31, hvv31, h⟩ := h
       refine WL.callO [(0, 13)] [(0, 13)] [13] fn36 rfl rfl rfl rfl (by exact trivial) (srcNext_con hw hvv31) rfl rfl (by exact ⟨rfl, trivial⟩) rfl rfl rfl rfl rfl rfl ?_
       refine lr 2 rfl trivial ?_
       refine WL.nil ?_
       exact WQ.cut [] (out3, v31.2.L, v31.2.I, v31.1) ⟨(by exact ⟨rfl, rfl, rfl, rfl, rfl, trivial⟩), (by exact ⟨rfl, rfl, rfl, trivial⟩), rfl, rfl, rfl, rfl⟩ h
      ·replace h := ite_f hc5 h
       refine WC.skip ?_
       exact WQ.cut [] (out3, v24.2.L, v24.2.I, (-1 : Int)) ⟨(by exact ⟨rfl, rfl, rfl, rfl, rfl, trivial⟩), (by exact ⟨rfl, rfl, rfl, trivial⟩), rfl, rfl, rfl, rfl⟩ h
     ·rintro ⟨out17, c13_08, c13_18, c7_72⟩ h
      replace h : madeMeasures_j4 v3 i v18 v20 v21 v22 v23 out17 c13_08 c13_18 c7_72 = some _ := h
      unfold madeMeasures_j4 at h
      show WC _ _ _ ⟨[(7, .p 7 0), (6, .v (.int .i64 v3.1)), (5, .v (.int .i64 i)), (4, .r 1004), (3, .p 13 0)], [(1004, .row 34 15 (out17.map eApiMeasure)), (13, .blk 63 [.v (.sl 1 (c13_08.map eInt_i64)), .v (.int .i64 c13_18)]), (7, .blk 34 [.v (.int .i64 (IntKind.i64.wrap ((3 : Int) + (IntKind.i64.wrap ((2 : Int) * i))))), .v (.int .i64 (IntKind.i64.wrap ((1 : Int) + v18.1))), .v (.str v20.1), .v (.raw (.slice none 0 0)), .v (.int .i64 0), .v (.int .i64 v21.1), .v (.int .i64 (IntKind.i64.wrap ((IntKind.i64.wrap (v21.1 + (1 : Int))) + v23.1))), .v (.int .i64 c7_72), .v (.int .i64 v22.1.Rate), .v (.int .i64 v22.1.Amount), .v (.int .i64 v22.1.Per), .v (.bool v22.1.HasMost), .v (.int .i64 v22.1.Most), .v (.bool v22.1.HasLeast), .v (.int .i64 v22.1.Least)])]⟩ _ _
      refine WC.seq (WC.seq (WC.region ?_))
      refine lr 1 rfl trivial ?_
      replace h := bnd h; obtain ⟨v25, hvv25, h⟩ := h
      refine WL.callO [(0, 13)] [(0, 13)] [13] fn36 rfl rfl rfl rfl (by exact trivial) (srcNext_con hw hvv25) rfl rfl (by exact ⟨rfl, trivial⟩) rfl rfl rfl rfl rfl rfl ?_
      refine lr 1 rfl trivial ?_
      refine WL.nil (WQ.thenNormal ?_)
      refine WC.thenCut (X := (List ApiMeasure) × (List Int) × Int × Int) (fun gG => ⟨[(7, .p 7 0), (6, .v (.int .i64 v3.1)), (5, .v (.int .i64 i)), (4, .r 1004), (3, .p 13 0)], [(1004, .row 34 15 (gG.1.map eApiMeasure)), (13, .blk 63 [.v (.sl 1 (gG.2.1.map eInt_i64)), .v (.int .i64 gG.2.2.1)]), (7, .blk 34 [.v (.int .i64 (IntKind.i64.wrap ((3 : Int) + (IntKind.i64.wrap ((2 : Int) * i))))), .v (.int .i64 (IntKind.i64.wrap ((1 : Int) + v18.1))), .v (.str v20.1), .v (.raw (.slice none 0 0)), .v (.int .i64 gG.2.2.2), .v (.int .i64 v21.1), .v (.int .i64 (IntKind.i64.wrap ((IntKind.i64.wrap (v21.1 + (1 : Int))) + v23.1))), .v (.int .i64 c7_72), .v (.int .i64 v22.1.Rate), .v (.int .i64 v22.1.Amount), .v (.int .i64 v22.1.Per), .v (.bool v22.1.HasMost), .v (.int .i64 v22.1.Most), .v (.bool v22.1.HasLeast), .v (.int .i64 v22.1.Least)])]⟩) (fun gG => madeMeasures_j5 v3 i v18 v20 v21 v22 v23 c7_72 gG.1 gG.2.1 gG.2.2.1 gG.2.2.2 = some o1) ?_ ?_
      ·refine WC.cond rfl (fun hc4 => ?_) (fun hc4 => ?_)
       ·replace h := ite_t hc4 h
        refine WC.region ?_
        refine lr 1 rfl trivial ?_
        replace h := bnd h; obtain ⟨v30, hvv30, h⟩ := h
        refine WL.callO [(0, 13)] [(0, 13)] [13] fn36 rfl rfl rfl rfl (by exact trivial) (srcNext_con hw hvv30) rfl rfl (by exact ⟨rfl, trivial⟩) rfl rfl rfl rfl rfl rfl ?_
        refine lr 3 rfl trivial ?_
        refine WL.nil ?_
        exact WQ.cut [] (out17, v30.2.L, v30.2.I, (IntKind.i64.wrap ((1 : Int) + v30.1))) ⟨(by exact ⟨rfl, rfl, rfl, rfl, rfl, trivial⟩), (by exact ⟨rfl, rfl, rfl, trivial⟩), rfl, rfl, rfl, rfl⟩ h
       ·replace h := ite_f hc4 h
        refine WC.skip ?_
        exact WQ.cut [] (out17, v25.2.L, v25.2.I, 0) ⟨(by exact ⟨rfl, rfl, rfl, rfl, rfl, trivial⟩), (by exact ⟨rfl, rfl, rfl, trivial⟩), rfl, rfl, rfl, rfl⟩ h
      ·rintro ⟨out18, c13_09, c13_19, c7_42⟩ h
       replace h : madeMeasures_j5 v3 i v18 v20 v21 v22 v23 c7_72 out18 c13_09 c13_19 c7_42 = some _ := h
       unfold madeMeasures_j5 at h
       show WC _ _ _ ⟨[(7, .p 7 0), (6, .v (.int .i64 v3.1)), (5, .v (.int .i64 i)), (4, .r 1004), (3, .p 13 0)], [(1004, .row 34 15 (out18.map eApiMeasure)), (13, .blk 63 [.v (.sl 1 (c13_09.map eInt_i64)), .v (.int .i64 c13_19)]), (7, .blk 34 [.v (.int .i64 (IntKind.i64.wrap ((3 : Int) + (IntKind.i64.wrap ((2 : Int) * i))))), .v (.int .i64 (IntKind.i64.wrap ((1 : Int) + v18.1))), .v (.str v20.1), .v (.raw (.slice none 0 0)), .v (.int .i64 c7_42), .v (.int .i64 v21.1), .v (.int .i64 (IntKind.i64.wrap ((IntKind.i64.wrap (v21.1 + (1 : Int))) + v23.1))), .v (.int .i64 c7_72), .v (.int .i64 v22.1.Rate), .v (.int .i64 v22.1.Amount), .v (.int .i64 v22.1.Per), .v (.bool v22.1.HasMost), .v (.int .i64 v22.1.Most), .v (.bool v22.1.HasLeast), .v (.int .i64 v22.1.Least)])]⟩ _ _
       refine WC.seq (WC.region ?_)
       refine lr 1 rfl trivial ?_
       replace h := bnd h; obtain ⟨v26, hvv26, h⟩ := h
       refine WL.callO [(0, 13)] [(0, 13)] [13] fn36 rfl rfl rfl rfl (by exact trivial) (srcNext_con hw hvv26) rfl rfl (by exact ⟨rfl, trivial⟩) rfl rfl rfl rfl rfl rfl ?_
       refine lr 1 rfl trivial ?_
       refine WL.nil (WQ.thenNormal (WC.seq (WC.seq (WC.region ?_))))
       refine lr 1 rfl trivial ?_
       refine WL.nil (WQ.thenNormal ?_)
       refine WC.thenCut (X := (List ApiMeasure) × (List Str)) (fun gG => ⟨[(7, .p 7 0), (6, .v (.int .i64 v3.1)), (5, .v (.int .i64 i)), (4, .r 1004), (3, .p 13 0)], [(1004, .row 34 15 (gG.1.map eApiMeasure)), (13, .blk 63 [.v (.sl 1 (v26.2.L.map eInt_i64)), .v (.int .i64 v26.2.I)]), (2353, .row 9 1 (gG.2.map eStr)), (7, .blk 34 [.v (.int .i64 (IntKind.i64.wrap ((3 : Int) + (IntKind.i64.wrap ((2 : Int) * i))))), .v (.int .i64 (IntKind.i64.wrap ((1 : Int) + v18.1))), .v (.str v20.1), .r 2353, .v (.int .i64 c7_42), .v (.int .i64 v21.1), .v (.int .i64 (IntKind.i64.wrap ((IntKind.i64.wrap (v21.1 + (1 : Int))) + v23.1))), .v (.int .i64 c7_72), .v (.int .i64 v22.1.Rate), .v (.int .i64 v22.1.Amount), .v (.int .i64 v22.1.Per), .v (.bool v22.1.HasMost), .v (.int .i64 v22.1.Most), .v (.bool v22.1.HasLeast), .v (.int .i64 v22.1.Least)])]⟩) (fun gG => madeMeasures_j6 v3 i v18 v20 v21 v22 v23 c7_72 c7_42 v26 gG.1 gG.2 = some o1) ?_ ?_
       ·refine WC.block ?_
        obtain ⟨eQ2, hl2, hk2⟩ := bnd h
        clear h
        refine WC.rowNilB 7 3 2353 9 1 rfl rfl rfl (cs2 := [.v (.int .i64 (IntKind.i64.wrap ((3 : Int) + (IntKind.i64.wrap ((2 : Int) * i))))), .v (.int .i64 (IntKind.i64.wrap ((1 : Int) + v18.1))), .v (.str v20.1), .r 2353, .v (.int .i64 c7_42), .v (.int .i64 v21.1), .v (.int .i64 (IntKind.i64.wrap ((IntKind.i64.wrap (v21.1 + (1 : Int))) + v23.1))), .v (.int .i64 c7_72), .v (.int .i64 v22.1.Rate), .v (.int .i64 v22.1.Amount), .v (.int .i64 v22.1.Per), .v (.bool v22.1.HasMost), .v (.int .i64 v22.1.Most), .v (.bool v22.1.HasLeast), .v (.int .i64 v22.1.Least)]) rfl ?_
        refine WC.loop (σ := Int × (List ApiMeasure) × (List Str)) (τ := ((List ApiMeasure) × (List Str))) (fun sS => ⟨[(9, .v (.int .i64 sS.1)), (8, .v (.int .i64 v26.1)), (7, .p 7 0), (6, .v (.int .i64 v3.1)), (5, .v (.int .i64 i)), (4, .r 1004), (3, .p 13 0)], [(1004, .row 34 15 (sS.2.1.map eApiMeasure)), (13, .blk 63 [.v (.sl 1 (v26.2.L.map eInt_i64)), .v (.int .i64 v26.2.I)]), (2353, .row 9 1 (sS.2.2.map eStr)), (7, .blk 34 [.v (.int .i64 (IntKind.i64.wrap ((3 : Int) + (IntKind.i64.wrap ((2 : Int) * i))))), .v (.int .i64 (IntKind.i64.wrap ((1 : Int) + v18.1))), .v (.str v20.1), .r 2353, .v (.int .i64 c7_42), .v (.int .i64 v21.1), .v (.int .i64 (IntKind.i64.wrap ((IntKind.i64.wrap (v21.1 + (1 : Int))) + v23.1))), .v (.int .i64 c7_72), .v (.int .i64 v22.1.Rate), .v (.int .i64 v22.1.Amount), .v (.int .i64 v22.1.Per), .v (.bool v22.1.HasMost), .v (.int .i64 v22.1.Most), .v (.bool v22.1.HasLeast), .v (.int .i64 v22.1.Least)])]⟩) (madeMeasures_b2 v3 i v18 v20 v21 v22 v23 c7_72 c7_42 v26) [] ((0 : Int), out18, []) hl2 ⟨(by exact ⟨rfl, rfl, rfl, rfl, rfl, rfl, rfl, trivial⟩), (by exact ⟨rfl, rfl, rfl, rfl, trivial⟩), rfl, rfl, rfl, rfl⟩ ?_
        rintro ⟨k4, out22, c7_39⟩ m hn2 he2 hx2
        obtain ⟨o2, hf2⟩ := some_of hx2
        have h := hf2
        unfold madeMeasures_b2 at h
        show WC _ _ _ ⟨[(9, .v (.int .i64 k4)), (8, .v (.int .i64 v26.1)), (7, .p 7 0), (6, .v (.int .i64 v3.1)), (5, .v (.int .i64 i)), (4, .r 1004), (3, .p 13 0)], [(1004, .row 34 15 (out22.map eApiMeasure)), (13, .blk 63 [.v (.sl 1 (v26.2.L.map eInt_i64)), .v (.int .i64 v26.2.I)]), (2353, .row 9 1 (c7_39.map eStr)), (7, .blk 34 [.v (.int .i64 (IntKind.i64.wrap ((3 : Int) + (IntKind.i64.wrap ((2 : Int) * i))))), .v (.int .i64 (IntKind.i64.wrap ((1 : Int) + v18.1))), .v (.str v20.1), .r 2353, .v (.int .i64 c7_42), .v (.int .i64 v21.1), .v (.int .i64 (IntKind.i64.wrap ((IntKind.i64.wrap (v21.1 + (1 : Int))) + v23.1))), .v (.int .i64 c7_72), .v (.int .i64 v22.1.Rate), .v (.int .i64 v22.1.Amount), .v (.int .i64 v22.1.Per), .v (.bool v22.1.HasMost), .v (.int .i64 v22.1.Most), .v (.bool v22.1.HasLeast), .v (.int .i64 v22.1.Least)])]⟩ _ _
        refine WC.seq (WC.seq (WC.region ?_))
        refine lr 6 rfl (by exact sideR) ?_
        refine WL.nil (WQ.thenNormal ?_)
        refine WC.cond rfl (fun hc2 => ?_) (fun hc2 => ?_)
        ·replace h := ite_t hc2 h
         refine WC.skip (WQ.thenNormal (WC.seq ?_))
         refine WC.thenCut (X := (List ApiMeasure) × (List Str)) (fun gG => ⟨[(9, .v (.int .i64 k4)), (8, .v (.int .i64 v26.1)), (7, .p 7 0), (6, .v (.int .i64 v3.1)), (5, .v (.int .i64 i)), (4, .r 1004), (3, .p 13 0)], [(1004, .row 34 15 (gG.1.map eApiMeasure)), (13, .blk 63 [.v (.sl 1 (v26.2.L.map eInt_i64)), .v (.int .i64 v26.2.I)]), (2353, .row 9 1 (gG.2.map eStr)), (7, .blk 34 [.v (.int .i64 (IntKind.i64.wrap ((3 : Int) + (IntKind.i64.wrap ((2 : Int) * i))))), .v (.int .i64 (IntKind.i64.wrap ((1 : Int) + v18.1))), .v (.str v20.1), .r 2353, .v (.int .i64 c7_42), .v (.int .i64 v21.1), .v (.int .i64 (IntKind.i64.wrap ((IntKind.i64.wrap (v21.1 + (1 : Int))) + v23.1))), .v (.int .i64 c7_72), .v (.int .i64 v22.1.Rate), .v (.int .i64 v22.1.Amount), .v (.int .i64 v22.1.Per), .v (.bool v22.1.HasMost), .v (.int .i64 v22.1.Most), .v (.bool v22.1.HasLeast), .v (.int .i64 v22.1.Least)])]⟩) (fun gG => madeMeasures_j7 v3 i v18 v20 v21 v22 v23 c7_72 c7_42 v26 k4 gG.1 gG.2 = some o2) ?_ ?_
         ·refine WC.block (WC.seq (WC.region ?_))
          obtain ⟨g2, h⟩ := grd h
          refine lr 5 rfl (by repeat' (first | exact trivial | assumption | intro _ | exact g2 (by assumption) | apply And.intro | exact sideT | (refine and_i ?_ ?_))) ?_
          refine WL.nil (WQ.thenNormal ?_)
          refine WC.cond rfl (fun hc3 => ?_) (fun hc3 => ?_)
          ·replace h := ite_t hc3 h
           refine WC.order mixed ?_
           refine wr 2 rfl trivial ?_
           replace h := bnd h; obtain ⟨v29, hvv29, h⟩ := h
           refine WR.call0 fn39 rfl rfl rfl rfl (by exact trivial) rfl (countries_con hw hvv29) ?_
           refine wr 1 rfl trivial ?_
           obtain ⟨g3, h⟩ := grd h
           replace h := bnd h; obtain ⟨x6, hxx6, h⟩ := h
           refine WR.q [] rfl rfl rfl (q_idx tbOk rfl (by exact trivial) g3 (map_get (f := eStr) hxx6)) ?_
           refine wr 2 rfl trivial ?_
           obtain ⟨g4, h⟩ := grd h
           refine WR.append tbOk ((c7_39 ++ [x6]).map eStr) [95, 2353] ap30 rfl rfl rfl rfl (fun _ e => by cases e; rfl) (by exact trivial) (map_cells (f := eStr) (xs := [x6]) fun _ => rfl) (by have := g4; simp only [List.length_map, List.length_nil, List.length_cons] at this ⊢; omega) rfl rfl (by simp only [List.map_append]; try rfl) rfl rfl ?_
           refine wr 2 rfl trivial ?_
           refine WR.nil (by kernel_rfl) (WQ.blockNormal ?_)
           exact WQ.cut [(2353, 95)] (out22, (c7_39 ++ [x6])) ⟨(by exact ⟨rfl, rfl, rfl, rfl, rfl, rfl, rfl, trivial⟩), (by exact ⟨rfl, rfl, rfl, rfl, trivial⟩), rfl, rfl, rfl, rfl⟩ h
          ·replace h := ite_f hc3 h
           refine WC.skip (WQ.blockNormal ?_)
           exact WQ.cut [] (out22, c7_39) ⟨(by exact ⟨rfl, rfl, rfl, rfl, rfl, rfl, rfl, trivial⟩), (by exact ⟨rfl, rfl, rfl, rfl, trivial⟩), rfl, rfl, rfl, rfl⟩ h
         ·rintro ⟨out25, c7_312⟩ h
          replace h : madeMeasures_j7 v3 i v18 v20 v21 v22 v23 c7_72 c7_42 v26 k4 out25 c7_312 = some _ := h
          unfold madeMeasures_j7 at h
          show WC _ _ _ ⟨[(9, .v (.int .i64 k4)), (8, .v (.int .i64 v26.1)), (7, .p 7 0), (6, .v (.int .i64 v3.1)), (5, .v (.int .i64 i)), (4, .r 1004), (3, .p 13 0)], [(1004, .row 34 15 (out25.map eApiMeasure)), (13, .blk 63 [.v (.sl 1 (v26.2.L.map eInt_i64)), .v (.int .i64 v26.2.I)]), (2353, .row 9 1 (c7_312.map eStr)), (7, .blk 34 [.v (.int .i64 (IntKind.i64.wrap ((3 : Int) + (IntKind.i64.wrap ((2 : Int) * i))))), .v (.int .i64 (IntKind.i64.wrap ((1 : Int) + v18.1))), .v (.str v20.1), .r 2353, .v (.int .i64 c7_42), .v (.int .i64 v21.1), .v (.int .i64 (IntKind.i64.wrap ((IntKind.i64.wrap (v21.1 + (1 : Int))) + v23.1))), .v (.int .i64 c7_72), .v (.int .i64 v22.1.Rate), .v (.int .i64 v22.1.Amount), .v (.int .i64 v22.1.Per), .v (.bool v22.1.HasMost), .v (.int .i64 v22.1.Most), .v (.bool v22.1.HasLeast), .v (.int .i64 v22.1.Least)])]⟩ _ _
          refine WC.region ?_
          refine lr 3 rfl trivial ?_
          refine WL.nil ?_
          cases h
          exact WQ.next [] ((IntKind.i64.wrap (k4 + (1 : Int))), out25, c7_312) ⟨(by exact ⟨rfl, rfl, rfl, rfl, rfl, rfl, rfl, trivial⟩), (by exact ⟨rfl, rfl, rfl, rfl, trivial⟩), rfl, rfl, rfl, rfl⟩ (hn2 _ hf2)
        ·replace h := ite_f hc2 h
         refine WC.exit (WQ.thenExit ?_)
         cases h
         have he := he2 _ hf2
         subst he
         replace h := hk2
         try dsimp only at h
         refine WQ.thenExit (WQ.blockExit ?_)
         exact WQ.cut [] (out22, c7_39) ⟨(by exact ⟨rfl, rfl, rfl, rfl, rfl, trivial⟩), (by exact ⟨rfl, rfl, rfl, rfl, trivial⟩), rfl, rfl, rfl, rfl⟩ h
       ·rintro ⟨out19, c7_37⟩ h
        replace h : madeMeasures_j6 v3 i v18 v20 v21 v22 v23 c7_72 c7_42 v26 out19 c7_37 = some _ := h
        unfold madeMeasures_j6 at h
        show WC _ _ _ ⟨[(7, .p 7 0), (6, .v (.int .i64 v3.1)), (5, .v (.int .i64 i)), (4, .r 1004), (3, .p 13 0)], [(1004, .row 34 15 (out19.map eApiMeasure)), (13, .blk 63 [.v (.sl 1 (v26.2.L.map eInt_i64)), .v (.int .i64 v26.2.I)]), (2353, .row 9 1 (c7_37.map eStr)), (7, .blk 34 [.v (.int .i64 (IntKind.i64.wrap ((3 : Int) + (IntKind.i64.wrap ((2 : Int) * i))))), .v (.int .i64 (IntKind.i64.wrap ((1 : Int) + v18.1))), .v (.str v20.1), .r 2353, .v (.int .i64 c7_42), .v (.int .i64 v21.1), .v (.int .i64 (IntKind.i64.wrap ((IntKind.i64.wrap (v21.1 + (1 : Int))) + v23.1))), .v (.int .i64 c7_72), .v (.int .i64 v22.1.Rate), .v (.int .i64 v22.1.Amount), .v (.int .i64 v22.1.Per), .v (.bool v22.1.HasMost), .v (.int .i64 v22.1.Most), .v (.bool v22.1.HasLeast), .v (.int .i64 v22.1.Least)])]⟩ _ _
        refine WC.publish 2353 rfl rfl ?_
        refine WC.region ?_
        refine lr 3 rfl trivial ?_
        obtain ⟨g1, h⟩ := grd h
        refine WL.append tbOk ((out19 ++ [(⟨(IntKind.i64.wrap ((3 : Int) + (IntKind.i64.wrap ((2 : Int) * i)))), (IntKind.i64.wrap ((1 : Int) + v18.1)), v20.1, c7_37, c7_42, v21.1, (IntKind.i64.wrap ((IntKind.i64.wrap (v21.1 + (1 : Int))) + v23.1)), c7_72, v22.1⟩ : ApiMeasure)]).map eApiMeasure) [100, 1004] ap22 rfl rfl rfl rfl (fun _ e => by cases e; rfl) (by exact trivial) (map_cells (f := eApiMeasure) (xs := [(⟨(IntKind.i64.wrap ((3 : Int) + (IntKind.i64.wrap ((2 : Int) * i)))), (IntKind.i64.wrap ((1 : Int) + v18.1)), v20.1, c7_37, c7_42, v21.1, (IntKind.i64.wrap ((IntKind.i64.wrap (v21.1 + (1 : Int))) + v23.1)), c7_72, v22.1⟩ : ApiMeasure)]) fun _ => rfl) (by have := g1; simp only [List.length_map, List.length_nil, List.length_cons] at this ⊢; omega) rfl rfl (by simp only [List.map_append]; try rfl) rfl ?_
        refine lr 1 rfl trivial ?_
        refine WL.nil (WQ.blockNormal ?_)
        exact WQ.cut [(1004, 100)] ((out19 ++ [(⟨(IntKind.i64.wrap ((3 : Int) + (IntKind.i64.wrap ((2 : Int) * i)))), (IntKind.i64.wrap ((1 : Int) + v18.1)), v20.1, c7_37, c7_42, v21.1, (IntKind.i64.wrap ((IntKind.i64.wrap (v21.1 + (1 : Int))) + v23.1)), c7_72, v22.1⟩ : ApiMeasure)]), v26.2.L, v26.2.I) ⟨(by exact ⟨rfl, rfl, rfl, rfl, trivial⟩), (by exact ⟨rfl, rfl, trivial⟩), rfl, rfl, rfl, rfl⟩ h
    ·rintro ⟨out16, c13_07, c13_17⟩ h
     replace h : madeMeasures_j3 v3 i out16 c13_07 c13_17 = some _ := h
     unfold madeMeasures_j3 at h
     show WC _ _ _ ⟨[(4, .r 1004), (6, .v (.int .i64 v3.1)), (5, .v (.int .i64 i)), (3, .p 13 0)], [(1004, .row 34 15 (out16.map eApiMeasure)), (13, .blk 63 [.v (.sl 1 (c13_07.map eInt_i64)), .v (.int .i64 c13_17)])]⟩ _ _
     refine WC.region ?_
     refine lr 3 rfl trivial ?_
     refine WL.nil ?_
     cases h
     exact WQ.next [] ((IntKind.i64.wrap (i + (1 : Int))), out16, c13_07, c13_17) ⟨(by exact ⟨rfl, rfl, rfl, rfl, trivial⟩), (by exact ⟨rfl, rfl, trivial⟩), rfl, rfl, rfl, rfl⟩ (hn1 _ hf1)
   ·replace h := ite_f hc1 h
    refine WC.exit (WQ.thenExit ?_)
    cases h
    have he := he1 _ hf1
    subst he
    replace h := hk1
    try dsimp only at h
    refine WQ.thenExit (WQ.blockExit ?_)
    exact WQ.cut [] out3 ⟨(by exact ⟨rfl, trivial⟩), (by exact ⟨rfl, trivial⟩), rfl, rfl, rfl, rfl⟩ h
  ·intro out2 h
   replace h : madeMeasures_j2 out2 = some _ := h
   unfold madeMeasures_j2 at h
   show WC _ _ _ ⟨[(4, .r 1004)], [(1004, .row 34 15 (out2.map eApiMeasure))]⟩ _ _
   refine WC.seq (WC.region ?_)
   refine lr 2 rfl trivial ?_
   refine WL.nil (WQ.thenNormal (WC.ret ?_))
   refine WQ.publish 1004 rfl rfl ?_
   cases h
   exact WQ.rets tbOk hR [] (.inl rfl) rfl rfl (Le.refl _) (by exact trivial) rfl rfl rfl rfl

theorem madeMeasuresR_con {wg : World} (hw : WG wg) {l : (List Int)} {r : (List ApiMeasure)} (h : madeMeasuresR l = some r) : Con Tryz.prog wg gl 14 [.v (.sl 1 (l.map eInt_i64))] [] (.r 500) [(500, .row 34 15 (r.map eApiMeasure))] := by
 unfold madeMeasuresR at h
 refine con_of_WC (S := slotsOf 0 _) Tryz.func14 rfl Tryz.ntmps14 rfl (fun t x hx => (slotsOf_get hx).2) ?_
 intro F L w ρ0 R hR
 show WC _ _ _ ⟨[(0, .v (.sl 1 (l.map eInt_i64)))], []⟩ _ _
 refine WC.seq (WC.region ?_)
 refine lr 1 rfl trivial ?_
 refine WL.nil (WQ.thenNormal (WC.seq (WC.region ?_)))
 refine lr 1 rfl trivial ?_
 replace h := bnd h; obtain ⟨v, hvv, h⟩ := h
 refine WL.call0 fn35 rfl rfl rfl rfl (by exact trivial) rfl (madeCut_con hw hvv) ?_
 refine lr 3 rfl trivial ?_
 refine WL.nil (WQ.thenNormal (WC.seq (WC.region ?_)))
 refine lr 1 rfl trivial ?_
 refine WL.nil (WQ.thenNormal (WC.seq (WC.seq (WC.region ?_))))
 refine lr 1 rfl trivial ?_
 replace h := bnd h; obtain ⟨v2, hvv2, h⟩ := h
 refine WL.callO [(0, 13)] [(0, 13)] [13] fn36 rfl rfl rfl rfl (by exact trivial) (srcNext_con hw hvv2) rfl rfl (by exact ⟨rfl, trivial⟩) rfl rfl rfl rfl rfl rfl ?_
 refine lr 1 rfl trivial ?_
 refine WL.nil (WQ.thenNormal ?_)
 refine WC.thenCut (X := (List ApiMeasure) × (List Int) × Int) (fun gG => ⟨[(4, .r 1004), (3, .p 13 0)], [(1004, .row 34 15 (gG.1.map eApiMeasure)), (13, .blk 63 [.v (.sl 1 (gG.2.1.map eInt_i64)), .v (.int .i64 gG.2.2)])]⟩) (fun gG => madeMeasuresR_j1 gG.1 gG.2.1 gG.2.2 = some r) ?_ ?_
 ·refine WC.cond rfl (fun hc6 => ?_) (fun hc6 => ?_)
  ·replace h := ite_t hc6 h
   refine WC.region ?_
   refine lr 2 rfl trivial ?_
   replace h := bnd h; obtain ⟨v32, hvv32, h⟩ := h
   refine WL.callO [(0, 13)] [(0, 13)] [13] fn37 rfl rfl rfl rfl (by exact trivial) (srcDuty_con hw hvv32) rfl rfl (by exact ⟨rfl, trivial⟩) rfl rfl rfl rfl rfl rfl ?_
   refine lr 2 rfl trivial ?_
   replace h := bnd h; obtain ⟨v33, hvv33, h⟩ := h
   refine WL.callO [(0, 13)] [(0, 13)] [13] fn37 rfl rfl rfl rfl (by exact trivial) (srcDuty_con hw hvv33) rfl rfl (by exact ⟨rfl, trivial⟩) rfl rfl rfl rfl rfl rfl ?_
   refine lr 1 rfl trivial ?_
   refine WL.mkLe tbOk (.v (.sl 15 ([(⟨(1 : Int), (1 : Int), ([57, 52] : Str), [], 0, 0, (36525 : Int), (-1 : Int), v32.1⟩ : ApiMeasure), (⟨(2 : Int), (1 : Int), ([57, 53] : Str), [], 0, 0, (25 : Int), (-1 : Int), v33.1⟩ : ApiMeasure)].map eApiMeasure))) rfl (by exact trivial) (Le.sl (.cons (.same (.same (.same (.sl 1 (.same (.same (.same (.same (.same (.same (.same (.same (.same (.same (.same .nil))))))))))))))) (.cons (.same (.same (.same (.sl 1 (.same (.same (.same (.same (.same (.same (.same (.same (.same (.same (.same .nil))))))))))))))) .nil))) ?_
   obtain ⟨g5, h⟩ := grd h
   refine WL.append tbOk ([(⟨(1 : Int), (1 : Int), ([57, 52] : Str), [], 0, 0, (36525 : Int), (-1 : Int), v32.1⟩ : ApiMeasure), (⟨(2 : Int), (1 : Int), ([57, 53] : Str), [], 0, 0, (25 : Int), (-1 : Int), v33.1⟩ : ApiMeasure)].map eApiMeasure) [25] ap22 rfl rfl rfl rfl (fun _ e => by cases e) (by exact trivial) (map_cells (f := eApiMeasure) (xs := [(⟨(1 : Int), (1 : Int), ([57, 52] : Str), [], 0, 0, (36525 : Int), (-1 : Int), v32.1⟩ : ApiMeasure), (⟨(2 : Int), (1 : Int), ([57, 53] : Str), [], 0, 0, (25 : Int), (-1 : Int), v33.1⟩ : ApiMeasure)]) fun _ => rfl) (by have := g5; simp only [List.length_map, List.length_nil, List.length_cons] at this ⊢; omega) rfl rfl rfl rfl ?_
   refine lr 1 rfl trivial ?_
   refine WL.nil ?_
   exact WQ.cut [(1004, 25)] ([(⟨(1 : Int), (1 : Int), ([57, 52] : Str), [], 0, 0, (36525 : Int), (-1 : Int), v32.1⟩ : ApiMeasure), (⟨(2 : Int), (1 : Int), ([57, 53] : Str), [], 0, 0, (25 : Int), (-1 : Int), v33.1⟩ : ApiMeasure)], v33.2.L, v33.2.I) ⟨(by exact ⟨rfl, rfl, trivial⟩), (by exact ⟨rfl, rfl, trivial⟩), rfl, rfl, rfl, rfl⟩ h
  ·replace h := ite_f hc6 h
   refine WC.skip ?_
   refine WQ.rowNil 4 1004 34 15 rfl rfl ?_
   exact WQ.cut [] ([], v2.2.L, v2.2.I) ⟨(by exact ⟨rfl, rfl, trivial⟩), (by exact ⟨rfl, rfl, trivial⟩), rfl, rfl, rfl, rfl⟩ h
 ·rintro ⟨out, c13_0, c13_1⟩ h
  replace h : madeMeasuresR_j1 out c13_0 c13_1 = some _ := h
  unfold madeMeasuresR_j1 at h
  show WC _ _ _ ⟨[(4, .r 1004), (3, .p 13 0)], [(1004, .row 34 15 (out.map eApiMeasure)), (13, .blk 63 [.v (.sl 1 (c13_0.map eInt_i64)), .v (.int .i64 c13_1)])]⟩ _ _
  refine WC.seq (WC.seq (WC.region ?_))
  refine lr 1 rfl trivial ?_
  replace h := bnd h; obtain ⟨v3, hvv3, h⟩ := h
  refine WL.callO [(0, 13)] [(0, 13)] [13] fn36 rfl rfl rfl rfl (by exact trivial) (srcNext_con hw hvv3) rfl rfl (by exact ⟨rfl, trivial⟩) rfl rfl rfl rfl rfl rfl ?_
  refine lr 2 rfl trivial ?_
  refine WL.nil (WQ.thenNormal ?_)
  refine WC.thenCut (X := (List ApiMeasure)) (fun gG => ⟨[(4, .r 1004)], [(1004, .row 34 15 (gG.map eApiMeasure))]⟩) (fun gG => madeMeasuresR_j2 gG = some r) ?_ ?_
  ·refine WC.block ?_
   obtain ⟨eQ1, hl1, hk1⟩ := bnd h
   clear h
   refine WC.loop (σ := Int × (List ApiMeasure) × (List Int) × Int) (τ := ((List ApiMeasure))) (fun sS => ⟨[(6, .v (.int .i64 v3.1)), (5, .v (.int .i64 sS.1)), (4, .r 1004), (3, .p 13 0)], [(1004, .row 34 15 (sS.2.1.map eApiMeasure)), (13, .blk 63 [.v (.sl 1 (sS.2.2.1.map eInt_i64)), .v (.int .i64 sS.2.2.2)])]⟩) (madeMeasuresR_b1 v3) [] ((0 : Int), out, v3.2.L, v3.2.I) hl1 ⟨(by exact ⟨rfl, rfl, rfl, rfl, trivial⟩), (by exact ⟨rfl, rfl, trivial⟩), rfl, rfl, rfl, rfl⟩ ?_
   rintro ⟨i, out3, c13_02, c13_12⟩ m hn1 he1 hx1
   obtain ⟨o1, hf1⟩ := some_of hx1
   have h := hf1
   unfold madeMeasuresR_b1 at h
   show WC _ _ _ ⟨[(6, .v (.int .i64 v3.1)), (5, .v (.int .i64 i)), (4, .r 1004), (3, .p 13 0)], [(1004, .row 34 15 (out3.map eApiMeasure)), (13, .blk 63 [.v (.sl 1 (c13_02.map eInt_i64)), .v (.int .i64 c13_12)])]⟩ _ _
   refine WC.seq (WC.seq (WC.region ?_))
   refine lr 3 rfl trivial ?_
   refine WL.nil (WQ.thenNormal ?_)
   refine WC.cond rfl (fun hc1 => ?_) (fun hc1 => ?_)
   ·replace h := ite_t hc1 h
    refine WC.skip (WQ.thenNormal (WC.seq ?_))
    refine WC.thenCut (X := (List ApiMeasure) × (List Int) × Int) (fun gG => ⟨[(4, .r 1004), (6, .v (.int .i64 v3.1)), (5, .v (.int .i64 i)), (3, .p 13 0)], [(1004, .row 34 15 (gG.1.map eApiMeasure)), (13, .blk 63 [.v (.sl 1 (gG.2.1.map eInt_i64)), .v (.int .i64 gG.2.2)])]⟩) (fun gG => madeMeasuresR_j3 v3 i gG.1 gG.2.1 gG.2.2 = some o1) ?_ ?_
    ·refine WC.block (WC.seq (WC.region ?_))
     refine lr 4 rfl trivial ?_
     replace h := bnd h; obtain ⟨v18, hvv18, h⟩ := h
     refine WL.callO [(0, 13)] [(0, 13)] [13] fn36 rfl rfl rfl rfl (by exact trivial) (srcNext_con hw hvv18) rfl rfl (by exact ⟨rfl, trivial⟩) rfl rfl rfl rfl rfl rfl ?_
     refine lr 3 rfl trivial ?_
     replace h := bnd h; obtain ⟨v19, hvv19, h⟩ := h
     refine WL.callO [(0, 13)] [(0, 13)] [13] fn36 rfl rfl rfl rfl (by exact trivial) (srcNext_con hw hvv19) rfl rfl (by exact ⟨rfl, trivial⟩) rfl rfl rfl rfl rfl rfl ?_
     refine lr 2 rfl trivial ?_
     replace h := bnd h; obtain ⟨v20, hvv20, h⟩ := h
     refine WL.callO [(0, 13)] [(0, 13)] [13] fn38 rfl rfl rfl rfl (by exact trivial) (srcCode_con hw hvv20) rfl rfl (by exact ⟨rfl, trivial⟩) rfl rfl rfl rfl rfl rfl ?_
     refine lr 1 rfl trivial ?_
     replace h := bnd h; obtain ⟨v21, hvv21, h⟩ := h
     refine WL.callO [(0, 13)] [(0, 13)] [13] fn36 rfl rfl rfl rfl (by exact trivial) (srcNext_con hw hvv21) rfl rfl (by exact ⟨rfl, trivial⟩) rfl rfl rfl rfl rfl rfl ?_
     refine lr 1 rfl trivial ?_
     replace h := bnd h; obtain ⟨v22, hvv22, h⟩ := h
     refine WL.callO [(0, 13)] [(0, 13)] [13] fn37 rfl rfl rfl rfl (by exact trivial) (srcDuty_con hw hvv22) rfl rfl (by exact ⟨rfl, trivial⟩) rfl rfl rfl rfl rfl rfl ?_
     refine lr 3 rfl trivial ?_
     refine WL.nil (WQ.thenNormal (WC.seq (WC.order mixed ?_)))
     refine wr 4 rfl trivial ?_
     replace h := bnd h; obtain ⟨v23, hvv23, h⟩ := h
     refine WR.callO [(0, 13)] [(0, 13)] [13] fn36 rfl rfl rfl rfl (by exact trivial) (srcNext_con hw hvv23) rfl rfl (by exact ⟨rfl, trivial⟩) rfl rfl rfl rfl rfl rfl ?_
     refine wr 3 rfl trivial ?_
     refine WR.nil (by kernel_rfl) (WQ.thenNormal (WC.seq (WC.seq (WC.region ?_))))
     refine lr 1 rfl trivial ?_
     replace h := bnd h; obtain ⟨v24, hvv24, h⟩ := h
     refine WL.callO [(0, 13)] [(0, 13)] [13] fn36 rfl rfl rfl rfl (by exact trivial) (srcNext_con hw hvv24) rfl rfl (by exact ⟨rfl, trivial⟩) rfl rfl rfl rfl rfl rfl ?_
     refine lr 1 rfl trivial ?_
     refine WL.nil (WQ.thenNormal ?_)
     refine WC.thenCut (X := (List ApiMeasure) × (List Int) × Int × Int) (fun gG => ⟨[(7, .p 7 0), (6, .v (.int .i64 v3.1)), (5, .v (.int .i64 i)), (4, .r 1004), (3, .p 13 0)], [(1004, .row 34 15 (gG.1.map eApiMeasure)), (13, .blk 63 [.v (.sl 1 (gG.2.1.map eInt_i64)), .v (.int .i64 gG.2.2.1)]), (7, .blk 34 [.v (.int .i64 (IntKind.i64.wrap ((3 : Int) + (IntKind.i64.wrap ((2 : Int) * i))))), .v (.int .i64 (IntKind.i64.wrap ((1 : Int) + v18.1))), .v (.str v20.1), .v (.raw (.slice none 0 0)), .v (.int .i64 0), .v (.int .i64 v21.1), .v (.int .i64 (IntKind.i64.wrap ((IntKind.i64.wrap (v21.1 + (1 : Int))) + v23.1))), .v (.int .i64 gG.2.2.2), .v (.int .i64 v22.1.Rate), .v (.int .i64 v22.1.Amount), .v (.int .i64 v22.1.Per), .v (.bool v22.1.HasMost), .v (.int .i64 v22.1.Most), .v (.bool v22.1.HasLeast), .v (.int .i64 v22.1.Least)])]⟩) (fun gG => madeMeasuresR_j4 v3 i v18 v20 v21 v22 v23 gG.1 gG.2.1 gG.2.2.1 gG.2.2.2 = some o1) ?_ ?_
     ·refine WC.cond rfl (fun hc5 => ?_) (fun hc5 => ?_)
      ·replace h := ite_t hc5 h
       refine WC.region ?_
       refine lr 4 rfl trivial ?_
       replace h := bnd h; obtain ⟨v31, hvv31, h⟩ := h
       refine WL.callO [(0, 13)] [(0, 13)] [13] fn36 rfl rfl rfl rfl (by exact trivial) (srcNext_con hw hvv31) rfl rfl (by exact ⟨rfl, trivial⟩) rfl rfl rfl rfl rfl rfl ?_
       refine lr 2 rfl trivial ?_
       refine WL.nil ?_
       exact WQ.cut [] (out3, v31.2.L, v31.2.I, v31.1) ⟨(by exact ⟨rfl, rfl, rfl, rfl, rfl, trivial⟩), (by exact ⟨rfl, rfl, rfl, trivial⟩), rfl, rfl, rfl, rfl⟩ h
      ·replace h := ite_f hc5 h
       refine WC.skip ?_
       exact WQ.cut [] (out3, v24.2.L, v24.2.I, (-1 : Int)) ⟨(by exact ⟨rfl, rfl, rfl, rfl, rfl, trivial⟩), (by exact ⟨rfl, rfl, rfl, trivial⟩), rfl, rfl, rfl, rfl⟩ h
     ·rintro ⟨out17, c13_08, c13_18, c7_72⟩ h
      replace h : madeMeasuresR_j4 v3 i v18 v20 v21 v22 v23 out17 c13_08 c13_18 c7_72 = some _ := h
      unfold madeMeasuresR_j4 at h
      show WC _ _ _ ⟨[(7, .p 7 0), (6, .v (.int .i64 v3.1)), (5, .v (.int .i64 i)), (4, .r 1004), (3, .p 13 0)], [(1004, .row 34 15 (out17.map eApiMeasure)), (13, .blk 63 [.v (.sl 1 (c13_08.map eInt_i64)), .v (.int .i64 c13_18)]), (7, .blk 34 [.v (.int .i64 (IntKind.i64.wrap ((3 : Int) + (IntKind.i64.wrap ((2 : Int) * i))))), .v (.int .i64 (IntKind.i64.wrap ((1 : Int) + v18.1))), .v (.str v20.1), .v (.raw (.slice none 0 0)), .v (.int .i64 0), .v (.int .i64 v21.1), .v (.int .i64 (IntKind.i64.wrap ((IntKind.i64.wrap (v21.1 + (1 : Int))) + v23.1))), .v (.int .i64 c7_72), .v (.int .i64 v22.1.Rate), .v (.int .i64 v22.1.Amount), .v (.int .i64 v22.1.Per), .v (.bool v22.1.HasMost), .v (.int .i64 v22.1.Most), .v (.bool v22.1.HasLeast), .v (.int .i64 v22.1.Least)])]⟩ _ _
      refine WC.seq (WC.seq (WC.region ?_))
      refine lr 1 rfl trivial ?_
      replace h := bnd h; obtain ⟨v25, hvv25, h⟩ := h
      refine WL.callO [(0, 13)] [(0, 13)] [13] fn36 rfl rfl rfl rfl (by exact trivial) (srcNext_con hw hvv25) rfl rfl (by exact ⟨rfl, trivial⟩) rfl rfl rfl rfl rfl rfl ?_
      refine lr 1 rfl trivial ?_
      refine WL.nil (WQ.thenNormal ?_)
      refine WC.thenCut (X := (List ApiMeasure) × (List Int) × Int × Int) (fun gG => ⟨[(7, .p 7 0), (6, .v (.int .i64 v3.1)), (5, .v (.int .i64 i)), (4, .r 1004), (3, .p 13 0)], [(1004, .row 34 15 (gG.1.map eApiMeasure)), (13, .blk 63 [.v (.sl 1 (gG.2.1.map eInt_i64)), .v (.int .i64 gG.2.2.1)]), (7, .blk 34 [.v (.int .i64 (IntKind.i64.wrap ((3 : Int) + (IntKind.i64.wrap ((2 : Int) * i))))), .v (.int .i64 (IntKind.i64.wrap ((1 : Int) + v18.1))), .v (.str v20.1), .v (.raw (.slice none 0 0)), .v (.int .i64 gG.2.2.2), .v (.int .i64 v21.1), .v (.int .i64 (IntKind.i64.wrap ((IntKind.i64.wrap (v21.1 + (1 : Int))) + v23.1))), .v (.int .i64 c7_72), .v (.int .i64 v22.1.Rate), .v (.int .i64 v22.1.Amount), .v (.int .i64 v22.1.Per), .v (.bool v22.1.HasMost), .v (.int .i64 v22.1.Most), .v (.bool v22.1.HasLeast), .v (.int .i64 v22.1.Least)])]⟩) (fun gG => madeMeasuresR_j5 v3 i v18 v20 v21 v22 v23 c7_72 gG.1 gG.2.1 gG.2.2.1 gG.2.2.2 = some o1) ?_ ?_
      ·refine WC.cond rfl (fun hc4 => ?_) (fun hc4 => ?_)
       ·replace h := ite_t hc4 h
        refine WC.region ?_
        refine lr 1 rfl trivial ?_
        replace h := bnd h; obtain ⟨v30, hvv30, h⟩ := h
        refine WL.callO [(0, 13)] [(0, 13)] [13] fn36 rfl rfl rfl rfl (by exact trivial) (srcNext_con hw hvv30) rfl rfl (by exact ⟨rfl, trivial⟩) rfl rfl rfl rfl rfl rfl ?_
        refine lr 3 rfl trivial ?_
        refine WL.nil ?_
        exact WQ.cut [] (out17, v30.2.L, v30.2.I, (IntKind.i64.wrap ((1 : Int) + v30.1))) ⟨(by exact ⟨rfl, rfl, rfl, rfl, rfl, trivial⟩), (by exact ⟨rfl, rfl, rfl, trivial⟩), rfl, rfl, rfl, rfl⟩ h
       ·replace h := ite_f hc4 h
        refine WC.skip ?_
        exact WQ.cut [] (out17, v25.2.L, v25.2.I, 0) ⟨(by exact ⟨rfl, rfl, rfl, rfl, rfl, trivial⟩), (by exact ⟨rfl, rfl, rfl, trivial⟩), rfl, rfl, rfl, rfl⟩ h
      ·rintro ⟨out18, c13_09, c13_19, c7_42⟩ h
       replace h : madeMeasuresR_j5 v3 i v18 v20 v21 v22 v23 c7_72 out18 c13_09 c13_19 c7_42 = some _ := h
       unfold madeMeasuresR_j5 at h
       show WC _ _ _ ⟨[(7, .p 7 0), (6, .v (.int .i64 v3.1)), (5, .v (.int .i64 i)), (4, .r 1004), (3, .p 13 0)], [(1004, .row 34 15 (out18.map eApiMeasure)), (13, .blk 63 [.v (.sl 1 (c13_09.map eInt_i64)), .v (.int .i64 c13_19)]), (7, .blk 34 [.v (.int .i64 (IntKind.i64.wrap ((3 : Int) + (IntKind.i64.wrap ((2 : Int) * i))))), .v (.int .i64 (IntKind.i64.wrap ((1 : Int) + v18.1))), .v (.str v20.1), .v (.raw (.slice none 0 0)), .v (.int .i64 c7_42), .v (.int .i64 v21.1), .v (.int .i64 (IntKind.i64.wrap ((IntKind.i64.wrap (v21.1 + (1 : Int))) + v23.1))), .v (.int .i64 c7_72), .v (.int .i64 v22.1.Rate), .v (.int .i64 v22.1.Amount), .v (.int .i64 v22.1.Per), .v (.bool v22.1.HasMost), .v (.int .i64 v22.1.Most), .v (.bool v22.1.HasLeast), .v (.int .i64 v22.1.Least)])]⟩ _ _
       refine WC.seq (WC.region ?_)
       refine lr 1 rfl trivial ?_
       replace h := bnd h; obtain ⟨v26, hvv26, h⟩ := h
       refine WL.callO [(0, 13)] [(0, 13)] [13] fn36 rfl rfl rfl rfl (by exact trivial) (srcNext_con hw hvv26) rfl rfl (by exact ⟨rfl, trivial⟩) rfl rfl rfl rfl rfl rfl ?_
       refine lr 1 rfl trivial ?_
       refine WL.nil (WQ.thenNormal (WC.seq (WC.seq (WC.region ?_))))
       refine lr 1 rfl trivial ?_
       refine WL.nil (WQ.thenNormal ?_)
       refine WC.thenCut (X := (List ApiMeasure) × (List Str)) (fun gG => ⟨[(7, .p 7 0), (6, .v (.int .i64 v3.1)), (5, .v (.int .i64 i)), (4, .r 1004), (3, .p 13 0)], [(1004, .row 34 15 (gG.1.map eApiMeasure)), (13, .blk 63 [.v (.sl 1 (v26.2.L.map eInt_i64)), .v (.int .i64 v26.2.I)]), (2353, .row 9 1 (gG.2.map eStr)), (7, .blk 34 [.v (.int .i64 (IntKind.i64.wrap ((3 : Int) + (IntKind.i64.wrap ((2 : Int) * i))))), .v (.int .i64 (IntKind.i64.wrap ((1 : Int) + v18.1))), .v (.str v20.1), .r 2353, .v (.int .i64 c7_42), .v (.int .i64 v21.1), .v (.int .i64 (IntKind.i64.wrap ((IntKind.i64.wrap (v21.1 + (1 : Int))) + v23.1))), .v (.int .i64 c7_72), .v (.int .i64 v22.1.Rate), .v (.int .i64 v22.1.Amount), .v (.int .i64 v22.1.Per), .v (.bool v22.1.HasMost), .v (.int .i64 v22.1.Most), .v (.bool v22.1.HasLeast), .v (.int .i64 v22.1.Least)])]⟩) (fun gG => madeMeasuresR_j6 v3 i v18 v20 v21 v22 v23 c7_72 c7_42 v26 gG.1 gG.2 = some o1) ?_ ?_
       ·refine WC.block ?_
        obtain ⟨eQ2, hl2, hk2⟩ := bnd h
        clear h
        refine WC.rowNilB 7 3 2353 9 1 rfl rfl rfl (cs2 := [.v (.int .i64 (IntKind.i64.wrap ((3 : Int) + (IntKind.i64.wrap ((2 : Int) * i))))), .v (.int .i64 (IntKind.i64.wrap ((1 : Int) + v18.1))), .v (.str v20.1), .r 2353, .v (.int .i64 c7_42), .v (.int .i64 v21.1), .v (.int .i64 (IntKind.i64.wrap ((IntKind.i64.wrap (v21.1 + (1 : Int))) + v23.1))), .v (.int .i64 c7_72), .v (.int .i64 v22.1.Rate), .v (.int .i64 v22.1.Amount), .v (.int .i64 v22.1.Per), .v (.bool v22.1.HasMost), .v (.int .i64 v22.1.Most), .v (.bool v22.1.HasLeast), .v (.int .i64 v22.1.Least)]) rfl ?_
        refine WC.loop (σ := Int × (List ApiMeasure) × (List Str)) (τ := ((List ApiMeasure) × (List Str))) (fun sS => ⟨[(9, .v (.int .i64 sS.1)), (8, .v (.int .i64 v26.1)), (7, .p 7 0), (6, .v (.int .i64 v3.1)), (5, .v (.int .i64 i)), (4, .r 1004), (3, .p 13 0)], [(1004, .row 34 15 (sS.2.1.map eApiMeasure)), (13, .blk 63 [.v (.sl 1 (v26.2.L.map eInt_i64)), .v (.int .i64 v26.2.I)]), (2353, .row 9 1 (sS.2.2.map eStr)), (7, .blk 34 [.v (.int .i64 (IntKind.i64.wrap ((3 : Int) + (IntKind.i64.wrap ((2 : Int) * i))))), .v (.int .i64 (IntKind.i64.wrap ((1 : Int) + v18.1))), .v (.str v20.1), .r 2353, .v (.int .i64 c7_42), .v (.int .i64 v21.1), .v (.int .i64 (IntKind.i64.wrap ((IntKind.i64.wrap (v21.1 + (1 : Int))) + v23.1))), .v (.int .i64 c7_72), .v (.int .i64 v22.1.Rate), .v (.int .i64 v22.1.Amount), .v (.int .i64 v22.1.Per), .v (.bool v22.1.HasMost), .v (.int .i64 v22.1.Most), .v (.bool v22.1.HasLeast), .v (.int .i64 v22.1.Least)])]⟩) (madeMeasuresR_b2 v3 i v18 v20 v21 v22 v23 c7_72 c7_42 v26) [] ((0 : Int), out18, []) hl2 ⟨(by exact ⟨rfl, rfl, rfl, rfl, rfl, rfl, rfl, trivial⟩), (by exact ⟨rfl, rfl, rfl, rfl, trivial⟩), rfl, rfl, rfl, rfl⟩ ?_
        rintro ⟨k4, out22, c7_39⟩ m hn2 he2 hx2
        obtain ⟨o2, hf2⟩ := some_of hx2
        have h := hf2
        unfold madeMeasuresR_b2 at h
        show WC _ _ _ ⟨[(9, .v (.int .i64 k4)), (8, .v (.int .i64 v26.1)), (7, .p 7 0), (6, .v (.int .i64 v3.1)), (5, .v (.int .i64 i)), (4, .r 1004), (3, .p 13 0)], [(1004, .row 34 15 (out22.map eApiMeasure)), (13, .blk 63 [.v (.sl 1 (v26.2.L.map eInt_i64)), .v (.int .i64 v26.2.I)]), (2353, .row 9 1 (c7_39.map eStr)), (7, .blk 34 [.v (.int .i64 (IntKind.i64.wrap ((3 : Int) + (IntKind.i64.wrap ((2 : Int) * i))))), .v (.int .i64 (IntKind.i64.wrap ((1 : Int) + v18.1))), .v (.str v20.1), .r 2353, .v (.int .i64 c7_42), .v (.int .i64 v21.1), .v (.int .i64 (IntKind.i64.wrap ((IntKind.i64.wrap (v21.1 + (1 : Int))) + v23.1))), .v (.int .i64 c7_72), .v (.int .i64 v22.1.Rate), .v (.int .i64 v22.1.Amount), .v (.int .i64 v22.1.Per), .v (.bool v22.1.HasMost), .v (.int .i64 v22.1.Most), .v (.bool v22.1.HasLeast), .v (.int .i64 v22.1.Least)])]⟩ _ _
        refine WC.seq (WC.seq (WC.region ?_))
        refine lr 6 rfl (by exact sideR) ?_
        refine WL.nil (WQ.thenNormal ?_)
        refine WC.cond rfl (fun hc2 => ?_) (fun hc2 => ?_)
        ·replace h := ite_t hc2 h
         refine WC.skip (WQ.thenNormal (WC.seq ?_))
         refine WC.thenCut (X := (List ApiMeasure) × (List Str)) (fun gG => ⟨[(9, .v (.int .i64 k4)), (8, .v (.int .i64 v26.1)), (7, .p 7 0), (6, .v (.int .i64 v3.1)), (5, .v (.int .i64 i)), (4, .r 1004), (3, .p 13 0)], [(1004, .row 34 15 (gG.1.map eApiMeasure)), (13, .blk 63 [.v (.sl 1 (v26.2.L.map eInt_i64)), .v (.int .i64 v26.2.I)]), (2353, .row 9 1 (gG.2.map eStr)), (7, .blk 34 [.v (.int .i64 (IntKind.i64.wrap ((3 : Int) + (IntKind.i64.wrap ((2 : Int) * i))))), .v (.int .i64 (IntKind.i64.wrap ((1 : Int) + v18.1))), .v (.str v20.1), .r 2353, .v (.int .i64 c7_42), .v (.int .i64 v21.1), .v (.int .i64 (IntKind.i64.wrap ((IntKind.i64.wrap (v21.1 + (1 : Int))) + v23.1))), .v (.int .i64 c7_72), .v (.int .i64 v22.1.Rate), .v (.int .i64 v22.1.Amount), .v (.int .i64 v22.1.Per), .v (.bool v22.1.HasMost), .v (.int .i64 v22.1.Most), .v (.bool v22.1.HasLeast), .v (.int .i64 v22.1.Least)])]⟩) (fun gG => madeMeasuresR_j7 v3 i v18 v20 v21 v22 v23 c7_72 c7_42 v26 k4 gG.1 gG.2 = some o2) ?_ ?_
         ·refine WC.block (WC.seq (WC.region ?_))
          obtain ⟨g2, h⟩ := grd h
          refine lr 5 rfl (by repeat' (first | exact trivial | assumption | intro _ | exact g2 (by assumption) | apply And.intro | exact sideT | (refine and_i ?_ ?_))) ?_
          refine WL.nil (WQ.thenNormal ?_)
          refine WC.cond rfl (fun hc3 => ?_) (fun hc3 => ?_)
          ·replace h := ite_t hc3 h
           refine WC.order mixed ?_
           refine wr 2 rfl trivial ?_
           replace h := bnd h; obtain ⟨v29, hvv29, h⟩ := h
           refine WR.call0 fn39 rfl rfl rfl rfl (by exact trivial) rfl (countries_con hw hvv29) ?_
           refine wr 1 rfl trivial ?_
           obtain ⟨g3, h⟩ := grd h
           replace h := bnd h; obtain ⟨x6, hxx6, h⟩ := h
           refine WR.q [] rfl rfl rfl (q_idx tbOk rfl (by exact trivial) g3 (map_get (f := eStr) hxx6)) ?_
           refine wr 2 rfl trivial ?_
           obtain ⟨g4, h⟩ := grd h
           refine WR.append tbOk ((c7_39 ++ [x6]).map eStr) [95, 2353] ap30 rfl rfl rfl rfl (fun _ e => by cases e; rfl) (by exact trivial) (map_cells (f := eStr) (xs := [x6]) fun _ => rfl) (by have := g4; simp only [List.length_map, List.length_nil, List.length_cons] at this ⊢; omega) rfl rfl (by simp only [List.map_append]; try rfl) rfl rfl ?_
           refine wr 2 rfl trivial ?_
           refine WR.nil (by kernel_rfl) (WQ.blockNormal ?_)
           exact WQ.cut [(2353, 95)] (out22, (c7_39 ++ [x6])) ⟨(by exact ⟨rfl, rfl, rfl, rfl, rfl, rfl, rfl, trivial⟩), (by exact ⟨rfl, rfl, rfl, rfl, trivial⟩), rfl, rfl, rfl, rfl⟩ h
          ·replace h := ite_f hc3 h
           refine WC.skip (WQ.blockNormal ?_)
           exact WQ.cut [] (out22, c7_39) ⟨(by exact ⟨rfl, rfl, rfl, rfl, rfl, rfl, rfl, trivial⟩), (by exact ⟨rfl, rfl, rfl, rfl, trivial⟩), rfl, rfl, rfl, rfl⟩ h
         ·rintro ⟨out25, c7_312⟩ h
          replace h : madeMeasuresR_j7 v3 i v18 v20 v21 v22 v23 c7_72 c7_42 v26 k4 out25 c7_312 = some _ := h
          unfold madeMeasuresR_j7 at h
          show WC _ _ _ ⟨[(9, .v (.int .i64 k4)), (8, .v (.int .i64 v26.1)), (7, .p 7 0), (6, .v (.int .i64 v3.1)), (5, .v (.int .i64 i)), (4, .r 1004), (3, .p 13 0)], [(1004, .row 34 15 (out25.map eApiMeasure)), (13, .blk 63 [.v (.sl 1 (v26.2.L.map eInt_i64)), .v (.int .i64 v26.2.I)]), (2353, .row 9 1 (c7_312.map eStr)), (7, .blk 34 [.v (.int .i64 (IntKind.i64.wrap ((3 : Int) + (IntKind.i64.wrap ((2 : Int) * i))))), .v (.int .i64 (IntKind.i64.wrap ((1 : Int) + v18.1))), .v (.str v20.1), .r 2353, .v (.int .i64 c7_42), .v (.int .i64 v21.1), .v (.int .i64 (IntKind.i64.wrap ((IntKind.i64.wrap (v21.1 + (1 : Int))) + v23.1))), .v (.int .i64 c7_72), .v (.int .i64 v22.1.Rate), .v (.int .i64 v22.1.Amount), .v (.int .i64 v22.1.Per), .v (.bool v22.1.HasMost), .v (.int .i64 v22.1.Most), .v (.bool v22.1.HasLeast), .v (.int .i64 v22.1.Least)])]⟩ _ _
          refine WC.region ?_
          refine lr 3 rfl trivial ?_
          refine WL.nil ?_
          cases h
          exact WQ.next [] ((IntKind.i64.wrap (k4 + (1 : Int))), out25, c7_312) ⟨(by exact ⟨rfl, rfl, rfl, rfl, rfl, rfl, rfl, trivial⟩), (by exact ⟨rfl, rfl, rfl, rfl, trivial⟩), rfl, rfl, rfl, rfl⟩ (hn2 _ hf2)
        ·replace h := ite_f hc2 h
         refine WC.exit (WQ.thenExit ?_)
         cases h
         have he := he2 _ hf2
         subst he
         replace h := hk2
         try dsimp only at h
         refine WQ.thenExit (WQ.blockExit ?_)
         exact WQ.cut [] (out22, c7_39) ⟨(by exact ⟨rfl, rfl, rfl, rfl, rfl, trivial⟩), (by exact ⟨rfl, rfl, rfl, rfl, trivial⟩), rfl, rfl, rfl, rfl⟩ h
       ·rintro ⟨out19, c7_37⟩ h
        replace h : madeMeasuresR_j6 v3 i v18 v20 v21 v22 v23 c7_72 c7_42 v26 out19 c7_37 = some _ := h
        unfold madeMeasuresR_j6 at h
        show WC _ _ _ ⟨[(7, .p 7 0), (6, .v (.int .i64 v3.1)), (5, .v (.int .i64 i)), (4, .r 1004), (3, .p 13 0)], [(1004, .row 34 15 (out19.map eApiMeasure)), (13, .blk 63 [.v (.sl 1 (v26.2.L.map eInt_i64)), .v (.int .i64 v26.2.I)]), (2353, .row 9 1 (c7_37.map eStr)), (7, .blk 34 [.v (.int .i64 (IntKind.i64.wrap ((3 : Int) + (IntKind.i64.wrap ((2 : Int) * i))))), .v (.int .i64 (IntKind.i64.wrap ((1 : Int) + v18.1))), .v (.str v20.1), .r 2353, .v (.int .i64 c7_42), .v (.int .i64 v21.1), .v (.int .i64 (IntKind.i64.wrap ((IntKind.i64.wrap (v21.1 + (1 : Int))) + v23.1))), .v (.int .i64 c7_72), .v (.int .i64 v22.1.Rate), .v (.int .i64 v22.1.Amount), .v (.int .i64 v22.1.Per), .v (.bool v22.1.HasMost), .v (.int .i64 v22.1.Most), .v (.bool v22.1.HasLeast), .v (.int .i64 v22.1.Least)])]⟩ _ _
        refine WC.publish 2353 rfl rfl ?_
        refine WC.region ?_
        refine lr 3 rfl trivial ?_
        obtain ⟨g1, h⟩ := grd h
        refine WL.append tbOk ((out19 ++ [(⟨(IntKind.i64.wrap ((3 : Int) + (IntKind.i64.wrap ((2 : Int) * i)))), (IntKind.i64.wrap ((1 : Int) + v18.1)), v20.1, c7_37, c7_42, v21.1, (IntKind.i64.wrap ((IntKind.i64.wrap (v21.1 + (1 : Int))) + v23.1)), c7_72, v22.1⟩ : ApiMeasure)]).map eApiMeasure) [100, 1004] ap22 rfl rfl rfl rfl (fun _ e => by cases e; rfl) (by exact trivial) (map_cells (f := eApiMeasure) (xs := [(⟨(IntKind.i64.wrap ((3 : Int) + (IntKind.i64.wrap ((2 : Int) * i)))), (IntKind.i64.wrap ((1 : Int) + v18.1)), v20.1, c7_37, c7_42, v21.1, (IntKind.i64.wrap ((IntKind.i64.wrap (v21.1 + (1 : Int))) + v23.1)), c7_72, v22.1⟩ : ApiMeasure)]) fun _ => rfl) (by have := g1; simp only [List.length_map, List.length_nil, List.length_cons] at this ⊢; omega) rfl rfl (by simp only [List.map_append]; try rfl) rfl ?_
        refine lr 1 rfl trivial ?_
        refine WL.nil (WQ.blockNormal ?_)
        exact WQ.cut [(1004, 100)] ((out19 ++ [(⟨(IntKind.i64.wrap ((3 : Int) + (IntKind.i64.wrap ((2 : Int) * i)))), (IntKind.i64.wrap ((1 : Int) + v18.1)), v20.1, c7_37, c7_42, v21.1, (IntKind.i64.wrap ((IntKind.i64.wrap (v21.1 + (1 : Int))) + v23.1)), c7_72, v22.1⟩ : ApiMeasure)]), v26.2.L, v26.2.I) ⟨(by exact ⟨rfl, rfl, rfl, rfl, trivial⟩), (by exact ⟨rfl, rfl, trivial⟩), rfl, rfl, rfl, rfl⟩ h
    ·rintro ⟨out16, c13_07, c13_17⟩ h
     replace h : madeMeasuresR_j3 v3 i out16 c13_07 c13_17 = some _ := h
     unfold madeMeasuresR_j3 at h
     show WC _ _ _ ⟨[(4, .r 1004), (6, .v (.int .i64 v3.1)), (5, .v (.int .i64 i)), (3, .p 13 0)], [(1004, .row 34 15 (out16.map eApiMeasure)), (13, .blk 63 [.v (.sl 1 (c13_07.map eInt_i64)), .v (.int .i64 c13_17)])]⟩ _ _
     refine WC.region ?_
     refine lr 3 rfl trivial ?_
     refine WL.nil ?_
     cases h
     exact WQ.next [] ((IntKind.i64.wrap (i + (1 : Int))), out16, c13_07, c13_17) ⟨(by exact ⟨rfl, rfl, rfl, rfl, trivial⟩), (by exact ⟨rfl, rfl, trivial⟩), rfl, rfl, rfl, rfl⟩ (hn1 _ hf1)
   ·replace h := ite_f hc1 h
    refine WC.exit (WQ.thenExit ?_)
    cases h
    have he := he1 _ hf1
    subst he
    replace h := hk1
    try dsimp only at h
    refine WQ.thenExit (WQ.blockExit ?_)
    exact WQ.cut [] out3 ⟨(by exact ⟨rfl, trivial⟩), (by exact ⟨rfl, trivial⟩), rfl, rfl, rfl, rfl⟩ h
  ·intro out2 h
   replace h : madeMeasuresR_j2 out2 = some _ := h
   unfold madeMeasuresR_j2 at h
   show WC _ _ _ ⟨[(4, .r 1004)], [(1004, .row 34 15 (out2.map eApiMeasure))]⟩ _ _
   refine WC.seq (WC.region ?_)
   refine lr 2 rfl trivial ?_
   refine WL.nil (WQ.thenNormal (WC.ret ?_))
   cases h
   exact WQ.rets tbOk hR [(500, 1004)] (.inl rfl) rfl rfl (Le.refl _) (by exact ⟨rfl, trivial⟩) rfl rfl rfl rfl

theorem madeItem_con {wg : World} (hw : WG wg) {l : (List Int)} {r : ApiItem} (h : madeItem l = some r) : Con Tryz.prog wg gl 23 [.v (.sl 1 (l.map eInt_i64))] [] (.v (.agg [.str r.Code, .str r.Origin, .bool r.Proof, .int .i64 r.Company, .int .i64 r.Day, .int .i64 r.Quantity, .int .i64 r.Value, .int .i64 r.Granted])) [] := by
 unfold madeItem at h
 refine con_of_WC (S := slotsOf 0 _) Tryz.func23 rfl Tryz.ntmps23 rfl (fun t x hx => (slotsOf_get hx).2) ?_
 intro F L w ρ0 R hR
 show WC _ _ _ ⟨[(0, .v (.sl 1 (l.map eInt_i64)))], []⟩ _ _
 refine WC.seq (WC.region ?_)
 refine lr 1 rfl trivial ?_
 refine WL.nil (WQ.thenNormal (WC.seq (WC.region ?_)))
 refine lr 1 rfl trivial ?_
 replace h := bnd h; obtain ⟨v, hvv, h⟩ := h
 refine WL.call0 fn35 rfl rfl rfl rfl (by exact trivial) rfl (madeCut_con hw hvv) ?_
 refine lr 3 rfl trivial ?_
 refine WL.nil (WQ.thenNormal (WC.seq (WC.order mixed ?_)))
 refine wr 1 rfl trivial ?_
 replace h := bnd h; obtain ⟨v2, hvv2, h⟩ := h
 refine WR.callO [(0, 8)] [(0, 8)] [8] fn38 rfl rfl rfl rfl (by exact trivial) (srcCode_con hw hvv2) rfl rfl (by exact ⟨rfl, trivial⟩) rfl rfl rfl rfl rfl rfl ?_
 replace h := bnd h; obtain ⟨v3, hvv3, h⟩ := h
 refine WR.call0 fn39 rfl rfl rfl rfl (by exact trivial) rfl (countries_con hw hvv3) ?_
 refine wr 1 rfl trivial ?_
 replace h := bnd h; obtain ⟨v4, hvv4, h⟩ := h
 refine WR.callO [(0, 8)] [(0, 8)] [8] fn36 rfl rfl rfl rfl (by exact trivial) (srcNext_con hw hvv4) rfl rfl (by exact ⟨rfl, trivial⟩) rfl rfl rfl rfl rfl rfl ?_
 obtain ⟨g1, h⟩ := grd h
 replace h := bnd h; obtain ⟨x, hxx, h⟩ := h
 refine WR.q [] rfl rfl rfl (q_idx tbOk rfl (by exact trivial) g1 (map_get (f := eStr) hxx)) ?_
 refine wr 2 rfl trivial ?_
 replace h := bnd h; obtain ⟨v5, hvv5, h⟩ := h
 refine WR.callO [(0, 8)] [(0, 8)] [8] fn36 rfl rfl rfl rfl (by exact trivial) (srcNext_con hw hvv5) rfl rfl (by exact ⟨rfl, trivial⟩) rfl rfl rfl rfl rfl rfl ?_
 refine wr 2 rfl trivial ?_
 replace h := bnd h; obtain ⟨v6, hvv6, h⟩ := h
 refine WR.callO [(0, 8)] [(0, 8)] [8] fn36 rfl rfl rfl rfl (by exact trivial) (srcNext_con hw hvv6) rfl rfl (by exact ⟨rfl, trivial⟩) rfl rfl rfl rfl rfl rfl ?_
 refine wr 1 rfl trivial ?_
 replace h := bnd h; obtain ⟨v7, hvv7, h⟩ := h
 refine WR.callO [(0, 8)] [(0, 8)] [8] fn36 rfl rfl rfl rfl (by exact trivial) (srcNext_con hw hvv7) rfl rfl (by exact ⟨rfl, trivial⟩) rfl rfl rfl rfl rfl rfl ?_
 refine wr 1 rfl trivial ?_
 replace h := bnd h; obtain ⟨v8, hvv8, h⟩ := h
 refine WR.callO [(0, 8)] [(0, 8)] [8] fn36 rfl rfl rfl rfl (by exact trivial) (srcNext_con hw hvv8) rfl rfl (by exact ⟨rfl, trivial⟩) rfl rfl rfl rfl rfl rfl ?_
 refine wr 1 rfl trivial ?_
 replace h := bnd h; obtain ⟨v9, hvv9, h⟩ := h
 refine WR.callO [(0, 8)] [(0, 8)] [8] fn36 rfl rfl rfl rfl (by exact trivial) (srcNext_con hw hvv9) rfl rfl (by exact ⟨rfl, trivial⟩) rfl rfl rfl rfl rfl rfl ?_
 refine wr 3 rfl trivial ?_
 refine WR.nil (by kernel_rfl) (WQ.thenNormal (WC.seq (WC.seq (WC.region ?_))))
 refine lr 1 rfl trivial ?_
 replace h := bnd h; obtain ⟨v10, hvv10, h⟩ := h
 refine WL.callO [(0, 8)] [(0, 8)] [8] fn36 rfl rfl rfl rfl (by exact trivial) (srcNext_con hw hvv10) rfl rfl (by exact ⟨rfl, trivial⟩) rfl rfl rfl rfl rfl rfl ?_
 refine lr 1 rfl trivial ?_
 refine WL.nil (WQ.thenNormal ?_)
 refine WC.thenCut (X := (List Int) × Int × Int × Int) (fun gG => ⟨[(4, .p 4 0), (3, .p 8 0), (2, .p 2 0)], [(8, .blk 63 [.v (.sl 1 (gG.1.map eInt_i64)), .v (.int .i64 gG.2.1)]), (2, .blk 46 [.v (.str []), .v (.str []), .v (.bool false), .v (.int .i64 0), .v (.int .i64 0), .v (.int .i64 0), .v (.int .i64 0), .v (.int .i64 0)]), (4, .blk 46 [.v (.str v2.1), .v (.str x), .v (.bool (v5.1 == (1 : Int))), .v (.int .i64 v6.1), .v (.int .i64 v7.1), .v (.int .i64 gG.2.2.1), .v (.int .i64 gG.2.2.2), .v (.int .i64 0)])]⟩) (fun gG => madeItem_j1 v2 x v5 v6 v7 gG.1 gG.2.1 gG.2.2.1 gG.2.2.2 = some r) ?_ ?_
 ·refine WC.cond rfl (fun hc3 => ?_) (fun hc3 => ?_)
  ·replace h := ite_t hc3 h
   refine WC.region ?_
   refine lr 1 rfl trivial ?_
   replace h := bnd h; obtain ⟨v14, hvv14, h⟩ := h
   refine WL.callO [(0, 8)] [(0, 8)] [8] fn36 rfl rfl rfl rfl (by exact trivial) (srcNext_con hw hvv14) rfl rfl (by exact ⟨rfl, trivial⟩) rfl rfl rfl rfl rfl rfl ?_
   refine lr 1 rfl trivial ?_
   replace h := bnd h; obtain ⟨v15, hvv15, h⟩ := h
   refine WL.callO [(0, 8)] [(0, 8)] [8] fn36 rfl rfl rfl rfl (by exact trivial) (srcNext_con hw hvv15) rfl rfl (by exact ⟨rfl, trivial⟩) rfl rfl rfl rfl rfl rfl ?_
   refine lr 4 rfl trivial ?_
   refine WL.nil ?_
   exact WQ.cut [] (v15.2.L, v15.2.I, v14.1, v15.1) ⟨(by exact ⟨rfl, rfl, rfl, trivial⟩), (by exact ⟨rfl, rfl, rfl, trivial⟩), rfl, rfl, rfl, rfl⟩ h
  ·replace h := ite_f hc3 h
   refine WC.skip ?_
   exact WQ.cut [] (v10.2.L, v10.2.I, v8.1, v9.1) ⟨(by exact ⟨rfl, rfl, rfl, trivial⟩), (by exact ⟨rfl, rfl, rfl, trivial⟩), rfl, rfl, rfl, rfl⟩ h
 ·rintro ⟨c8_0, c8_1, c4_5, c4_6⟩ h
  replace h : madeItem_j1 v2 x v5 v6 v7 c8_0 c8_1 c4_5 c4_6 = some _ := h
  unfold madeItem_j1 at h
  show WC _ _ _ ⟨[(4, .p 4 0), (3, .p 8 0), (2, .p 2 0)], [(8, .blk 63 [.v (.sl 1 (c8_0.map eInt_i64)), .v (.int .i64 c8_1)]), (2, .blk 46 [.v (.str []), .v (.str []), .v (.bool false), .v (.int .i64 0), .v (.int .i64 0), .v (.int .i64 0), .v (.int .i64 0), .v (.int .i64 0)]), (4, .blk 46 [.v (.str v2.1), .v (.str x), .v (.bool (v5.1 == (1 : Int))), .v (.int .i64 v6.1), .v (.int .i64 v7.1), .v (.int .i64 c4_5), .v (.int .i64 c4_6), .v (.int .i64 0)])]⟩ _ _
  refine WC.seq (WC.seq (WC.region ?_))
  refine lr 1 rfl trivial ?_
  replace h := bnd h; obtain ⟨v11, hvv11, h⟩ := h
  refine WL.callO [(0, 8)] [(0, 8)] [8] fn36 rfl rfl rfl rfl (by exact trivial) (srcNext_con hw hvv11) rfl rfl (by exact ⟨rfl, trivial⟩) rfl rfl rfl rfl rfl rfl ?_
  refine lr 1 rfl trivial ?_
  refine WL.nil (WQ.thenNormal ?_)
  refine WC.thenCut (X := Int) (fun gG => ⟨[(4, .p 4 0), (3, .p 8 0), (2, .p 2 0)], [(8, .blk 63 [.v (.sl 1 (v11.2.L.map eInt_i64)), .v (.int .i64 v11.2.I)]), (2, .blk 46 [.v (.str []), .v (.str []), .v (.bool false), .v (.int .i64 0), .v (.int .i64 0), .v (.int .i64 0), .v (.int .i64 0), .v (.int .i64 0)]), (4, .blk 46 [.v (.str v2.1), .v (.str x), .v (.bool (v5.1 == (1 : Int))), .v (.int .i64 v6.1), .v (.int .i64 v7.1), .v (.int .i64 gG), .v (.int .i64 c4_6), .v (.int .i64 0)])]⟩) (fun gG => madeItem_j2 v2 x v5 v6 v7 c4_6 v11 gG = some r) ?_ ?_
  ·refine WC.cond rfl (fun hc2 => ?_) (fun hc2 => ?_)
   ·replace h := ite_t hc2 h
    refine WC.region ?_
    refine lr 2 rfl trivial ?_
    refine WL.nil ?_
    exact WQ.cut [] (0 : Int) ⟨(by exact ⟨rfl, rfl, rfl, trivial⟩), (by exact ⟨rfl, rfl, rfl, trivial⟩), rfl, rfl, rfl, rfl⟩ h
   ·replace h := ite_f hc2 h
    refine WC.skip ?_
    exact WQ.cut [] c4_5 ⟨(by exact ⟨rfl, rfl, rfl, trivial⟩), (by exact ⟨rfl, rfl, rfl, trivial⟩), rfl, rfl, rfl, rfl⟩ h
  ·intro c4_52 h
   replace h : madeItem_j2 v2 x v5 v6 v7 c4_6 v11 c4_52 = some _ := h
   unfold madeItem_j2 at h
   show WC _ _ _ ⟨[(4, .p 4 0), (3, .p 8 0), (2, .p 2 0)], [(8, .blk 63 [.v (.sl 1 (v11.2.L.map eInt_i64)), .v (.int .i64 v11.2.I)]), (2, .blk 46 [.v (.str []), .v (.str []), .v (.bool false), .v (.int .i64 0), .v (.int .i64 0), .v (.int .i64 0), .v (.int .i64 0), .v (.int .i64 0)]), (4, .blk 46 [.v (.str v2.1), .v (.str x), .v (.bool (v5.1 == (1 : Int))), .v (.int .i64 v6.1), .v (.int .i64 v7.1), .v (.int .i64 c4_52), .v (.int .i64 c4_6), .v (.int .i64 0)])]⟩ _ _
   refine WC.seq (WC.seq (WC.region ?_))
   refine lr 1 rfl trivial ?_
   replace h := bnd h; obtain ⟨v12, hvv12, h⟩ := h
   refine WL.callO [(0, 8)] [(0, 8)] [8] fn36 rfl rfl rfl rfl (by exact trivial) (srcNext_con hw hvv12) rfl rfl (by exact ⟨rfl, trivial⟩) rfl rfl rfl rfl rfl rfl ?_
   refine lr 1 rfl trivial ?_
   refine WL.nil (WQ.thenNormal ?_)
   refine WC.thenCut (X := Int) (fun gG => ⟨[(4, .p 4 0), (2, .p 2 0)], [(2, .blk 46 [.v (.str []), .v (.str []), .v (.bool false), .v (.int .i64 0), .v (.int .i64 0), .v (.int .i64 0), .v (.int .i64 0), .v (.int .i64 0)]), (4, .blk 46 [.v (.str v2.1), .v (.str x), .v (.bool (v5.1 == (1 : Int))), .v (.int .i64 v6.1), .v (.int .i64 v7.1), .v (.int .i64 c4_52), .v (.int .i64 c4_6), .v (.int .i64 gG)])]⟩) (fun gG => madeItem_j3 v2 x v5 v6 v7 c4_6 c4_52 gG = some r) ?_ ?_
   ·refine WC.cond rfl (fun hc1 => ?_) (fun hc1 => ?_)
    ·replace h := ite_t hc1 h
     refine WC.region ?_
     refine lr 4 rfl trivial ?_
     replace h := bnd h; obtain ⟨v13, hvv13, h⟩ := h
     refine WL.callO [(0, 8)] [(0, 8)] [8] fn36 rfl rfl rfl rfl (by exact trivial) (srcNext_con hw hvv13) rfl rfl (by exact ⟨rfl, trivial⟩) rfl rfl rfl rfl rfl rfl ?_
     refine lr 2 rfl trivial ?_
     refine WL.nil ?_
     exact WQ.cut [] v13.1 ⟨(by exact ⟨rfl, rfl, trivial⟩), (by exact ⟨rfl, rfl, trivial⟩), rfl, rfl, rfl, rfl⟩ h
    ·replace h := ite_f hc1 h
     refine WC.skip ?_
     exact WQ.cut [] 0 ⟨(by exact ⟨rfl, rfl, trivial⟩), (by exact ⟨rfl, rfl, trivial⟩), rfl, rfl, rfl, rfl⟩ h
   ·intro c4_7 h
    replace h : madeItem_j3 v2 x v5 v6 v7 c4_6 c4_52 c4_7 = some _ := h
    unfold madeItem_j3 at h
    show WC _ _ _ ⟨[(4, .p 4 0), (2, .p 2 0)], [(2, .blk 46 [.v (.str []), .v (.str []), .v (.bool false), .v (.int .i64 0), .v (.int .i64 0), .v (.int .i64 0), .v (.int .i64 0), .v (.int .i64 0)]), (4, .blk 46 [.v (.str v2.1), .v (.str x), .v (.bool (v5.1 == (1 : Int))), .v (.int .i64 v6.1), .v (.int .i64 v7.1), .v (.int .i64 c4_52), .v (.int .i64 c4_6), .v (.int .i64 c4_7)])]⟩ _ _
    refine WC.seq (WC.region ?_)
    refine lr 2 rfl trivial ?_
    refine WL.nil (WQ.thenNormal (WC.ret ?_))
    cases h
    exact WQ.rets tbOk hR [] (.inl rfl) rfl rfl (Le.refl _) (by exact trivial) rfl rfl rfl rfl

theorem few19_con {wg : World} (hw : WG wg) {l : (List ApiMeasure)} {r : (List ApiMeasure)} (h : few19 l = some r) : Con Tryz.prog wg gl 11 [.v (.sl 15 (l.map eApiMeasure))] [] (.v (.sl 15 (r.map eApiMeasure))) [] := by
 unfold few19 at h
 refine con_of_WC (S := slotsOf 0 _) Tryz.func11 rfl Tryz.ntmps11 rfl (fun t x hx => (slotsOf_get hx).2) ?_
 intro F L w ρ0 R hR
 show WC _ _ _ ⟨[(0, .v (.sl 15 (l.map eApiMeasure)))], []⟩ _ _
 refine WC.seq (WC.region ?_)
 refine lr 1 rfl trivial ?_
 refine WL.nil (WQ.thenNormal (WC.seq (WC.region ?_)))
 refine WL.buildRow tbOk (([] : (List ApiMeasure)).map eApiMeasure) rfl rfl rfl rfl (by exact trivial) rfl rfl ?_
 refine lr 2 rfl trivial ?_
 refine WL.q [] rfl rfl rfl (q_ev tbOk (.v (.int .i64 (l.length : Int))) rfl (by exact trivial) (by exact lenT)) ?_
 refine lr 1 rfl trivial ?_
 obtain ⟨g1, h⟩ := grd h
 refine WL.q [] rfl rfl rfl (q_ev tbOk (.v (.sl 15 (((l.take (if (310 : Int) < (l.length : Int) then (310 : Int) else (l.length : Int)).toNat).drop (0 : Int).toNat).map eApiMeasure))) rfl (by exact sideR) (by exact tdT)) ?_
 obtain ⟨g2, h⟩ := grd h
 refine WL.append tbOk (((l.take (if (310 : Int) < (l.length : Int) then (310 : Int) else (l.length : Int)).toNat).drop (0 : Int).toNat).map eApiMeasure) [10, 4] ap22 rfl rfl rfl rfl (fun _ e => by cases e; rfl) (by exact trivial) (map_cells (f := eApiMeasure) (xs := ((l.take (if (310 : Int) < (l.length : Int) then (310 : Int) else (l.length : Int)).toNat).drop (0 : Int).toNat)) fun _ => rfl) (by have := g2; simp only [List.length_map, List.length_nil, List.length_cons] at this ⊢; omega) rfl rfl rfl rfl ?_
 refine lr 1 rfl trivial ?_
 refine WL.nil (WQ.thenNormal (WC.seq (WC.seq (WC.region ?_))))
 refine lr 1 rfl trivial ?_
 refine WL.nil (WQ.thenNormal ?_)
 refine WC.thenCut (X := (List ApiMeasure)) (fun gG => ⟨[(0, .r 1000)], [(1000, .row 34 15 (gG.map eApiMeasure))]⟩) (fun gG => few19_j1 gG = some r) ?_ ?_
 ·refine WC.block ?_
  obtain ⟨eQ1, hl1, hk1⟩ := bnd h
  clear h
  refine WC.loop (σ := Int × (List ApiMeasure)) (τ := ((List ApiMeasure))) (fun sS => ⟨[(3, .v (.int .i64 sS.1)), (0, .r 1000)], [(1000, .row 34 15 (sS.2.map eApiMeasure))]⟩) (few19_b1) [(1000, 10)] ((0 : Int), ((l.take (if (310 : Int) < (l.length : Int) then (310 : Int) else (l.length : Int)).toNat).drop (0 : Int).toNat)) hl1 ⟨(by exact ⟨rfl, rfl, trivial⟩), (by exact ⟨rfl, trivial⟩), rfl, rfl, rfl, rfl⟩ ?_
  rintro ⟨i, l3⟩ m hn1 he1 hx1
  obtain ⟨o1, hf1⟩ := some_of hx1
  have h := hf1
  unfold few19_b1 at h
  show WC _ _ _ ⟨[(3, .v (.int .i64 i)), (0, .r 1000)], [(1000, .row 34 15 (l3.map eApiMeasure))]⟩ _ _
  refine WC.seq (WC.seq (WC.region ?_))
  refine lr 2 rfl trivial ?_
  refine WL.q [1000] rfl rfl rfl (q_ev tbOk (.v (.int .i64 (l3.length : Int))) rfl (by exact trivial) (by exact lenT)) ?_
  refine lr 1 rfl trivial ?_
  refine WL.nil (WQ.thenNormal ?_)
  refine WC.cond rfl (fun hc1 => ?_) (fun hc1 => ?_)
  ·replace h := ite_t hc1 h
   refine WC.skip (WQ.thenNormal (WC.seq (WC.block (WC.order mixed ?_))))
   refine wr 4 rfl trivial ?_
   obtain ⟨g3, h⟩ := grd h
   refine WR.q [1000] rfl rfl rfl (q_ridx tbOk rfl (by exact trivial) rfl (by simpa only [List.length_map] using g3)) ?_
   refine wr 1 rfl trivial ?_
   refine WR.q [1000] rfl rfl rfl (x := .v (.sl 1 (((l3.getD i.toNat default).Origins).map eStr))) (q_rload tbOk rfl (by exact trivial) rfl (map_getD (f := eApiMeasure) g3.2 g3.1) rfl) ?_
   refine wr 2 rfl trivial ?_
   obtain ⟨g4, h⟩ := grd h
   refine WR.q [1000] rfl rfl rfl (q_ridx tbOk rfl (by exact trivial) rfl (by simpa only [List.length_map] using g4)) ?_
   refine wr 1 rfl trivial ?_
   refine WR.q [1000] rfl rfl rfl (x := .v (.sl 1 (((l3.getD i.toNat default).Origins).map eStr))) (q_rload tbOk rfl (by exact trivial) rfl (map_getD (f := eApiMeasure) g4.2 g4.1) rfl) ?_
   refine WR.q [] rfl rfl rfl (q_ev tbOk (.v (.int .i64 (((l3.getD i.toNat default).Origins).length : Int))) rfl (by exact trivial) (by exact lenT)) ?_
   refine wr 1 rfl trivial ?_
   obtain ⟨g5, h⟩ := grd h
   refine WR.q [] rfl rfl rfl (q_ev tbOk (.v (.sl 1 (((((l3.getD i.toNat default).Origins).take (if (22 : Int) < (((l3.getD i.toNat default).Origins).length : Int) then (22 : Int) else (((l3.getD i.toNat default).Origins).length : Int)).toNat).drop (0 : Int).toNat).map eStr))) rfl (by exact sideR) (by exact tdT)) ?_
   obtain ⟨g6, h⟩ := grd h
   refine WR.q [1000] rfl rfl rfl (q_ridx tbOk rfl (by exact trivial) rfl (by simpa only [List.length_map] using g6)) ?_
   refine wr 1 rfl trivial ?_
   refine WR.rstore tbOk ((l3.set i.toNat (⟨(l3.getD i.toNat default).ID, (l3.getD i.toNat default).Kind, (l3.getD i.toNat default).Prefix, ((((l3.getD i.toNat default).Origins).take (if (22 : Int) < (((l3.getD i.toNat default).Origins).length : Int) then (22 : Int) else (((l3.getD i.toNat default).Origins).length : Int)).toNat).drop (0 : Int).toNat), (l3.getD i.toNat default).Company, (l3.getD i.toNat default).From, (l3.getD i.toNat default).To, (l3.getD i.toNat default).Registered, ((l3.getD i.toNat default).Duty)⟩ : ApiMeasure)).map eApiMeasure) rfl rfl rfl (by exact trivial) rfl (map_getD (f := eApiMeasure) g6.2 g6.1) rfl (mapset (f := eApiMeasure) (x := (⟨(l3.getD i.toNat default).ID, (l3.getD i.toNat default).Kind, (l3.getD i.toNat default).Prefix, ((((l3.getD i.toNat default).Origins).take (if (22 : Int) < (((l3.getD i.toNat default).Origins).length : Int) then (22 : Int) else (((l3.getD i.toNat default).Origins).length : Int)).toNat).drop (0 : Int).toNat), (l3.getD i.toNat default).Company, (l3.getD i.toNat default).From, (l3.getD i.toNat default).To, (l3.getD i.toNat default).Registered, ((l3.getD i.toNat default).Duty)⟩ : ApiMeasure)) (by rfl)) ?_
   refine WR.nil (by kernel_rfl) (WQ.blockNormal (WQ.thenNormal (WC.region ?_)))
   refine lr 3 rfl trivial ?_
   refine WL.nil ?_
   cases h
   exact WQ.next [] ((IntKind.i64.wrap (i + (1 : Int))), (l3.set i.toNat (⟨(l3.getD i.toNat default).ID, (l3.getD i.toNat default).Kind, (l3.getD i.toNat default).Prefix, ((((l3.getD i.toNat default).Origins).take (if (22 : Int) < (((l3.getD i.toNat default).Origins).length : Int) then (22 : Int) else (((l3.getD i.toNat default).Origins).length : Int)).toNat).drop (0 : Int).toNat), (l3.getD i.toNat default).Company, (l3.getD i.toNat default).From, (l3.getD i.toNat default).To, (l3.getD i.toNat default).Registered, ((l3.getD i.toNat default).Duty)⟩ : ApiMeasure))) ⟨(by exact ⟨rfl, rfl, trivial⟩), (by exact ⟨rfl, trivial⟩), rfl, rfl, rfl, rfl⟩ (hn1 _ hf1)
  ·replace h := ite_f hc1 h
   refine WC.exit (WQ.thenExit ?_)
   cases h
   have he := he1 _ hf1
   subst he
   replace h := hk1
   try dsimp only at h
   refine WQ.thenExit (WQ.blockExit ?_)
   exact WQ.cut [] l3 ⟨(by exact ⟨rfl, trivial⟩), (by exact ⟨rfl, trivial⟩), rfl, rfl, rfl, rfl⟩ h
 ·intro l2 h
  replace h : few19_j1 l2 = some _ := h
  unfold few19_j1 at h
  show WC _ _ _ ⟨[(0, .r 1000)], [(1000, .row 34 15 (l2.map eApiMeasure))]⟩ _ _
  refine WC.seq (WC.region ?_)
  refine lr 2 rfl trivial ?_
  refine WL.nil (WQ.thenNormal (WC.ret ?_))
  refine WQ.publish 1000 rfl rfl ?_
  cases h
  exact WQ.rets tbOk hR [] (.inl rfl) rfl rfl (Le.refl _) (by exact trivial) rfl rfl rfl rfl

end Go.Proofs.YtbilobjddflpeaaGreatDoor
