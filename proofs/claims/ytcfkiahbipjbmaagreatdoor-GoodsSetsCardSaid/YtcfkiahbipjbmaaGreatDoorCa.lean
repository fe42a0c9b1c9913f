/- Contracts: the program's functions compute the plain ones; by program (gen.py). -/
import Derived.Test.YtcfkiahbipjbmaaGreatDoorLib
import Derived.Test.YtcfkiahbipjbmaaGreatDoorPa
set_option linter.unusedVariables false
set_option linter.unusedSimpArgs false
set_option maxHeartbeats 4000000
set_option maxRecDepth 20000
namespace Go.Proofs.YtcfkiahbipjbmaaGreatDoor
open Go.V Go.C

theorem within_con {wg : World} (hw : WG wg) {x : Int} {n1 : Int} {r : Int} (h : within x n1 = some r) : Con Tryz.prog wg gl 34 [.v (.int .i64 x), .v (.int .i64 n1)] [] (.v (.int .i64 r)) [] := by
 unfold within at h
 refine con_of_WC (S := slotsOf 0 _) Tryz.func34 rfl Tryz.ntmps34 rfl (fun t x hx => (slotsOf_get hx).2) ?_
 intro F L w ρ0 R hR
 show WC _ _ _ ⟨[(0, .v (.int .i64 x)), (1, .v (.int .i64 n1))], []⟩ _ _
 refine WC.seq (WC.region ?_)
 refine lr 1 rfl trivial ?_
 refine WL.nil (WQ.thenNormal (WC.seq (WC.region ?_)))
 obtain ⟨g1, h⟩ := grd h
 obtain ⟨g2, h⟩ := grd h
 refine lr 8 rfl (by repeat' (first | exact trivial | assumption | intro _ | exact g1 (by assumption) | exact g2 (by assumption) | apply And.intro | exact sideT | (refine and_i ?_ ?_))) ?_
 refine WL.nil (WQ.thenNormal (WC.ret ?_))
 cases h
 exact WQ.rets tbOk hR [] (.inl rfl) rfl rfl (Le.refl _) (by exact trivial) rfl rfl rfl rfl

theorem srcNext_con {wg : World} (hw : WG wg) {s : CustomsmadeSource} {n1 : Int} {r : Int × CustomsmadeSource} (h : srcNext s n1 = some r) : Con Tryz.prog wg gl 18 [.p 0 0, .v (.int .i64 n1)] [(0, .blk 39 [.v (.sl 1 (s.L.map eInt_i64)), .v (.int .i64 s.I)])] (.v (.int .i64 r.1)) [(0, .blk 39 [.v (.sl 1 (r.2.L.map eInt_i64)), .v (.int .i64 r.2.I)])] := by
 unfold srcNext at h
 refine con_of_WC (S := slotsOf 0 _) Tryz.func18 rfl Tryz.ntmps18 rfl (fun t x hx => (slotsOf_get hx).2) ?_
 intro F L w ρ0 R hR
 show WC _ _ _ ⟨[(0, .p 0 0), (1, .v (.int .i64 n1))], [(0, .blk 39 [.v (.sl 1 (s.L.map eInt_i64)), .v (.int .i64 s.I)])]⟩ _ _
 refine WC.seq (WC.region ?_)
 refine lr 1 rfl trivial ?_
 refine WL.nil (WQ.thenNormal (WC.seq (WC.seq (WC.order mixed ?_))))
 refine wr 8 rfl trivial ?_
 refine WR.q [] rfl rfl rfl (q_ev tbOk (.v (.int .i64 (s.L.length : Int))) rfl (by exact trivial) (by exact lenT)) ?_
 refine wr 1 rfl trivial ?_
 refine WR.nil (by kernel_rfl) (WQ.thenNormal ?_)
 refine WC.cond rfl (fun hc1 => ?_) (fun hc1 => ?_)
 ·replace h := ite_t hc1 h
  refine WC.seq (WC.region ?_)
  refine lr 1 rfl trivial ?_
  refine WL.nil (WQ.thenNormal (WC.ret (WQ.thenRet ?_)))
  cases h
  exact WQ.rets tbOk hR [] (.inl rfl) rfl rfl (Le.refl _) (by exact ⟨rfl, trivial⟩) rfl rfl rfl rfl
 ·replace h := ite_f hc1 h
  refine WC.skip (WQ.thenNormal (WC.seq (WC.region ?_)))
  refine lr 8 rfl trivial ?_
  refine WL.nil (WQ.thenNormal (WC.seq (WC.order mixed ?_)))
  refine wr 9 rfl trivial ?_
  obtain ⟨g1, h⟩ := grd h
  replace h := bnd h; obtain ⟨x, hxx, h⟩ := h
  refine WR.q [] rfl rfl rfl (q_idx tbOk rfl (by exact trivial) g1 (map_get (f := eInt_i64) hxx)) ?_
  refine wr 2 rfl trivial ?_
  replace h := bnd h; obtain ⟨v, hvv, h⟩ := h
  refine WR.call0 fn34 rfl rfl rfl rfl (by exact trivial) rfl (within_con hw hvv) ?_
  refine wr 1 rfl trivial ?_
  refine WR.nil (by kernel_rfl) (WQ.thenNormal (WC.ret ?_))
  cases h
  exact WQ.rets tbOk hR [] (.inl rfl) rfl rfl (Le.refl _) (by exact ⟨rfl, trivial⟩) rfl rfl rfl rfl

theorem madeCut_con {wg : World} (hw : WG wg) {l : (List Int)} {n1 : Int} {r : (List Int)} (h : madeCut l n1 = some r) : Con Tryz.prog wg gl 16 [.v (.sl 1 (l.map eInt_i64)), .v (.int .i64 n1)] [] (.v (.sl 1 (r.map eInt_i64))) [] := by
 unfold madeCut at h
 refine con_of_WC (S := slotsOf 0 _) Tryz.func16 rfl Tryz.ntmps16 rfl (fun t x hx => (slotsOf_get hx).2) ?_
 intro F L w ρ0 R hR
 show WC _ _ _ ⟨[(0, .v (.sl 1 (l.map eInt_i64))), (1, .v (.int .i64 n1))], []⟩ _ _
 refine WC.seq (WC.region ?_)
 refine lr 1 rfl trivial ?_
 refine WL.nil (WQ.thenNormal (WC.seq (WC.seq (WC.region ?_))))
 refine lr 1 rfl trivial ?_
 refine WL.q [] rfl rfl rfl (q_ev tbOk (.v (.int .i64 (l.length : Int))) rfl (by exact trivial) (by exact lenT)) ?_
 refine lr 2 rfl trivial ?_
 refine WL.nil (WQ.thenNormal ?_)
 refine WC.cond rfl (fun hc1 => ?_) (fun hc1 => ?_)
 ·replace h := ite_t hc1 h
  refine WC.seq (WC.region ?_)
  refine lr 2 rfl trivial ?_
  obtain ⟨g1, h⟩ := grd h
  refine WL.q [] rfl rfl rfl (q_ev tbOk (.v (.sl 1 (((l.take n1.toNat).drop (0 : Int).toNat).map eInt_i64))) rfl (by exact sideR) (by exact tdT)) ?_
  refine lr 1 rfl trivial ?_
  refine WL.nil (WQ.thenNormal (WC.ret (WQ.thenRet ?_)))
  cases h
  exact WQ.rets tbOk hR [] (.inl rfl) rfl rfl (Le.refl _) (by exact trivial) rfl rfl rfl rfl
 ·replace h := ite_f hc1 h
  refine WC.skip (WQ.thenNormal (WC.seq (WC.region ?_)))
  refine lr 2 rfl trivial ?_
  refine WL.nil (WQ.thenNormal (WC.ret ?_))
  cases h
  exact WQ.rets tbOk hR [] (.inl rfl) rfl rfl (Le.refl _) (by exact trivial) rfl rfl rfl rfl

theorem vocabulary_con {wg : World} (hw : WG wg)  {r : (List Str)} (h : vocabulary  = some r) : Con Tryz.prog wg gl 33 [] [] (.v (.sl 1 (r.map eStr))) [] := by
 unfold vocabulary at h
 refine con_of_WC (S := slotsOf 0 _) Tryz.func33 rfl Tryz.ntmps33 rfl (fun t x hx => (slotsOf_get hx).2) ?_
 intro F L w ρ0 R hR
 show WC _ _ _ ⟨[], []⟩ _ _
 refine WC.seq (WC.region ?_)
 refine lr 1 rfl trivial ?_
 refine WL.nil (WQ.thenNormal (WC.seq (WC.region ?_)))
 refine lr 2 rfl trivial ?_
 refine WL.nil (WQ.thenNormal (WC.ret ?_))
 cases h
 exact WQ.rets tbOk hR [] (.inl rfl) rfl rfl (Le.refl _) (by exact trivial) rfl rfl rfl rfl

theorem srcWords_con {wg : World} (hw : WG wg) {s : CustomsmadeSource} {most : Int} {r : (List Str) × CustomsmadeSource} (h : srcWords s most = some r) : Con Tryz.prog wg gl 17 [.p 0 0, .v (.int .i64 most)] [(0, .blk 39 [.v (.sl 1 (s.L.map eInt_i64)), .v (.int .i64 s.I)])] (.v (.sl 1 (r.1.map eStr))) [(0, .blk 39 [.v (.sl 1 (r.2.L.map eInt_i64)), .v (.int .i64 r.2.I)])] := by
 unfold srcWords at h
 refine con_of_WC (S := slotsOf 0 _) Tryz.func17 rfl Tryz.ntmps17 rfl (fun t x hx => (slotsOf_get hx).2) ?_
 intro F L w ρ0 R hR
 show WC _ _ _ ⟨[(0, .p 0 0), (1, .v (.int .i64 most))], [(0, .blk 39 [.v (.sl 1 (s.L.map eInt_i64)), .v (.int .i64 s.I)])]⟩ _ _
 refine WC.seq (WC.region ?_)
 refine lr 1 rfl trivial ?_
 refine WL.nil (WQ.thenNormal (WC.seq (WC.region ?_)))
 replace h := bnd h; obtain ⟨v, hvv, h⟩ := h
 refine WL.call0 fn33 rfl rfl rfl rfl (by exact trivial) rfl (vocabulary_con hw hvv) ?_
 refine lr 1 rfl trivial ?_
 refine WL.nil (WQ.thenNormal (WC.seq (WC.region ?_)))
 refine lr 1 rfl trivial ?_
 refine WL.nil (WQ.thenNormal (WC.seq (WC.region ?_)))
 refine lr 1 rfl trivial ?_
 replace h := bnd h; obtain ⟨v2, hvv2, h⟩ := h
 refine WL.callO [(0, 0)] [(0, 0)] [0] fn18 rfl rfl rfl rfl (by exact trivial) (srcNext_con hw hvv2) rfl rfl (by exact ⟨rfl, trivial⟩) rfl rfl rfl rfl rfl rfl ?_
 refine lr 1 rfl trivial ?_
 refine WL.nil (WQ.thenNormal (WC.seq (WC.seq (WC.region ?_))))
 refine lr 1 rfl trivial ?_
 refine WL.nil (WQ.thenNormal ?_)
 refine WC.thenCut (X := (List Str)) (fun gG => ⟨[(7, .v (.int .i64 v2.1)), (6, .r 1006), (5, .v (.sl 1 (v.map eStr))), (0, .p 0 0)], [(1006, .row 9 1 (gG.map eStr)), (0, .blk 39 [.v (.sl 1 (v2.2.L.map eInt_i64)), .v (.int .i64 v2.2.I)])]⟩) (fun gG => srcWords_j1 v v2 gG = some r) ?_ ?_
 ·refine WC.block ?_
  obtain ⟨eQ1, hl1, hk1⟩ := bnd h
  clear h
  refine WC.rowNil 6 1006 9 1 rfl rfl ?_
  refine WC.loop (σ := Int × (List Str)) (τ := ((List Str))) (fun sS => ⟨[(8, .v (.int .i64 sS.1)), (7, .v (.int .i64 v2.1)), (6, .r 1006), (5, .v (.sl 1 (v.map eStr))), (0, .p 0 0), (1, .v (.int .i64 most))], [(1006, .row 9 1 (sS.2.map eStr)), (0, .blk 39 [.v (.sl 1 (v2.2.L.map eInt_i64)), .v (.int .i64 v2.2.I)])]⟩) (srcWords_b1 most v v2) [] ((0 : Int), []) hl1 ⟨(by exact ⟨rfl, rfl, rfl, rfl, rfl, rfl, trivial⟩), (by exact ⟨rfl, rfl, trivial⟩), rfl, rfl, rfl, rfl⟩ ?_
  rintro ⟨i2, out4⟩ m hn1 he1 hx1
  obtain ⟨o1, hf1⟩ := some_of hx1
  have h := hf1
  unfold srcWords_b1 at h
  show WC _ _ _ ⟨[(8, .v (.int .i64 i2)), (7, .v (.int .i64 v2.1)), (6, .r 1006), (5, .v (.sl 1 (v.map eStr))), (0, .p 0 0), (1, .v (.int .i64 most))], [(1006, .row 9 1 (out4.map eStr)), (0, .blk 39 [.v (.sl 1 (v2.2.L.map eInt_i64)), .v (.int .i64 v2.2.I)])]⟩ _ _
  refine WC.seq (WC.seq (WC.region ?_))
  refine lr 2 rfl trivial ?_
  refine WL.q [] rfl rfl rfl (q_ev tbOk (.v (.int .i64 (v.length : Int))) rfl (by exact trivial) (by exact lenT)) ?_
  refine lr 3 rfl (by exact sideR) ?_
  refine WL.gq [1006] rfl rfl rfl rfl (fun hg => q_ev tbOk (.v (.int .i64 (out4.length : Int))) rfl (by exact sideR) (by exact lenT)) ?_
  refine lr 3 rfl (by exact sideR) ?_
  refine WL.nil (WQ.thenNormal ?_)
  refine WC.cond rfl (fun hc2 => ?_) (fun hc2 => ?_)
  ·replace h := ite_t hc2 h
   refine WC.skip (WQ.thenNormal (WC.seq ?_))
   refine WC.thenCut (X := (List Str)) (fun gG => ⟨[(6, .r 1006), (8, .v (.int .i64 i2)), (7, .v (.int .i64 v2.1)), (5, .v (.sl 1 (v.map eStr))), (0, .p 0 0), (1, .v (.int .i64 most))], [(1006, .row 9 1 (gG.map eStr)), (0, .blk 39 [.v (.sl 1 (v2.2.L.map eInt_i64)), .v (.int .i64 v2.2.I)])]⟩) (fun gG => srcWords_j3 most v v2 i2 gG = some o1) ?_ ?_
   ·refine WC.block (WC.seq (WC.region ?_))
    obtain ⟨g3, h⟩ := grd h
    refine lr 5 rfl (by repeat' (first | exact trivial | assumption | intro _ | exact g3 (by assumption) | apply And.intro | exact sideT | (refine and_i ?_ ?_))) ?_
    refine WL.nil (WQ.thenNormal ?_)
    refine WC.cond rfl (fun hc3 => ?_) (fun hc3 => ?_)
    ·replace h := ite_t hc3 h
     refine WC.region ?_
     refine lr 3 rfl trivial ?_
     obtain ⟨g4, h⟩ := grd h
     replace h := bnd h; obtain ⟨x4, hxx4, h⟩ := h
     refine WL.q [] rfl rfl rfl (q_idx tbOk rfl (by exact trivial) g4 (map_get (f := eStr) hxx4)) ?_
     refine lr 2 rfl trivial ?_
     obtain ⟨g5, h⟩ := grd h
     refine WL.append tbOk ((out4 ++ [x4]).map eStr) [35, 1006] ap22 rfl rfl rfl rfl (fun _ e => by cases e; rfl) (by exact trivial) (map_cells (f := eStr) (xs := [x4]) fun _ => rfl) (by have := g5; simp only [List.length_map, List.length_nil, List.length_cons] at this ⊢; omega) rfl rfl (by simp only [List.map_append]; try rfl) rfl ?_
     refine lr 1 rfl trivial ?_
     refine WL.nil (WQ.blockNormal ?_)
     exact WQ.cut [(1006, 35)] (out4 ++ [x4]) ⟨(by exact ⟨rfl, rfl, rfl, rfl, rfl, rfl, trivial⟩), (by exact ⟨rfl, rfl, trivial⟩), rfl, rfl, rfl, rfl⟩ h
    ·replace h := ite_f hc3 h
     refine WC.skip (WQ.blockNormal ?_)
     exact WQ.cut [] out4 ⟨(by exact ⟨rfl, rfl, rfl, rfl, rfl, rfl, trivial⟩), (by exact ⟨rfl, rfl, trivial⟩), rfl, rfl, rfl, rfl⟩ h
   ·intro out7 h
    replace h : srcWords_j3 most v v2 i2 out7 = some _ := h
    unfold srcWords_j3 at h
    show WC _ _ _ ⟨[(6, .r 1006), (8, .v (.int .i64 i2)), (7, .v (.int .i64 v2.1)), (5, .v (.sl 1 (v.map eStr))), (0, .p 0 0), (1, .v (.int .i64 most))], [(1006, .row 9 1 (out7.map eStr)), (0, .blk 39 [.v (.sl 1 (v2.2.L.map eInt_i64)), .v (.int .i64 v2.2.I)])]⟩ _ _
    refine WC.region ?_
    refine lr 3 rfl trivial ?_
    refine WL.nil ?_
    cases h
    exact WQ.next [] ((IntKind.i64.wrap (i2 + (1 : Int))), out7) ⟨(by exact ⟨rfl, rfl, rfl, rfl, rfl, rfl, trivial⟩), (by exact ⟨rfl, rfl, trivial⟩), rfl, rfl, rfl, rfl⟩ (hn1 _ hf1)
  ·replace h := ite_f hc2 h
   refine WC.exit (WQ.thenExit ?_)
   cases h
   have he := he1 _ hf1
   subst he
   replace h := hk1
   try dsimp only at h
   refine WQ.thenExit (WQ.blockExit ?_)
   exact WQ.cut [] out4 ⟨(by exact ⟨rfl, rfl, rfl, rfl, trivial⟩), (by exact ⟨rfl, rfl, trivial⟩), rfl, rfl, rfl, rfl⟩ h
 ·intro out h
  replace h : srcWords_j1 v v2 out = some _ := h
  unfold srcWords_j1 at h
  show WC _ _ _ ⟨[(7, .v (.int .i64 v2.1)), (6, .r 1006), (5, .v (.sl 1 (v.map eStr))), (0, .p 0 0)], [(1006, .row 9 1 (out.map eStr)), (0, .blk 39 [.v (.sl 1 (v2.2.L.map eInt_i64)), .v (.int .i64 v2.2.I)])]⟩ _ _
  refine WC.seq (WC.seq (WC.region ?_))
  refine lr 1 rfl trivial ?_
  refine WL.q [1006] rfl rfl rfl (q_ev tbOk (.v (.int .i64 (out.length : Int))) rfl (by exact trivial) (by exact lenT)) ?_
  refine lr 1 rfl trivial ?_
  refine WL.nil (WQ.thenNormal ?_)
  refine WC.thenCut (X := (List Str)) (fun gG => ⟨[(6, .v (.sl 1 (gG.map eStr))), (0, .p 0 0)], [(0, .blk 39 [.v (.sl 1 (v2.2.L.map eInt_i64)), .v (.int .i64 v2.2.I)])]⟩) (fun gG => srcWords_j2 v2 gG = some r) ?_ ?_
  ·refine WC.cond rfl (fun hc1 => ?_) (fun hc1 => ?_)
   ·replace h := ite_t hc1 h
    refine WC.region ?_
    refine lr 3 rfl trivial ?_
    refine WL.q [] rfl rfl rfl (q_ev tbOk (.v (.int .i64 (v.length : Int))) rfl (by exact trivial) (by exact lenT)) ?_
    obtain ⟨g1, h⟩ := grd h
    refine lr 1 rfl (by repeat' (first | exact trivial | assumption | intro _ | exact g1 (by assumption) | apply And.intro | exact sideT | (refine and_i ?_ ?_))) ?_
    obtain ⟨g2, h⟩ := grd h
    replace h := bnd h; obtain ⟨x, hxx, h⟩ := h
    refine WL.q [] rfl rfl rfl (q_idx tbOk rfl (by exact trivial) g2 (map_get (f := eStr) hxx)) ?_
    refine lr 3 rfl trivial ?_
    refine WL.nil ?_
    exact WQ.cut [] [x] ⟨(by exact ⟨rfl, rfl, trivial⟩), (by exact ⟨rfl, trivial⟩), rfl, rfl, rfl, rfl⟩ h
   ·replace h := ite_f hc1 h
    refine WC.skip ?_
    refine WQ.publish 1006 rfl rfl ?_
    exact WQ.cut [] out ⟨(by exact ⟨rfl, rfl, trivial⟩), (by exact ⟨rfl, trivial⟩), rfl, rfl, rfl, rfl⟩ h
  ·intro out2 h
   replace h : srcWords_j2 v2 out2 = some _ := h
   unfold srcWords_j2 at h
   show WC _ _ _ ⟨[(6, .v (.sl 1 (out2.map eStr))), (0, .p 0 0)], [(0, .blk 39 [.v (.sl 1 (v2.2.L.map eInt_i64)), .v (.int .i64 v2.2.I)])]⟩ _ _
   refine WC.seq (WC.region ?_)
   refine lr 2 rfl trivial ?_
   refine WL.nil (WQ.thenNormal (WC.ret ?_))
   cases h
   exact WQ.rets tbOk hR [] (.inl rfl) rfl rfl (Le.refl _) (by exact ⟨rfl, trivial⟩) rfl rfl rfl rfl

theorem srcShares_con {wg : World} (hw : WG wg) {s : CustomsmadeSource} {n1 : Int} {r : (List Int) × CustomsmadeSource} (h : srcShares s n1 = some r) : Con Tryz.prog wg gl 19 [.p 0 0, .v (.int .i64 n1)] [(0, .blk 39 [.v (.sl 1 (s.L.map eInt_i64)), .v (.int .i64 s.I)])] (.v (.sl 1 (r.1.map eInt_i64))) [(0, .blk 39 [.v (.sl 1 (r.2.L.map eInt_i64)), .v (.int .i64 r.2.I)])] := by
 unfold srcShares at h
 refine con_of_WC (S := slotsOf 0 _) Tryz.func19 rfl Tryz.ntmps19 rfl (fun t x hx => (slotsOf_get hx).2) ?_
 intro F L w ρ0 R hR
 show WC _ _ _ ⟨[(0, .p 0 0), (1, .v (.int .i64 n1))], [(0, .blk 39 [.v (.sl 1 (s.L.map eInt_i64)), .v (.int .i64 s.I)])]⟩ _ _
 refine WC.seq (WC.region ?_)
 refine lr 1 rfl trivial ?_
 refine WL.nil (WQ.thenNormal (WC.seq (WC.region ?_)))
 refine lr 1 rfl trivial ?_
 refine WL.nil (WQ.thenNormal (WC.seq (WC.region ?_)))
 refine lr 1 rfl trivial ?_
 refine WL.nil (WQ.thenNormal (WC.seq (WC.seq (WC.region ?_))))
 refine lr 1 rfl trivial ?_
 refine WL.nil (WQ.thenNormal ?_)
 refine WC.thenCut (X := Int × (List Int) × (List Int) × Int) (fun gG => ⟨[(6, .v (.int .i64 gG.1)), (5, .r 1005), (0, .p 0 0)], [(1005, .row 3 1 (gG.2.1.map eInt_i64)), (0, .blk 39 [.v (.sl 1 (gG.2.2.1.map eInt_i64)), .v (.int .i64 gG.2.2.2)])]⟩) (fun gG => srcShares_j1 gG.1 gG.2.1 gG.2.2.1 gG.2.2.2 = some r) ?_ ?_
 ·refine WC.block ?_
  obtain ⟨eQ1, hl1, hk1⟩ := bnd h
  clear h
  refine WC.rowNil 5 1005 3 1 rfl rfl ?_
  refine WC.loop (σ := Int × Int × (List Int) × (List Int) × Int) (τ := (Int × (List Int) × (List Int) × Int)) (fun sS => ⟨[(7, .v (.int .i64 sS.1)), (6, .v (.int .i64 sS.2.1)), (5, .r 1005), (0, .p 0 0), (1, .v (.int .i64 n1))], [(1005, .row 3 1 (sS.2.2.1.map eInt_i64)), (0, .blk 39 [.v (.sl 1 (sS.2.2.2.1.map eInt_i64)), .v (.int .i64 sS.2.2.2.2)])]⟩) (srcShares_b1 n1) [] ((1 : Int), (1000000 : Int), [], s.L, s.I) hl1 ⟨(by exact ⟨rfl, rfl, rfl, rfl, rfl, trivial⟩), (by exact ⟨rfl, rfl, trivial⟩), rfl, rfl, rfl, rfl⟩ ?_
  rintro ⟨i2, left3, out2, c0_04, c0_14⟩ m hn1 he1 hx1
  obtain ⟨o1, hf1⟩ := some_of hx1
  have h := hf1
  unfold srcShares_b1 at h
  show WC _ _ _ ⟨[(7, .v (.int .i64 i2)), (6, .v (.int .i64 left3)), (5, .r 1005), (0, .p 0 0), (1, .v (.int .i64 n1))], [(1005, .row 3 1 (out2.map eInt_i64)), (0, .blk 39 [.v (.sl 1 (c0_04.map eInt_i64)), .v (.int .i64 c0_14)])]⟩ _ _
  refine WC.seq (WC.seq (WC.region ?_))
  refine lr 3 rfl trivial ?_
  refine WL.nil (WQ.thenNormal ?_)
  refine WC.cond rfl (fun hc1 => ?_) (fun hc1 => ?_)
  ·replace h := ite_t hc1 h
   refine WC.skip (WQ.thenNormal (WC.seq (WC.block (WC.seq (WC.region ?_)))))
   refine lr 1 rfl trivial ?_
   replace h := bnd h; obtain ⟨v7, hvv7, h⟩ := h
   refine WL.callO [(0, 0)] [(0, 0)] [0] fn18 rfl rfl rfl rfl (by exact trivial) (srcNext_con hw hvv7) rfl rfl (by exact ⟨rfl, trivial⟩) rfl rfl rfl rfl rfl rfl ?_
   refine lr 3 rfl trivial ?_
   refine WL.nil (WQ.thenNormal (WC.seq (WC.seq (WC.region ?_))))
   refine lr 1 rfl trivial ?_
   replace h := bnd h; obtain ⟨v8, hvv8, h⟩ := h
   refine WL.callO [(0, 0)] [(0, 0)] [0] fn18 rfl rfl rfl rfl (by exact trivial) (srcNext_con hw hvv8) rfl rfl (by exact ⟨rfl, trivial⟩) rfl rfl rfl rfl rfl rfl ?_
   refine lr 1 rfl trivial ?_
   refine WL.nil (WQ.thenNormal ?_)
   refine WC.thenCut (X := Int × (List Int) × (List Int) × Int) (fun gG => ⟨[(8, .v (.int .i64 gG.1)), (7, .v (.int .i64 i2)), (6, .v (.int .i64 left3)), (5, .r 1005), (0, .p 0 0), (1, .v (.int .i64 n1))], [(1005, .row 3 1 (gG.2.1.map eInt_i64)), (0, .blk 39 [.v (.sl 1 (gG.2.2.1.map eInt_i64)), .v (.int .i64 gG.2.2.2)])]⟩) (fun gG => srcShares_j2 n1 i2 left3 gG.1 gG.2.1 gG.2.2.1 gG.2.2.2 = some o1) ?_ ?_
   ·refine WC.cond rfl (fun hc2 => ?_) (fun hc2 => ?_)
    ·replace h := ite_t hc2 h
     refine WC.region ?_
     obtain ⟨g3, h⟩ := grd h
     refine lr 3 rfl (by repeat' (first | exact trivial | assumption | intro _ | exact g3 (by assumption) | apply And.intro | exact sideT | (refine and_i ?_ ?_))) ?_
     replace h := bnd h; obtain ⟨v9, hvv9, h⟩ := h
     refine WL.callO [(0, 0)] [(0, 0)] [0] fn18 rfl rfl rfl rfl (by exact trivial) (srcNext_con hw hvv9) rfl rfl (by exact ⟨rfl, trivial⟩) rfl rfl rfl rfl rfl rfl ?_
     refine lr 2 rfl trivial ?_
     refine WL.nil ?_
     exact WQ.cut [] ((IntKind.i64.wrap ((1 : Int) + v9.1)), out2, v9.2.L, v9.2.I) ⟨(by exact ⟨rfl, rfl, rfl, rfl, rfl, rfl, trivial⟩), (by exact ⟨rfl, rfl, trivial⟩), rfl, rfl, rfl, rfl⟩ h
    ·replace h := ite_f hc2 h
     refine WC.skip ?_
     exact WQ.cut [] ((IntKind.i64.wrap ((1 : Int) + (IntKind.i64.wrap (v7.1 * (100000 : Int))))), out2, v8.2.L, v8.2.I) ⟨(by exact ⟨rfl, rfl, rfl, rfl, rfl, rfl, trivial⟩), (by exact ⟨rfl, rfl, trivial⟩), rfl, rfl, rfl, rfl⟩ h
   ·rintro ⟨x3, out5, c0_07, c0_17⟩ h
    replace h : srcShares_j2 n1 i2 left3 x3 out5 c0_07 c0_17 = some _ := h
    unfold srcShares_j2 at h
    show WC _ _ _ ⟨[(8, .v (.int .i64 x3)), (7, .v (.int .i64 i2)), (6, .v (.int .i64 left3)), (5, .r 1005), (0, .p 0 0), (1, .v (.int .i64 n1))], [(1005, .row 3 1 (out5.map eInt_i64)), (0, .blk 39 [.v (.sl 1 (c0_07.map eInt_i64)), .v (.int .i64 c0_17)])]⟩ _ _
    refine WC.seq (WC.region ?_)
    refine lr 8 rfl trivial ?_
    refine WL.nil (WQ.thenNormal (WC.seq (WC.region ?_)))
    refine lr 3 rfl trivial ?_
    obtain ⟨g2, h⟩ := grd h
    refine WL.append tbOk ((out5 ++ [(if (IntKind.i64.wrap (left3 - (IntKind.i64.wrap (n1 - i2)))) < x3 then (IntKind.i64.wrap (left3 - (IntKind.i64.wrap (n1 - i2)))) else x3)]).map eInt_i64) [36, 1005] ap23 rfl rfl rfl rfl (fun _ e => by cases e; rfl) (by exact trivial) (map_cells (f := eInt_i64) (xs := [(if (IntKind.i64.wrap (left3 - (IntKind.i64.wrap (n1 - i2)))) < x3 then (IntKind.i64.wrap (left3 - (IntKind.i64.wrap (n1 - i2)))) else x3)]) fun _ => rfl) (by have := g2; simp only [List.length_map, List.length_nil, List.length_cons] at this ⊢; omega) rfl rfl (by simp only [List.map_append]; try rfl) rfl ?_
    refine lr 1 rfl trivial ?_
    refine WL.nil (WQ.thenNormal (WC.region ?_))
    refine lr 4 rfl trivial ?_
    refine WL.nil (WQ.blockNormal (WQ.thenNormal (WC.region ?_)))
    refine lr 3 rfl trivial ?_
    refine WL.nil ?_
    cases h
    exact WQ.next [(1005, 36)] ((IntKind.i64.wrap (i2 + (1 : Int))), (IntKind.i64.wrap (left3 - (if (IntKind.i64.wrap (left3 - (IntKind.i64.wrap (n1 - i2)))) < x3 then (IntKind.i64.wrap (left3 - (IntKind.i64.wrap (n1 - i2)))) else x3))), (out5 ++ [(if (IntKind.i64.wrap (left3 - (IntKind.i64.wrap (n1 - i2)))) < x3 then (IntKind.i64.wrap (left3 - (IntKind.i64.wrap (n1 - i2)))) else x3)]), c0_07, c0_17) ⟨(by exact ⟨rfl, rfl, rfl, rfl, rfl, trivial⟩), (by exact ⟨rfl, rfl, trivial⟩), rfl, rfl, rfl, rfl⟩ (hn1 _ hf1)
  ·replace h := ite_f hc1 h
   refine WC.exit (WQ.thenExit ?_)
   cases h
   have he := he1 _ hf1
   subst he
   replace h := hk1
   try dsimp only at h
   refine WQ.thenExit (WQ.blockExit ?_)
   exact WQ.cut [] (left3, out2, c0_04, c0_14) ⟨(by exact ⟨rfl, rfl, rfl, trivial⟩), (by exact ⟨rfl, rfl, trivial⟩), rfl, rfl, rfl, rfl⟩ h
 ·rintro ⟨left, out, c0_0, c0_1⟩ h
  replace h : srcShares_j1 left out c0_0 c0_1 = some _ := h
  unfold srcShares_j1 at h
  show WC _ _ _ ⟨[(6, .v (.int .i64 left)), (5, .r 1005), (0, .p 0 0)], [(1005, .row 3 1 (out.map eInt_i64)), (0, .blk 39 [.v (.sl 1 (c0_0.map eInt_i64)), .v (.int .i64 c0_1)])]⟩ _ _
  refine WC.seq (WC.region ?_)
  refine lr 3 rfl trivial ?_
  obtain ⟨g1, h⟩ := grd h
  refine WL.append tbOk ((out ++ [left]).map eInt_i64) [43, 1005] ap23 rfl rfl rfl rfl (fun _ e => by cases e; rfl) (by exact trivial) (map_cells (f := eInt_i64) (xs := [left]) fun _ => rfl) (by have := g1; simp only [List.length_map, List.length_nil, List.length_cons] at this ⊢; omega) rfl rfl (by simp only [List.map_append]; try rfl) rfl ?_
  refine lr 1 rfl trivial ?_
  refine WL.nil (WQ.thenNormal (WC.ret ?_))
  refine WQ.publish 43 rfl rfl ?_
  cases h
  exact WQ.rets tbOk hR [] (.inl rfl) rfl rfl (Le.refl _) (by exact ⟨rfl, trivial⟩) rfl rfl rfl rfl

theorem madeGood_con {wg : World} (hw : WG wg) {l : (List Int)} {r : ApiGood} (h : madeGood l = some r) : Con Tryz.prog wg gl 5 [.v (.sl 1 (l.map eInt_i64))] [] (.v (.agg [.sl 1 (r.Words.map eStr), .sl 2 (r.Materials.map eApiMaterial), .sl 2 (r.Parts.map eApiComponent), .bool r.Incomplete])) [] := by
 unfold madeGood at h
 refine con_of_WC (S := slotsOf 0 _) Tryz.func5 rfl Tryz.ntmps5 rfl (fun t x hx => (slotsOf_get hx).2) ?_
 intro F L w ρ0 R hR
 show WC _ _ _ ⟨[(0, .v (.sl 1 (l.map eInt_i64)))], []⟩ _ _
 refine WC.seq (WC.region ?_)
 refine lr 1 rfl trivial ?_
 refine WL.nil (WQ.thenNormal (WC.seq (WC.region ?_)))
 refine lr 1 rfl trivial ?_
 replace h := bnd h; obtain ⟨v, hvv, h⟩ := h
 refine WL.call0 fn16 rfl rfl rfl rfl (by exact trivial) rfl (madeCut_con hw hvv) ?_
 refine lr 3 rfl trivial ?_
 refine WL.nil (WQ.thenNormal (WC.seq (WC.region ?_)))
 refine lr 1 rfl trivial ?_
 replace h := bnd h; obtain ⟨v2, hvv2, h⟩ := h
 refine WL.callO [(0, 14)] [(0, 14)] [14] fn17 rfl rfl rfl rfl (by exact trivial) (srcWords_con hw hvv2) rfl rfl (by exact ⟨rfl, trivial⟩) rfl rfl rfl rfl rfl rfl ?_
 refine lr 1 rfl trivial ?_
 replace h := bnd h; obtain ⟨v3, hvv3, h⟩ := h
 refine WL.callO [(0, 14)] [(0, 14)] [14] fn18 rfl rfl rfl rfl (by exact trivial) (srcNext_con hw hvv3) rfl rfl (by exact ⟨rfl, trivial⟩) rfl rfl rfl rfl rfl rfl ?_
 refine lr 4 rfl trivial ?_
 refine WL.nil (WQ.thenNormal (WC.seq (WC.seq (WC.region ?_))))
 refine lr 1 rfl trivial ?_
 replace h := bnd h; obtain ⟨v4, hvv4, h⟩ := h
 refine WL.callO [(0, 14)] [(0, 14)] [14] fn18 rfl rfl rfl rfl (by exact trivial) (srcNext_con hw hvv4) rfl rfl (by exact ⟨rfl, trivial⟩) rfl rfl rfl rfl rfl rfl ?_
 refine lr 1 rfl trivial ?_
 refine WL.nil (WQ.thenNormal (WC.seq (WC.region ?_)))
 refine lr 2 rfl trivial ?_
 refine WL.nil (WQ.thenNormal ?_)
 refine WC.thenCut (X := (List ApiMaterial) × (List Int) × Int) (fun gG => ⟨[(4, .p 4 0), (3, .p 14 0), (2, .p 2 0)], [(2, .blk 28 [.v (.raw (.slice none 0 0)), .v (.raw (.slice none 0 0)), .v (.raw (.slice none 0 0)), .v (.bool false)]), (2201, .row 44 2 (gG.1.map eApiMaterial)), (4, .blk 28 [.v (.sl 1 (v2.1.map eStr)), .r 2201, .v (.raw (.slice none 0 0)), .v (.bool (v3.1 == (1 : Int)))]), (14, .blk 39 [.v (.sl 1 (gG.2.1.map eInt_i64)), .v (.int .i64 gG.2.2)])]⟩) (fun gG => madeGood_j1 v2 v3 gG.1 gG.2.1 gG.2.2 = some r) ?_ ?_
 ·refine WC.cond rfl (fun hc3 => ?_) (fun hc3 => ?_)
  ·replace h := ite_t hc3 h
   refine WC.seq (WC.region ?_)
   refine lr 2 rfl trivial ?_
   replace h := bnd h; obtain ⟨v11, hvv11, h⟩ := h
   refine WL.callO [(0, 14)] [(0, 14)] [14] fn18 rfl rfl rfl rfl (by exact trivial) (srcNext_con hw hvv11) rfl rfl (by exact ⟨rfl, trivial⟩) rfl rfl rfl rfl rfl rfl ?_
   obtain ⟨g3, h⟩ := grd h
   refine WL.q [] rfl rfl rfl (q_ev tbOk (.v (.sl 1 (([([103, 108, 97, 115, 115] : Str), ([108, 97, 109, 112] : Str), ([115, 116, 101, 101, 108] : Str), ([119, 111, 111, 100] : Str)].drop v11.1.toNat).map eStr))) rfl (by exact sideR) (by exact tdT)) ?_
   refine lr 1 rfl trivial ?_
   refine WL.nil (WQ.thenNormal (WC.seq (WC.region ?_)))
   refine lr 3 rfl trivial ?_
   refine WL.q [] rfl rfl rfl (q_ev tbOk (.v (.int .i64 (([([103, 108, 97, 115, 115] : Str), ([108, 97, 109, 112] : Str), ([115, 116, 101, 101, 108] : Str), ([119, 111, 111, 100] : Str)].drop v11.1.toNat).length : Int))) rfl (by exact trivial) (by exact lenT)) ?_
   refine lr 1 rfl trivial ?_
   replace h := bnd h; obtain ⟨v12, hvv12, h⟩ := h
   refine WL.callO [(0, 14)] [(0, 14)] [14] fn19 rfl rfl rfl rfl (by exact trivial) (srcShares_con hw hvv12) rfl rfl (by exact ⟨rfl, trivial⟩) rfl rfl rfl rfl rfl rfl ?_
   refine lr 1 rfl trivial ?_
   refine WL.nil (WQ.thenNormal (WC.seq (WC.region ?_)))
   refine lr 1 rfl trivial ?_
   refine WL.nil (WQ.thenNormal (WC.block ?_))
   obtain ⟨eQ2, hl2, hk2⟩ := bnd h
   clear h
   refine WC.rowNilB 4 1 2201 44 2 rfl rfl rfl (cs2 := [.v (.sl 1 (v2.1.map eStr)), .r 2201, .v (.raw (.slice none 0 0)), .v (.bool (v3.1 == (1 : Int)))]) rfl ?_
   refine WC.loop (σ := Int × (List ApiMaterial)) (τ := ((List ApiMaterial))) (fun sS => ⟨[(8, .v (.int .i64 sS.1)), (7, .v (.sl 1 (v12.1.map eInt_i64))), (6, .v (.sl 1 (([([103, 108, 97, 115, 115] : Str), ([108, 97, 109, 112] : Str), ([115, 116, 101, 101, 108] : Str), ([119, 111, 111, 100] : Str)].drop v11.1.toNat).map eStr))), (4, .p 4 0), (3, .p 14 0), (2, .p 2 0)], [(2, .blk 28 [.v (.raw (.slice none 0 0)), .v (.raw (.slice none 0 0)), .v (.raw (.slice none 0 0)), .v (.bool false)]), (2201, .row 44 2 (sS.2.map eApiMaterial)), (4, .blk 28 [.v (.sl 1 (v2.1.map eStr)), .r 2201, .v (.raw (.slice none 0 0)), .v (.bool (v3.1 == (1 : Int)))]), (14, .blk 39 [.v (.sl 1 (v12.2.L.map eInt_i64)), .v (.int .i64 v12.2.I)])]⟩) (madeGood_b2 v2 v3 v11 v12) [] ((0 : Int), []) hl2 ⟨(by exact ⟨rfl, rfl, rfl, rfl, rfl, rfl, trivial⟩), (by exact ⟨rfl, rfl, rfl, rfl, trivial⟩), rfl, rfl, rfl, rfl⟩ ?_
   rintro ⟨i4, c4_16⟩ m hn2 he2 hx2
   obtain ⟨o2, hf2⟩ := some_of hx2
   have h := hf2
   unfold madeGood_b2 at h
   show WC _ _ _ ⟨[(8, .v (.int .i64 i4)), (7, .v (.sl 1 (v12.1.map eInt_i64))), (6, .v (.sl 1 (([([103, 108, 97, 115, 115] : Str), ([108, 97, 109, 112] : Str), ([115, 116, 101, 101, 108] : Str), ([119, 111, 111, 100] : Str)].drop v11.1.toNat).map eStr))), (4, .p 4 0), (3, .p 14 0), (2, .p 2 0)], [(2, .blk 28 [.v (.raw (.slice none 0 0)), .v (.raw (.slice none 0 0)), .v (.raw (.slice none 0 0)), .v (.bool false)]), (2201, .row 44 2 (c4_16.map eApiMaterial)), (4, .blk 28 [.v (.sl 1 (v2.1.map eStr)), .r 2201, .v (.raw (.slice none 0 0)), .v (.bool (v3.1 == (1 : Int)))]), (14, .blk 39 [.v (.sl 1 (v12.2.L.map eInt_i64)), .v (.int .i64 v12.2.I)])]⟩ _ _
   refine WC.seq (WC.seq (WC.region ?_))
   refine lr 2 rfl trivial ?_
   refine WL.q [] rfl rfl rfl (q_ev tbOk (.v (.int .i64 (v12.1.length : Int))) rfl (by exact trivial) (by exact lenT)) ?_
   refine lr 1 rfl trivial ?_
   refine WL.nil (WQ.thenNormal ?_)
   refine WC.cond rfl (fun hc4 => ?_) (fun hc4 => ?_)
   ·replace h := ite_t hc4 h
    refine WC.skip (WQ.thenNormal (WC.seq (WC.block (WC.order mixed ?_))))
    refine wr 4 rfl trivial ?_
    obtain ⟨g4, h⟩ := grd h
    replace h := bnd h; obtain ⟨x8, hxx8, h⟩ := h
    refine WR.q [] rfl rfl rfl (q_idx tbOk rfl (by exact trivial) g4 (map_get (f := eStr) hxx8)) ?_
    refine wr 3 rfl trivial ?_
    obtain ⟨g5, h⟩ := grd h
    replace h := bnd h; obtain ⟨x9, hxx9, h⟩ := h
    refine WR.q [] rfl rfl rfl (q_idx tbOk rfl (by exact trivial) g5 (map_get (f := eInt_i64) hxx9)) ?_
    refine wr 3 rfl trivial ?_
    obtain ⟨g6, h⟩ := grd h
    refine WR.append tbOk ((c4_16 ++ [(⟨x8, x9⟩ : ApiMaterial)]).map eApiMaterial) [53, 2201] ap25 rfl rfl rfl rfl (fun _ e => by cases e; rfl) (by exact trivial) (map_cells (f := eApiMaterial) (xs := [(⟨x8, x9⟩ : ApiMaterial)]) fun _ => rfl) (by have := g6; simp only [List.length_map, List.length_nil, List.length_cons] at this ⊢; omega) rfl rfl (by simp only [List.map_append]; try rfl) rfl rfl ?_
    refine wr 2 rfl trivial ?_
    refine WR.nil (by kernel_rfl) (WQ.blockNormal (WQ.thenNormal (WC.region ?_)))
    refine lr 3 rfl trivial ?_
    refine WL.nil ?_
    cases h
    exact WQ.next [(2201, 53)] ((IntKind.i64.wrap (i4 + (1 : Int))), (c4_16 ++ [(⟨x8, x9⟩ : ApiMaterial)])) ⟨(by exact ⟨rfl, rfl, rfl, rfl, rfl, rfl, trivial⟩), (by exact ⟨rfl, rfl, rfl, rfl, trivial⟩), rfl, rfl, rfl, rfl⟩ (hn2 _ hf2)
   ·replace h := ite_f hc4 h
    refine WC.exit (WQ.thenExit ?_)
    cases h
    have he := he2 _ hf2
    subst he
    replace h := hk2
    try dsimp only at h
    refine WQ.thenExit (WQ.blockExit ?_)
    exact WQ.cut [] (c4_16, v12.2.L, v12.2.I) ⟨(by exact ⟨rfl, rfl, rfl, trivial⟩), (by exact ⟨rfl, rfl, rfl, rfl, trivial⟩), rfl, rfl, rfl, rfl⟩ h
  ·replace h := ite_f hc3 h
   refine WC.skip ?_
   refine WQ.rowNilB 4 1 2201 44 2 rfl rfl rfl (cs2 := [.v (.sl 1 (v2.1.map eStr)), .r 2201, .v (.raw (.slice none 0 0)), .v (.bool (v3.1 == (1 : Int)))]) rfl ?_
   exact WQ.cut [] ([], v4.2.L, v4.2.I) ⟨(by exact ⟨rfl, rfl, rfl, trivial⟩), (by exact ⟨rfl, rfl, rfl, rfl, trivial⟩), rfl, rfl, rfl, rfl⟩ h
 ·rintro ⟨c4_1, c14_0, c14_1⟩ h
  replace h : madeGood_j1 v2 v3 c4_1 c14_0 c14_1 = some _ := h
  unfold madeGood_j1 at h
  show WC _ _ _ ⟨[(4, .p 4 0), (3, .p 14 0), (2, .p 2 0)], [(2, .blk 28 [.v (.raw (.slice none 0 0)), .v (.raw (.slice none 0 0)), .v (.raw (.slice none 0 0)), .v (.bool false)]), (2201, .row 44 2 (c4_1.map eApiMaterial)), (4, .blk 28 [.v (.sl 1 (v2.1.map eStr)), .r 2201, .v (.raw (.slice none 0 0)), .v (.bool (v3.1 == (1 : Int)))]), (14, .blk 39 [.v (.sl 1 (c14_0.map eInt_i64)), .v (.int .i64 c14_1)])]⟩ _ _
  refine WC.seq (WC.seq (WC.region ?_))
  refine lr 1 rfl trivial ?_
  replace h := bnd h; obtain ⟨v5, hvv5, h⟩ := h
  refine WL.callO [(0, 14)] [(0, 14)] [14] fn18 rfl rfl rfl rfl (by exact trivial) (srcNext_con hw hvv5) rfl rfl (by exact ⟨rfl, trivial⟩) rfl rfl rfl rfl rfl rfl ?_
  refine lr 1 rfl trivial ?_
  refine WL.nil (WQ.thenNormal ?_)
  refine WC.thenCut (X := (List ApiMaterial) × (List ApiComponent)) (fun gG => ⟨[(4, .p 4 0), (2, .p 2 0)], [(2, .blk 28 [.v (.raw (.slice none 0 0)), .v (.raw (.slice none 0 0)), .v (.raw (.slice none 0 0)), .v (.bool false)]), (2201, .row 44 2 (gG.1.map eApiMaterial)), (2202, .row 46 2 (gG.2.map eApiComponent)), (4, .blk 28 [.v (.sl 1 (v2.1.map eStr)), .r 2201, .r 2202, .v (.bool (v3.1 == (1 : Int)))])]⟩) (fun gG => madeGood_j2 v2 v3 gG.1 gG.2 = some r) ?_ ?_
  ·refine WC.cond rfl (fun hc1 => ?_) (fun hc1 => ?_)
   ·replace h := ite_t hc1 h
    refine WC.seq (WC.region ?_)
    refine lr 2 rfl trivial ?_
    replace h := bnd h; obtain ⟨v6, hvv6, h⟩ := h
    refine WL.callO [(0, 14)] [(0, 14)] [14] fn18 rfl rfl rfl rfl (by exact trivial) (srcNext_con hw hvv6) rfl rfl (by exact ⟨rfl, trivial⟩) rfl rfl rfl rfl rfl rfl ?_
    refine lr 1 rfl trivial ?_
    replace h := bnd h; obtain ⟨v7, hvv7, h⟩ := h
    refine WL.callO [(0, 14)] [(0, 14)] [14] fn19 rfl rfl rfl rfl (by exact trivial) (srcShares_con hw hvv7) rfl rfl (by exact ⟨rfl, trivial⟩) rfl rfl rfl rfl rfl rfl ?_
    refine lr 1 rfl trivial ?_
    refine WL.nil (WQ.thenNormal (WC.seq (WC.region ?_)))
    refine lr 1 rfl trivial ?_
    refine WL.nil (WQ.thenNormal (WC.block ?_))
    obtain ⟨eQ1, hl1, hk1⟩ := bnd h
    clear h
    refine WC.rowNilB 4 2 2202 46 2 rfl rfl rfl (cs2 := [.v (.sl 1 (v2.1.map eStr)), .r 2201, .r 2202, .v (.bool (v3.1 == (1 : Int)))]) rfl ?_
    refine WC.loop (σ := Int × (List ApiMaterial) × (List ApiComponent) × (List Int) × Int) (τ := ((List ApiMaterial) × (List ApiComponent))) (fun sS => ⟨[(10, .v (.int .i64 sS.1)), (9, .v (.sl 1 (v7.1.map eInt_i64))), (4, .p 4 0), (3, .p 14 0), (2, .p 2 0)], [(2, .blk 28 [.v (.raw (.slice none 0 0)), .v (.raw (.slice none 0 0)), .v (.raw (.slice none 0 0)), .v (.bool false)]), (2201, .row 44 2 (sS.2.1.map eApiMaterial)), (2202, .row 46 2 (sS.2.2.1.map eApiComponent)), (4, .blk 28 [.v (.sl 1 (v2.1.map eStr)), .r 2201, .r 2202, .v (.bool (v3.1 == (1 : Int)))]), (14, .blk 39 [.v (.sl 1 (sS.2.2.2.1.map eInt_i64)), .v (.int .i64 sS.2.2.2.2)])]⟩) (madeGood_b1 v2 v3 v7) [] ((0 : Int), c4_1, [], v7.2.L, v7.2.I) hl1 ⟨(by exact ⟨rfl, rfl, rfl, rfl, rfl, trivial⟩), (by exact ⟨rfl, rfl, rfl, rfl, rfl, trivial⟩), rfl, rfl, rfl, rfl⟩ ?_
    rintro ⟨i2, c4_14, c4_22, c14_03, c14_13⟩ m hn1 he1 hx1
    obtain ⟨o1, hf1⟩ := some_of hx1
    have h := hf1
    unfold madeGood_b1 at h
    show WC _ _ _ ⟨[(10, .v (.int .i64 i2)), (9, .v (.sl 1 (v7.1.map eInt_i64))), (4, .p 4 0), (3, .p 14 0), (2, .p 2 0)], [(2, .blk 28 [.v (.raw (.slice none 0 0)), .v (.raw (.slice none 0 0)), .v (.raw (.slice none 0 0)), .v (.bool false)]), (2201, .row 44 2 (c4_14.map eApiMaterial)), (2202, .row 46 2 (c4_22.map eApiComponent)), (4, .blk 28 [.v (.sl 1 (v2.1.map eStr)), .r 2201, .r 2202, .v (.bool (v3.1 == (1 : Int)))]), (14, .blk 39 [.v (.sl 1 (c14_03.map eInt_i64)), .v (.int .i64 c14_13)])]⟩ _ _
    refine WC.seq (WC.seq (WC.region ?_))
    refine lr 2 rfl trivial ?_
    refine WL.q [] rfl rfl rfl (q_ev tbOk (.v (.int .i64 (v7.1.length : Int))) rfl (by exact trivial) (by exact lenT)) ?_
    refine lr 1 rfl trivial ?_
    refine WL.nil (WQ.thenNormal ?_)
    refine WC.cond rfl (fun hc2 => ?_) (fun hc2 => ?_)
    ·replace h := ite_t hc2 h
     refine WC.skip (WQ.thenNormal (WC.seq (WC.block (WC.order mixed ?_))))
     refine wr 3 rfl trivial ?_
     replace h := bnd h; obtain ⟨v10, hvv10, h⟩ := h
     refine WR.callO [(0, 14)] [(0, 14)] [14] fn17 rfl rfl rfl rfl (by exact trivial) (srcWords_con hw hvv10) rfl rfl (by exact ⟨rfl, trivial⟩) rfl rfl rfl rfl rfl rfl ?_
     refine wr 2 rfl trivial ?_
     obtain ⟨g1, h⟩ := grd h
     replace h := bnd h; obtain ⟨x3, hxx3, h⟩ := h
     refine WR.q [] rfl rfl rfl (q_idx tbOk rfl (by exact trivial) g1 (map_get (f := eInt_i64) hxx3)) ?_
     refine wr 3 rfl trivial ?_
     obtain ⟨g2, h⟩ := grd h
     refine WR.append tbOk ((c4_22 ++ [(⟨v10.1, x3⟩ : ApiComponent)]).map eApiComponent) [79, 2202] ap26 rfl rfl rfl rfl (fun _ e => by cases e; rfl) (by exact trivial) (map_cells (f := eApiComponent) (xs := [(⟨v10.1, x3⟩ : ApiComponent)]) fun _ => rfl) (by have := g2; simp only [List.length_map, List.length_nil, List.length_cons] at this ⊢; omega) rfl rfl (by simp only [List.map_append]; try rfl) rfl rfl ?_
     refine wr 2 rfl trivial ?_
     refine WR.nil (by kernel_rfl) (WQ.blockNormal (WQ.thenNormal (WC.region ?_)))
     refine lr 3 rfl trivial ?_
     refine WL.nil ?_
     cases h
     exact WQ.next [(2202, 79)] ((IntKind.i64.wrap (i2 + (1 : Int))), c4_14, (c4_22 ++ [(⟨v10.1, x3⟩ : ApiComponent)]), v10.2.L, v10.2.I) ⟨(by exact ⟨rfl, rfl, rfl, rfl, rfl, trivial⟩), (by exact ⟨rfl, rfl, rfl, rfl, rfl, trivial⟩), rfl, rfl, rfl, rfl⟩ (hn1 _ hf1)
    ·replace h := ite_f hc2 h
     refine WC.exit (WQ.thenExit ?_)
     cases h
     have he := he1 _ hf1
     subst he
     replace h := hk1
     try dsimp only at h
     refine WQ.thenExit (WQ.blockExit ?_)
     exact WQ.cut [] (c4_14, c4_22) ⟨(by exact ⟨rfl, rfl, trivial⟩), (by exact ⟨rfl, rfl, rfl, rfl, trivial⟩), rfl, rfl, rfl, rfl⟩ h
   ·replace h := ite_f hc1 h
    refine WC.skip ?_
    refine WQ.rowNilB 4 2 2202 46 2 rfl rfl rfl (cs2 := [.v (.sl 1 (v2.1.map eStr)), .r 2201, .r 2202, .v (.bool (v3.1 == (1 : Int)))]) rfl ?_
    exact WQ.cut [] (c4_1, []) ⟨(by exact ⟨rfl, rfl, trivial⟩), (by exact ⟨rfl, rfl, rfl, rfl, trivial⟩), rfl, rfl, rfl, rfl⟩ h
  ·rintro ⟨c4_12, c4_2⟩ h
   replace h : madeGood_j2 v2 v3 c4_12 c4_2 = some _ := h
   unfold madeGood_j2 at h
   show WC _ _ _ ⟨[(4, .p 4 0), (2, .p 2 0)], [(2, .blk 28 [.v (.raw (.slice none 0 0)), .v (.raw (.slice none 0 0)), .v (.raw (.slice none 0 0)), .v (.bool false)]), (2201, .row 44 2 (c4_12.map eApiMaterial)), (2202, .row 46 2 (c4_2.map eApiComponent)), (4, .blk 28 [.v (.sl 1 (v2.1.map eStr)), .r 2201, .r 2202, .v (.bool (v3.1 == (1 : Int)))])]⟩ _ _
   refine WC.seq ?_
   refine WC.publish 2201 rfl rfl ?_
   refine WC.publish 2202 rfl rfl ?_
   refine WC.region ?_
   refine lr 2 rfl trivial ?_
   refine WL.nil (WQ.thenNormal (WC.ret ?_))
   cases h
   exact WQ.rets tbOk hR [] (.inl rfl) rfl rfl (Le.refl _) (by exact trivial) rfl rfl rfl rfl

theorem few_con {wg : World} (hw : WG wg) {l : (List Str)} {r : (List Str)} (h : few l = some r) : Con Tryz.prog wg gl 4 [.v (.sl 1 (l.map eStr))] [] (.v (.sl 1 (r.map eStr))) [] := by
 unfold few at h
 refine con_of_WC (S := slotsOf 0 _) Tryz.func4 rfl Tryz.ntmps4 rfl (fun t x hx => (slotsOf_get hx).2) ?_
 intro F L w ρ0 R hR
 show WC _ _ _ ⟨[(0, .v (.sl 1 (l.map eStr)))], []⟩ _ _
 refine WC.seq (WC.region ?_)
 refine lr 1 rfl trivial ?_
 refine WL.nil (WQ.thenNormal (WC.seq (WC.seq (WC.region ?_))))
 refine lr 1 rfl trivial ?_
 refine WL.q [] rfl rfl rfl (q_ev tbOk (.v (.int .i64 (l.length : Int))) rfl (by exact trivial) (by exact lenT)) ?_
 refine lr 1 rfl trivial ?_
 refine WL.nil (WQ.thenNormal ?_)
 refine WC.thenCut (X := (List Str)) (fun gG => ⟨[(0, .v (.sl 1 (gG.map eStr)))], []⟩) (fun gG => few_j1 gG = some r) ?_ ?_
 ·refine WC.cond rfl (fun hc1 => ?_) (fun hc1 => ?_)
  ·replace h := ite_t hc1 h
   refine WC.region ?_
   refine lr 1 rfl trivial ?_
   obtain ⟨g1, h⟩ := grd h
   refine WL.q [] rfl rfl rfl (q_ev tbOk (.v (.sl 1 (((l.take (30 : Int).toNat).drop (0 : Int).toNat).map eStr))) rfl (by exact sideR) (by exact tdT)) ?_
   refine lr 1 rfl trivial ?_
   refine WL.nil ?_
   exact WQ.cut [] ((l.take (30 : Int).toNat).drop (0 : Int).toNat) ⟨(by exact ⟨rfl, trivial⟩), (by exact trivial), rfl, rfl, rfl, rfl⟩ h
  ·replace h := ite_f hc1 h
   refine WC.skip ?_
   exact WQ.cut [] l ⟨(by exact ⟨rfl, trivial⟩), (by exact trivial), rfl, rfl, rfl, rfl⟩ h
 ·intro l2 h
  replace h : few_j1 l2 = some _ := h
  unfold few_j1 at h
  show WC _ _ _ ⟨[(0, .v (.sl 1 (l2.map eStr)))], []⟩ _ _
  refine WC.seq (WC.region ?_)
  refine lr 2 rfl trivial ?_
  refine WL.nil (WQ.thenNormal (WC.ret ?_))
  cases h
  exact WQ.rets tbOk hR [] (.inl rfl) rfl rfl (Le.refl _) (by exact trivial) rfl rfl rfl rfl

end Go.Proofs.YtcfkiahbipjbmaaGreatDoor
