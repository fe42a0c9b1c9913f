/- Packed by pack.py. -/
import Derived.Test.YtaeplfiaahkgpaaGreatDoorQa3
section
set_option linter.unusedVariables false
set_option linter.unusedSimpArgs false
set_option maxHeartbeats 4000000
set_option maxRecDepth 20000
namespace Go.Proofs.YtaeplfiaahkgpaaGreatDoor
open Go.V Go.C
theorem within_con {wg : World} (hw : WG wg) {x : Int} {n1 : Int} {r : Int} (h : within x n1 = some r) : Con Tryz.prog wg gl 17 [.v (.int .i64 x), .v (.int .i64 n1)] [] (.v (.int .i64 r)) [] := by
 unfold within at h
 refine cw Tryz.func17 Tryz.ntmps17 ?_
 intro F L w ρ0 R hR
 try dsimp only [slotsOf]
 refine sr (lr1 rfl (ns ?_))
 obtain ⟨g1, h⟩ := grd h
 obtain ⟨g2, h⟩ := grd h
 refine lr 8 rfl (by repeat' (first | exact trivial | assumption | intro _ | exact g1 (by assumption) | exact g2 (by assumption) | apply And.intro | exact sideT | (refine and_i ?_ ?_))) ?_
 refine nr ?_
 cases h
 exact rt tbOk hR
theorem srcNext_con {wg : World} (hw : WG wg) {s : CustomsmadeSource} {n1 : Int} {r : Int × CustomsmadeSource} (h : srcNext s n1 = some r) : Con Tryz.prog wg gl 25 [.p 0 0, .v (.int .i64 n1)] [(0, .blk 63 [.v (.sl 1 (s.L.map eInt_i64)), .v (.int .i64 s.I)])] (.v (.int .i64 r.1)) [(0, .blk 63 [.v (.sl 1 (r.2.L.map eInt_i64)), .v (.int .i64 r.2.I)])] := by
 unfold srcNext at h
 refine cw Tryz.func25 Tryz.ntmps25 ?_
 intro F L w ρ0 R hR
 try dsimp only [slotsOf]
 refine sr (lr1 rfl (nn (WC.seq (WC.seq (WC.order mixed ?_)))))
 refine wr 8 rfl trivial ?_
 refine WR.q [] rfl rfl rfl (q_ev tbOk (.v (.int .i64 (s.L.length : Int))) rfl tr lenT) ?_
 refine wr 1 rfl trivial ?_
 refine WR.nil (by kernel_rfl) (WQ.thenNormal ?_)
 refine WC.cond rfl (fun hc1 => ?_) (fun hc1 => ?_)
 ·replace h := ite_t hc1 h
  refine sr (lr1 rfl (nr (WQ.thenRet ?_)))
  cases h
  exact rt tbOk hR
 ·replace h := ite_f hc1 h
  refine kn (sr (lr 8 rfl trivial (nn (WC.seq (WC.order mixed ?_)))))
  refine wr 9 rfl trivial ?_
  obtain ⟨g1, h⟩ := grd h
  replace h := bnd h; obtain ⟨x, hxx, h⟩ := h
  refine WR.q [] rfl rfl rfl (q_idx tbOk rfl tr g1 (map_get (f := eInt_i64) hxx)) ?_
  refine wr 2 rfl trivial ?_
  replace h := bnd h; obtain ⟨v, hvv, h⟩ := h
  refine WR.call0 fn17 rfl rfl rfl rfl tr rfl (within_con hw hvv) ?_
  refine wr 1 rfl trivial ?_
  refine WR.nil (by kernel_rfl) (WQ.thenNormal (WC.ret ?_))
  cases h
  exact rt tbOk hR
theorem madeCut_con {wg : World} (hw : WG wg) {l : (List Int)} {n1 : Int} {r : (List Int)} (h : madeCut l n1 = some r) : Con Tryz.prog wg gl 24 [.v (.sl 1 (l.map eInt_i64)), .v (.int .i64 n1)] [] (.v (.sl 1 (r.map eInt_i64))) [] := by
 unfold madeCut at h
 refine cw Tryz.func24 Tryz.ntmps24 ?_
 intro F L w ρ0 R hR
 try dsimp only [slotsOf]
 refine sr (lr1 rfl (nn (WC.seq (sr (lr1 rfl ?_)))))
 refine WL.q [] rfl rfl rfl (q_ev tbOk (.v (.int .i64 (l.length : Int))) rfl tr lenT) ?_
 refine lr2 rfl (nn ?_)
 refine WC.cond rfl (fun hc1 => ?_) (fun hc1 => ?_)
 ·replace h := ite_t hc1 h
  refine sr (lr2 rfl ?_)
  obtain ⟨g1, h⟩ := grd h
  refine WL.q [] rfl rfl rfl (q_ev tbOk (.v (.sl 1 (((l.take n1.toNat).drop (0 : Int).toNat).map eInt_i64))) rfl sideR tdT) ?_
  refine lr1 rfl (nr (WQ.thenRet ?_))
  cases h
  exact rt tbOk hR
 ·replace h := ite_f hc1 h
  refine kn (sr (lr2 rfl (nr ?_)))
  cases h
  exact rt tbOk hR
theorem vocabulary_con {wg : World} (hw : WG wg)  {r : (List Str)} (h : vocabulary  = some r) : Con Tryz.prog wg gl 51 [] [] (.v (.sl 1 (r.map eStr))) [] := by
 unfold vocabulary at h
 refine cw Tryz.func51 Tryz.ntmps51 ?_
 intro F L w ρ0 R hR
 try dsimp only [slotsOf]
 refine sr (lr1 rfl (ns (lr2 rfl (nr ?_))))
 cases h
 exact rt tbOk hR
theorem srcWords_con {wg : World} (hw : WG wg) {s : CustomsmadeSource} {most : Int} {r : (List Str) × CustomsmadeSource} (h : srcWords s most = some r) : Con Tryz.prog wg gl 26 [.p 0 0, .v (.int .i64 most)] [(0, .blk 63 [.v (.sl 1 (s.L.map eInt_i64)), .v (.int .i64 s.I)])] (.v (.sl 1 (r.1.map eStr))) [(0, .blk 63 [.v (.sl 1 (r.2.L.map eInt_i64)), .v (.int .i64 r.2.I)])] := by
 unfold srcWords at h
 refine cw Tryz.func26 Tryz.ntmps26 ?_
 intro F L w ρ0 R hR
 try dsimp only [slotsOf]
 refine sr (lr1 rfl (ns ?_))
 replace h := bnd h; obtain ⟨v, hvv, h⟩ := h
 refine WL.call0 fn51 rfl rfl rfl rfl tr rfl (vocabulary_con hw hvv) ?_
 refine lr1 rfl (ns (lr1 rfl (ns (lr1 rfl ?_))))
 replace h := bnd h; obtain ⟨v2, hvv2, h⟩ := h
 refine WL.callO [(0, 0)] [(0, 0)] [0] fn25 rfl rfl rfl rfl tr (srcNext_con hw hvv2) rfl rfl eqs rfl rfl rfl rfl rfl rfl ?_
 refine lr1 rfl (nn (WC.seq (sr (lr1 rfl (nn ?_)))))
 refine WC.thenCut (X := (List Str)) (fun gG => ⟨[(7, .v (.int .i64 v2.1)), (6, .r 1006), (5, .v (.sl 1 (v.map eStr))), (0, .p 0 0)], [(1006, .row 9 1 (gG.map eStr)), (0, .blk 63 [.v (.sl 1 (v2.2.L.map eInt_i64)), .v (.int .i64 v2.2.I)])]⟩) (fun gG => srcWords_j1 v v2 gG = some r) ?_ ?_
 ·refine WC.block ?_
  obtain ⟨eQ1, hl1, hk1⟩ := bnd h
  clear h
  refine WC.rowNil 6 1006 9 1 rfl rfl ?_
  refine WC.loop (σ := Int × (List Str)) (τ := ((List Str))) (fun sS => ⟨[(8, .v (.int .i64 sS.1)), (7, .v (.int .i64 v2.1)), (6, .r 1006), (5, .v (.sl 1 (v.map eStr))), (0, .p 0 0), (1, .v (.int .i64 most))], [(1006, .row 9 1 (sS.2.map eStr)), (0, .blk 63 [.v (.sl 1 (v2.2.L.map eInt_i64)), .v (.int .i64 v2.2.I)])]⟩) (srcWords_b1 most v v2) [] ((0 : Int), []) hl1 sub ?_
  rintro ⟨i2, out4⟩ m hn1 he1 hx1
  obtain ⟨o1, hf1⟩ := some_of hx1
  have h := hf1
  unfold srcWords_b1 at h
  try dsimp only
  refine WC.seq (sr (lr2 rfl ?_))
  refine WL.q [] rfl rfl rfl (q_ev tbOk (.v (.int .i64 (v.length : Int))) rfl tr lenT) ?_
  refine lr 3 rfl sideR ?_
  refine WL.gq [1006] rfl rfl rfl rfl (fun hg => q_ev tbOk (.v (.int .i64 (out4.length : Int))) rfl sideR lenT) ?_
  refine lr 3 rfl sideR ?_
  refine nn ?_
  refine WC.cond rfl (fun hc2 => ?_) (fun hc2 => ?_)
  ·replace h := ite_t hc2 h
   refine kn (WC.seq ?_)
   refine WC.thenCut (X := (List Str)) (fun gG => ⟨[(6, .r 1006), (8, .v (.int .i64 i2)), (7, .v (.int .i64 v2.1)), (5, .v (.sl 1 (v.map eStr))), (0, .p 0 0), (1, .v (.int .i64 most))], [(1006, .row 9 1 (gG.map eStr)), (0, .blk 63 [.v (.sl 1 (v2.2.L.map eInt_i64)), .v (.int .i64 v2.2.I)])]⟩) (fun gG => srcWords_j3 most v v2 i2 gG = some o1) ?_ ?_
   ·refine WC.block (sr ?_)
    obtain ⟨g3, h⟩ := grd h
    refine lr 5 rfl (by repeat' (first | exact trivial | assumption | intro _ | exact g3 (by assumption) | apply And.intro | exact sideT | (refine and_i ?_ ?_))) ?_
    refine nn ?_
    refine WC.cond rfl (fun hc3 => ?_) (fun hc3 => ?_)
    ·replace h := ite_t hc3 h
     refine WC.region (lr3 rfl ?_)
     obtain ⟨g4, h⟩ := grd h
     replace h := bnd h; obtain ⟨x4, hxx4, h⟩ := h
     refine WL.q [] rfl rfl rfl (q_idx tbOk rfl tr g4 (map_get (f := eStr) hxx4)) ?_
     refine lr2 rfl ?_
     obtain ⟨g5, h⟩ := grd h
     refine WL.append tbOk ((out4 ++ [x4]).map eStr) [35, 1006] ap28 rfl rfl rfl rfl (fun _ e => by cases e; rfl) tr (map_cells (f := eStr) (xs := [x4]) fun _ => rfl) (by have := g5; simp only [List.length_map, List.length_nil, List.length_cons] at this ⊢; omega) rfl rfl (by simp only [List.map_append]; try rfl) rfl ?_
     refine lr1 rfl (WL.nil (WQ.blockNormal ?_))
     exact WQ.cut [(1006, 35)] (out4 ++ [x4]) sub h
    ·replace h := ite_f hc3 h
     refine WC.skip (WQ.blockNormal ?_)
     exact WQ.cut [] out4 sub h
   ·intro out7 h
    replace h : srcWords_j3 most v v2 i2 out7 = some _ := h
    unfold srcWords_j3 at h
    try dsimp only
    refine WC.region (lr3 rfl (WL.nil ?_))
    cases h
    exact WQ.next [] ((IntKind.i64.wrap (i2 + (1 : Int))), out7) sub (hn1 _ hf1)
  ·replace h := ite_f hc2 h
   refine WC.exit (WQ.thenExit ?_)
   cases h
   have he := he1 _ hf1
   subst he
   replace h := hk1
   try dsimp only at h
   refine eb ?_
   exact WQ.cut [] out4 sub h
 ·intro out h
  replace h : srcWords_j1 v v2 out = some _ := h
  unfold srcWords_j1 at h
  try dsimp only
  refine WC.seq (sr (lr1 rfl ?_))
  refine WL.q [1006] rfl rfl rfl (q_ev tbOk (.v (.int .i64 (out.length : Int))) rfl tr lenT) ?_
  refine lr1 rfl (nn ?_)
  refine WC.thenCut (X := (List Str)) (fun gG => ⟨[(6, .v (.sl 1 (gG.map eStr))), (0, .p 0 0)], [(0, .blk 63 [.v (.sl 1 (v2.2.L.map eInt_i64)), .v (.int .i64 v2.2.I)])]⟩) (fun gG => srcWords_j2 v2 gG = some r) ?_ ?_
  ·refine WC.cond rfl (fun hc1 => ?_) (fun hc1 => ?_)
   ·replace h := ite_t hc1 h
    refine WC.region (lr3 rfl ?_)
    refine WL.q [] rfl rfl rfl (q_ev tbOk (.v (.int .i64 (v.length : Int))) rfl tr lenT) ?_
    obtain ⟨g1, h⟩ := grd h
    refine lr 1 rfl (by repeat' (first | exact trivial | assumption | intro _ | exact g1 (by assumption) | apply And.intro | exact sideT | (refine and_i ?_ ?_))) ?_
    obtain ⟨g2, h⟩ := grd h
    replace h := bnd h; obtain ⟨x, hxx, h⟩ := h
    refine WL.q [] rfl rfl rfl (q_idx tbOk rfl tr g2 (map_get (f := eStr) hxx)) ?_
    refine lr3 rfl (WL.nil ?_)
    exact WQ.cut [] [x] sub h
   ·replace h := ite_f hc1 h
    refine WC.skip ?_
    refine WQ.publish 1006 rfl rfl ?_
    exact WQ.cut [] out sub h
  ·intro out2 h
   replace h : srcWords_j2 v2 out2 = some _ := h
   unfold srcWords_j2 at h
   try dsimp only
   refine sr (lr2 rfl (nr ?_))
   cases h
   exact rt tbOk hR
theorem srcShares_con {wg : World} (hw : WG wg) {s : CustomsmadeSource} {n1 : Int} {r : (List Int) × CustomsmadeSource} (h : srcShares s n1 = some r) : Con Tryz.prog wg gl 28 [.p 0 0, .v (.int .i64 n1)] [(0, .blk 63 [.v (.sl 1 (s.L.map eInt_i64)), .v (.int .i64 s.I)])] (.v (.sl 1 (r.1.map eInt_i64))) [(0, .blk 63 [.v (.sl 1 (r.2.L.map eInt_i64)), .v (.int .i64 r.2.I)])] := by
 unfold srcShares at h
 refine cw Tryz.func28 Tryz.ntmps28 ?_
 intro F L w ρ0 R hR
 try dsimp only [slotsOf]
 refine sr (lr1 rfl (ns (lr1 rfl (ns (lr1 rfl (nn (WC.seq (sr (lr1 rfl (nn ?_))))))))))
 refine WC.thenCut (X := Int × (List Int) × (List Int) × Int) (fun gG => ⟨[(6, .v (.int .i64 gG.1)), (5, .r 1005), (0, .p 0 0)], [(1005, .row 3 1 (gG.2.1.map eInt_i64)), (0, .blk 63 [.v (.sl 1 (gG.2.2.1.map eInt_i64)), .v (.int .i64 gG.2.2.2)])]⟩) (fun gG => srcShares_j1 gG.1 gG.2.1 gG.2.2.1 gG.2.2.2 = some r) ?_ ?_
 ·refine WC.block ?_
  obtain ⟨eQ1, hl1, hk1⟩ := bnd h
  clear h
  refine WC.rowNil 5 1005 3 1 rfl rfl ?_
  refine WC.loop (σ := Int × Int × (List Int) × (List Int) × Int) (τ := (Int × (List Int) × (List Int) × Int)) (fun sS => ⟨[(7, .v (.int .i64 sS.1)), (6, .v (.int .i64 sS.2.1)), (5, .r 1005), (0, .p 0 0), (1, .v (.int .i64 n1))], [(1005, .row 3 1 (sS.2.2.1.map eInt_i64)), (0, .blk 63 [.v (.sl 1 (sS.2.2.2.1.map eInt_i64)), .v (.int .i64 sS.2.2.2.2)])]⟩) (srcShares_b1 n1) [] ((1 : Int), (1000000 : Int), [], s.L, s.I) hl1 sub ?_
  rintro ⟨i2, left3, out2, c0_04, c0_14⟩ m hn1 he1 hx1
  obtain ⟨o1, hf1⟩ := some_of hx1
  have h := hf1
  unfold srcShares_b1 at h
  try dsimp only
  refine WC.seq (sr (lr3 rfl (nn ?_)))
  refine WC.cond rfl (fun hc1 => ?_) (fun hc1 => ?_)
  ·replace h := ite_t hc1 h
   refine kn (sb (sr (lr1 rfl ?_)))
   replace h := bnd h; obtain ⟨v7, hvv7, h⟩ := h
   refine WL.callO [(0, 0)] [(0, 0)] [0] fn25 rfl rfl rfl rfl tr (srcNext_con hw hvv7) rfl rfl eqs rfl rfl rfl rfl rfl rfl ?_
   refine lr3 rfl (nn (WC.seq (sr (lr1 rfl ?_))))
   replace h := bnd h; obtain ⟨v8, hvv8, h⟩ := h
   refine WL.callO [(0, 0)] [(0, 0)] [0] fn25 rfl rfl rfl rfl tr (srcNext_con hw hvv8) rfl rfl eqs rfl rfl rfl rfl rfl rfl ?_
   refine lr1 rfl (nn ?_)
   refine WC.thenCut (X := Int × (List Int) × (List Int) × Int) (fun gG => ⟨[(8, .v (.int .i64 gG.1)), (7, .v (.int .i64 i2)), (6, .v (.int .i64 left3)), (5, .r 1005), (0, .p 0 0), (1, .v (.int .i64 n1))], [(1005, .row 3 1 (gG.2.1.map eInt_i64)), (0, .blk 63 [.v (.sl 1 (gG.2.2.1.map eInt_i64)), .v (.int .i64 gG.2.2.2)])]⟩) (fun gG => srcShares_j2 n1 i2 left3 gG.1 gG.2.1 gG.2.2.1 gG.2.2.2 = some o1) ?_ ?_
   ·refine WC.cond rfl (fun hc2 => ?_) (fun hc2 => ?_)
    ·replace h := ite_t hc2 h
     refine WC.region ?_
     obtain ⟨g3, h⟩ := grd h
     refine lr 3 rfl (by repeat' (first | exact trivial | assumption | intro _ | exact g3 (by assumption) | apply And.intro | exact sideT | (refine and_i ?_ ?_))) ?_
     replace h := bnd h; obtain ⟨v9, hvv9, h⟩ := h
     refine WL.callO [(0, 0)] [(0, 0)] [0] fn25 rfl rfl rfl rfl tr (srcNext_con hw hvv9) rfl rfl eqs rfl rfl rfl rfl rfl rfl ?_
     refine lr2 rfl (WL.nil ?_)
     exact WQ.cut [] ((IntKind.i64.wrap ((1 : Int) + v9.1)), out2, v9.2.L, v9.2.I) sub h
    ·replace h := ite_f hc2 h
     refine WC.skip ?_
     exact WQ.cut [] ((IntKind.i64.wrap ((1 : Int) + (IntKind.i64.wrap (v7.1 * (100000 : Int))))), out2, v8.2.L, v8.2.I) sub h
   ·rintro ⟨x3, out5, c0_07, c0_17⟩ h
    replace h : srcShares_j2 n1 i2 left3 x3 out5 c0_07 c0_17 = some _ := h
    unfold srcShares_j2 at h
    try dsimp only
    refine sr (lr 8 rfl trivial (ns (lr3 rfl ?_)))
    obtain ⟨g2, h⟩ := grd h
    refine WL.append tbOk ((out5 ++ [(if (IntKind.i64.wrap (left3 - (IntKind.i64.wrap (n1 - i2)))) < x3 then (IntKind.i64.wrap (left3 - (IntKind.i64.wrap (n1 - i2)))) else x3)]).map eInt_i64) [36, 1005] ap22 rfl rfl rfl rfl (fun _ e => by cases e; rfl) tr (map_cells (f := eInt_i64) (xs := [(if (IntKind.i64.wrap (left3 - (IntKind.i64.wrap (n1 - i2)))) < x3 then (IntKind.i64.wrap (left3 - (IntKind.i64.wrap (n1 - i2)))) else x3)]) fun _ => rfl) (by have := g2; simp only [List.length_map, List.length_nil, List.length_cons] at this ⊢; omega) rfl rfl (by simp only [List.map_append]; try rfl) rfl ?_
    refine lr1 rfl (nn (WC.region (lr4 rfl (WL.nil (bn (WC.region (lr3 rfl (WL.nil ?_))))))))
    cases h
    exact WQ.next [(1005, 36)] ((IntKind.i64.wrap (i2 + (1 : Int))), (IntKind.i64.wrap (left3 - (if (IntKind.i64.wrap (left3 - (IntKind.i64.wrap (n1 - i2)))) < x3 then (IntKind.i64.wrap (left3 - (IntKind.i64.wrap (n1 - i2)))) else x3))), (out5 ++ [(if (IntKind.i64.wrap (left3 - (IntKind.i64.wrap (n1 - i2)))) < x3 then (IntKind.i64.wrap (left3 - (IntKind.i64.wrap (n1 - i2)))) else x3)]), c0_07, c0_17) sub (hn1 _ hf1)
  ·replace h := ite_f hc1 h
   refine WC.exit (WQ.thenExit ?_)
   cases h
   have he := he1 _ hf1
   subst he
   replace h := hk1
   try dsimp only at h
   refine eb ?_
   exact WQ.cut [] (left3, out2, c0_04, c0_14) sub h
 ·rintro ⟨left, out, c0_0, c0_1⟩ h
  replace h : srcShares_j1 left out c0_0 c0_1 = some _ := h
  unfold srcShares_j1 at h
  try dsimp only
  refine sr (lr3 rfl ?_)
  obtain ⟨g1, h⟩ := grd h
  refine WL.append tbOk ((out ++ [left]).map eInt_i64) [43, 1005] ap22 rfl rfl rfl rfl (fun _ e => by cases e; rfl) tr (map_cells (f := eInt_i64) (xs := [left]) fun _ => rfl) (by have := g1; simp only [List.length_map, List.length_nil, List.length_cons] at this ⊢; omega) rfl rfl (by simp only [List.map_append]; try rfl) rfl ?_
  refine lr1 rfl (nr ?_)
  refine WQ.publish 43 rfl rfl ?_
  cases h
  exact rt tbOk hR
theorem madeGood_con {wg : World} (hw : WG wg) {l : (List Int)} {r : ApiGood} (h : madeGood l = some r) : Con Tryz.prog wg gl 11 [.v (.sl 1 (l.map eInt_i64))] [] (.v (.agg (eApiGood r))) [] := by
 unfold madeGood at h
 refine cw Tryz.func11 Tryz.ntmps11 ?_
 intro F L w ρ0 R hR
 try dsimp only [slotsOf]
 refine sr (lr1 rfl (ns (lr1 rfl ?_)))
 replace h := bnd h; obtain ⟨v, hvv, h⟩ := h
 refine WL.call0 fn24 rfl rfl rfl rfl tr rfl (madeCut_con hw hvv) ?_
 refine lr3 rfl (ns (lr1 rfl ?_))
 replace h := bnd h; obtain ⟨v2, hvv2, h⟩ := h
 refine WL.callO [(0, 14)] [(0, 14)] [14] fn26 rfl rfl rfl rfl tr (srcWords_con hw hvv2) rfl rfl eqs rfl rfl rfl rfl rfl rfl ?_
 refine lr1 rfl ?_
 replace h := bnd h; obtain ⟨v3, hvv3, h⟩ := h
 refine WL.callO [(0, 14)] [(0, 14)] [14] fn25 rfl rfl rfl rfl tr (srcNext_con hw hvv3) rfl rfl eqs rfl rfl rfl rfl rfl rfl ?_
 refine lr4 rfl (nn (WC.seq (sr (lr1 rfl ?_))))
 replace h := bnd h; obtain ⟨v4, hvv4, h⟩ := h
 refine WL.callO [(0, 14)] [(0, 14)] [14] fn25 rfl rfl rfl rfl tr (srcNext_con hw hvv4) rfl rfl eqs rfl rfl rfl rfl rfl rfl ?_
 refine lr1 rfl (ns (lr2 rfl (nn ?_)))
 refine WC.thenCut (X := (List ApiMaterial) × (List Int) × Int) (fun gG => ⟨[(4, .p 4 0), (3, .p 14 0), (2, .p 2 0)], [(2, .blk 32 [.v (.raw (.slice none 0 0)), .v (.raw (.slice none 0 0)), .v (.raw (.slice none 0 0)), .v (.bool false)]), (2201, .row 70 2 (gG.1.map eApiMaterial)), (4, .blk 32 [.v (.sl 1 (v2.1.map eStr)), .r 2201, .v (.raw (.slice none 0 0)), .v (.bool (v3.1 == (1 : Int)))]), (14, .blk 63 [.v (.sl 1 (gG.2.1.map eInt_i64)), .v (.int .i64 gG.2.2)])]⟩) (fun gG => madeGood_j1 v2 v3 gG.1 gG.2.1 gG.2.2 = some r) ?_ ?_
 ·refine WC.cond rfl (fun hc3 => ?_) (fun hc3 => ?_)
  ·replace h := ite_t hc3 h
   refine sr (lr2 rfl ?_)
   replace h := bnd h; obtain ⟨v11, hvv11, h⟩ := h
   refine WL.callO [(0, 14)] [(0, 14)] [14] fn25 rfl rfl rfl rfl tr (srcNext_con hw hvv11) rfl rfl eqs rfl rfl rfl rfl rfl rfl ?_
   obtain ⟨g3, h⟩ := grd h
   refine WL.q [] rfl rfl rfl (q_ev tbOk (.v (.sl 1 (([([103, 108, 97, 115, 115] : Str), ([108, 97, 109, 112] : Str), ([115, 116, 101, 101, 108] : Str), ([119, 111, 111, 100] : Str)].drop v11.1.toNat).map eStr))) rfl sideR tdT) ?_
   refine lr1 rfl (ns (lr3 rfl ?_))
   refine WL.q [] rfl rfl rfl (q_ev tbOk (.v (.int .i64 (([([103, 108, 97, 115, 115] : Str), ([108, 97, 109, 112] : Str), ([115, 116, 101, 101, 108] : Str), ([119, 111, 111, 100] : Str)].drop v11.1.toNat).length : Int))) rfl tr lenT) ?_
   refine lr1 rfl ?_
   replace h := bnd h; obtain ⟨v12, hvv12, h⟩ := h
   refine WL.callO [(0, 14)] [(0, 14)] [14] fn28 rfl rfl rfl rfl tr (srcShares_con hw hvv12) rfl rfl eqs rfl rfl rfl rfl rfl rfl ?_
   refine lr1 rfl (ns (lr1 rfl (nn (WC.block ?_))))
   obtain ⟨eQ2, hl2, hk2⟩ := bnd h
   clear h
   refine WC.rowNilB 4 1 2201 70 2 rfl rfl rfl (cs2 := [.v (.sl 1 (v2.1.map eStr)), .r 2201, .v (.raw (.slice none 0 0)), .v (.bool (v3.1 == (1 : Int)))]) rfl ?_
   refine WC.loop (σ := Int × (List ApiMaterial)) (τ := ((List ApiMaterial))) (fun sS => ⟨[(8, .v (.int .i64 sS.1)), (7, .v (.sl 1 (v12.1.map eInt_i64))), (6, .v (.sl 1 (([([103, 108, 97, 115, 115] : Str), ([108, 97, 109, 112] : Str), ([115, 116, 101, 101, 108] : Str), ([119, 111, 111, 100] : Str)].drop v11.1.toNat).map eStr))), (4, .p 4 0), (3, .p 14 0), (2, .p 2 0)], [(2, .blk 32 [.v (.raw (.slice none 0 0)), .v (.raw (.slice none 0 0)), .v (.raw (.slice none 0 0)), .v (.bool false)]), (2201, .row 70 2 (sS.2.map eApiMaterial)), (4, .blk 32 [.v (.sl 1 (v2.1.map eStr)), .r 2201, .v (.raw (.slice none 0 0)), .v (.bool (v3.1 == (1 : Int)))]), (14, .blk 63 [.v (.sl 1 (v12.2.L.map eInt_i64)), .v (.int .i64 v12.2.I)])]⟩) (madeGood_b2 v2 v3 v11 v12) [] ((0 : Int), []) hl2 sub ?_
   rintro ⟨i4, c4_16⟩ m hn2 he2 hx2
   obtain ⟨o2, hf2⟩ := some_of hx2
   have h := hf2
   unfold madeGood_b2 at h
   try dsimp only
   refine WC.seq (sr (lr2 rfl ?_))
   refine WL.q [] rfl rfl rfl (q_ev tbOk (.v (.int .i64 (v12.1.length : Int))) rfl tr lenT) ?_
   refine lr1 rfl (nn ?_)
   refine WC.cond rfl (fun hc4 => ?_) (fun hc4 => ?_)
   ·replace h := ite_t hc4 h
    refine kn (sb (WC.order mixed ?_))
    refine wr 4 rfl trivial ?_
    obtain ⟨g4, h⟩ := grd h
    replace h := bnd h; obtain ⟨x8, hxx8, h⟩ := h
    refine WR.q [] rfl rfl rfl (q_idx tbOk rfl tr g4 (map_get (f := eStr) hxx8)) ?_
    refine wr 3 rfl trivial ?_
    obtain ⟨g5, h⟩ := grd h
    replace h := bnd h; obtain ⟨x9, hxx9, h⟩ := h
    refine WR.q [] rfl rfl rfl (q_idx tbOk rfl tr g5 (map_get (f := eInt_i64) hxx9)) ?_
    refine wr 3 rfl trivial ?_
    obtain ⟨g6, h⟩ := grd h
    refine WR.append tbOk ((c4_16 ++ [(⟨x8, x9⟩ : ApiMaterial)]).map eApiMaterial) [53, 2201] ap29 rfl rfl rfl rfl (fun _ e => by cases e; rfl) tr (map_cells (f := eApiMaterial) (xs := [(⟨x8, x9⟩ : ApiMaterial)]) fun _ => rfl) (by have := g6; simp only [List.length_map, List.length_nil, List.length_cons] at this ⊢; omega) rfl rfl (by simp only [List.map_append]; try rfl) rfl rfl ?_
    refine wr 2 rfl trivial ?_
    refine WR.nil (by kernel_rfl) (bn (WC.region (lr3 rfl (WL.nil ?_))))
    cases h
    exact WQ.next [(2201, 53)] ((IntKind.i64.wrap (i4 + (1 : Int))), (c4_16 ++ [(⟨x8, x9⟩ : ApiMaterial)])) sub (hn2 _ hf2)
   ·replace h := ite_f hc4 h
    refine WC.exit (WQ.thenExit ?_)
    cases h
    have he := he2 _ hf2
    subst he
    replace h := hk2
    try dsimp only at h
    refine eb ?_
    exact WQ.cut [] (c4_16, v12.2.L, v12.2.I) sub h
  ·replace h := ite_f hc3 h
   refine WC.skip ?_
   refine WQ.rowNilB 4 1 2201 70 2 rfl rfl rfl (cs2 := [.v (.sl 1 (v2.1.map eStr)), .r 2201, .v (.raw (.slice none 0 0)), .v (.bool (v3.1 == (1 : Int)))]) rfl ?_
   exact WQ.cut [] ([], v4.2.L, v4.2.I) sub h
 ·rintro ⟨c4_1, c14_0, c14_1⟩ h
  replace h : madeGood_j1 v2 v3 c4_1 c14_0 c14_1 = some _ := h
  unfold madeGood_j1 at h
  try dsimp only
  refine WC.seq (sr (lr1 rfl ?_))
  replace h := bnd h; obtain ⟨v5, hvv5, h⟩ := h
  refine WL.callO [(0, 14)] [(0, 14)] [14] fn25 rfl rfl rfl rfl tr (srcNext_con hw hvv5) rfl rfl eqs rfl rfl rfl rfl rfl rfl ?_
  refine lr1 rfl (nn ?_)
  refine WC.thenCut (X := (List ApiMaterial) × (List ApiComponent)) (fun gG => ⟨[(4, .p 4 0), (2, .p 2 0)], [(2, .blk 32 [.v (.raw (.slice none 0 0)), .v (.raw (.slice none 0 0)), .v (.raw (.slice none 0 0)), .v (.bool false)]), (2201, .row 70 2 (gG.1.map eApiMaterial)), (2202, .row 72 2 (gG.2.map eApiComponent)), (4, .blk 32 [.v (.sl 1 (v2.1.map eStr)), .r 2201, .r 2202, .v (.bool (v3.1 == (1 : Int)))])]⟩) (fun gG => madeGood_j2 v2 v3 gG.1 gG.2 = some r) ?_ ?_
  ·refine WC.cond rfl (fun hc1 => ?_) (fun hc1 => ?_)
   ·replace h := ite_t hc1 h
    refine sr (lr2 rfl ?_)
    replace h := bnd h; obtain ⟨v6, hvv6, h⟩ := h
    refine WL.callO [(0, 14)] [(0, 14)] [14] fn25 rfl rfl rfl rfl tr (srcNext_con hw hvv6) rfl rfl eqs rfl rfl rfl rfl rfl rfl ?_
    refine lr1 rfl ?_
    replace h := bnd h; obtain ⟨v7, hvv7, h⟩ := h
    refine WL.callO [(0, 14)] [(0, 14)] [14] fn28 rfl rfl rfl rfl tr (srcShares_con hw hvv7) rfl rfl eqs rfl rfl rfl rfl rfl rfl ?_
    refine lr1 rfl (ns (lr1 rfl (nn (WC.block ?_))))
    obtain ⟨eQ1, hl1, hk1⟩ := bnd h
    clear h
    refine WC.rowNilB 4 2 2202 72 2 rfl rfl rfl (cs2 := [.v (.sl 1 (v2.1.map eStr)), .r 2201, .r 2202, .v (.bool (v3.1 == (1 : Int)))]) rfl ?_
    refine WC.loop (σ := Int × (List ApiMaterial) × (List ApiComponent) × (List Int) × Int) (τ := ((List ApiMaterial) × (List ApiComponent))) (fun sS => ⟨[(10, .v (.int .i64 sS.1)), (9, .v (.sl 1 (v7.1.map eInt_i64))), (4, .p 4 0), (3, .p 14 0), (2, .p 2 0)], [(2, .blk 32 [.v (.raw (.slice none 0 0)), .v (.raw (.slice none 0 0)), .v (.raw (.slice none 0 0)), .v (.bool false)]), (2201, .row 70 2 (sS.2.1.map eApiMaterial)), (2202, .row 72 2 (sS.2.2.1.map eApiComponent)), (4, .blk 32 [.v (.sl 1 (v2.1.map eStr)), .r 2201, .r 2202, .v (.bool (v3.1 == (1 : Int)))]), (14, .blk 63 [.v (.sl 1 (sS.2.2.2.1.map eInt_i64)), .v (.int .i64 sS.2.2.2.2)])]⟩) (madeGood_b1 v2 v3 v7) [] ((0 : Int), c4_1, [], v7.2.L, v7.2.I) hl1 sub ?_
    rintro ⟨i2, c4_14, c4_22, c14_03, c14_13⟩ m hn1 he1 hx1
    obtain ⟨o1, hf1⟩ := some_of hx1
    have h := hf1
    unfold madeGood_b1 at h
    try dsimp only
    refine WC.seq (sr (lr2 rfl ?_))
    refine WL.q [] rfl rfl rfl (q_ev tbOk (.v (.int .i64 (v7.1.length : Int))) rfl tr lenT) ?_
    refine lr1 rfl (nn ?_)
    refine WC.cond rfl (fun hc2 => ?_) (fun hc2 => ?_)
    ·replace h := ite_t hc2 h
     refine kn (sb (WC.order mixed ?_))
     refine wr 3 rfl trivial ?_
     replace h := bnd h; obtain ⟨v10, hvv10, h⟩ := h
     refine WR.callO [(0, 14)] [(0, 14)] [14] fn26 rfl rfl rfl rfl tr (srcWords_con hw hvv10) rfl rfl eqs rfl rfl rfl rfl rfl rfl ?_
     refine wr 2 rfl trivial ?_
     obtain ⟨g1, h⟩ := grd h
     replace h := bnd h; obtain ⟨x3, hxx3, h⟩ := h
     refine WR.q [] rfl rfl rfl (q_idx tbOk rfl tr g1 (map_get (f := eInt_i64) hxx3)) ?_
     refine wr 3 rfl trivial ?_
     obtain ⟨g2, h⟩ := grd h
     refine WR.append tbOk ((c4_22 ++ [(⟨v10.1, x3⟩ : ApiComponent)]).map eApiComponent) [79, 2202] ap30 rfl rfl rfl rfl (fun _ e => by cases e; rfl) tr (map_cells (f := eApiComponent) (xs := [(⟨v10.1, x3⟩ : ApiComponent)]) fun _ => rfl) (by have := g2; simp only [List.length_map, List.length_nil, List.length_cons] at this ⊢; omega) rfl rfl (by simp only [List.map_append]; try rfl) rfl rfl ?_
     refine wr 2 rfl trivial ?_
     refine WR.nil (by kernel_rfl) (bn (WC.region (lr3 rfl (WL.nil ?_))))
     cases h
     exact WQ.next [(2202, 79)] ((IntKind.i64.wrap (i2 + (1 : Int))), c4_14, (c4_22 ++ [(⟨v10.1, x3⟩ : ApiComponent)]), v10.2.L, v10.2.I) sub (hn1 _ hf1)
    ·replace h := ite_f hc2 h
     refine WC.exit (WQ.thenExit ?_)
     cases h
     have he := he1 _ hf1
     subst he
     replace h := hk1
     try dsimp only at h
     refine eb ?_
     exact WQ.cut [] (c4_14, c4_22) sub h
   ·replace h := ite_f hc1 h
    refine WC.skip ?_
    refine WQ.rowNilB 4 2 2202 72 2 rfl rfl rfl (cs2 := [.v (.sl 1 (v2.1.map eStr)), .r 2201, .r 2202, .v (.bool (v3.1 == (1 : Int)))]) rfl ?_
    exact WQ.cut [] (c4_1, []) sub h
  ·rintro ⟨c4_12, c4_2⟩ h
   replace h : madeGood_j2 v2 v3 c4_12 c4_2 = some _ := h
   unfold madeGood_j2 at h
   try dsimp only
   refine WC.seq ?_
   refine WC.publish 2201 rfl rfl ?_
   refine WC.publish 2202 rfl rfl ?_
   refine WC.region (lr2 rfl (nr ?_))
   cases h
   exact rt tbOk hR
theorem srcTerms_con {wg : World} (hw : WG wg) {s : CustomsmadeSource} {r : (List (List Str)) × CustomsmadeSource} (h : srcTerms s = some r) : Con Tryz.prog wg gl 52 [.p 0 0] [(0, .blk 63 [.v (.sl 1 (s.L.map eInt_i64)), .v (.int .i64 s.I)])] (.v (.sl 1 (r.1.map eLStr))) [(0, .blk 63 [.v (.sl 1 (r.2.L.map eInt_i64)), .v (.int .i64 r.2.I)])] := by
 unfold srcTerms at h
 refine cw Tryz.func52 Tryz.ntmps52 ?_
 intro F L w ρ0 R hR
 try dsimp only [slotsOf]
 refine sr (lr1 rfl (ns (lr1 rfl ?_)))
 replace h := bnd h; obtain ⟨v, hvv, h⟩ := h
 refine WL.callO [(0, 0)] [(0, 0)] [0] fn26 rfl rfl rfl rfl tr (srcWords_con hw hvv) rfl rfl eqs rfl rfl rfl rfl rfl rfl ?_
 refine WL.buildRow tbOk ([v.1].map eLStr) rfl rfl rfl rfl tr rfl rfl ?_
 refine lr1 rfl (nn (WC.seq (sr (lr1 rfl ?_))))
 replace h := bnd h; obtain ⟨v2, hvv2, h⟩ := h
 refine WL.callO [(0, 0)] [(0, 0)] [0] fn25 rfl rfl rfl rfl tr (srcNext_con hw hvv2) rfl rfl eqs rfl rfl rfl rfl rfl rfl ?_
 refine lr1 rfl (nn ?_)
 refine WC.thenCut (X := (List (List Str)) × (List Int) × Int) (fun gG => ⟨[(3, .r 1003), (0, .p 0 0)], [(1003, .row 28 1 (gG.1.map eLStr)), (0, .blk 63 [.v (.sl 1 (gG.2.1.map eInt_i64)), .v (.int .i64 gG.2.2)])]⟩) (fun gG => srcTerms_j1 gG.1 gG.2.1 gG.2.2 = some r) ?_ ?_
 ·refine WC.cond rfl (fun hc1 => ?_) (fun hc1 => ?_)
  ·replace h := ite_t hc1 h
   refine WC.region (lr2 rfl ?_)
   replace h := bnd h; obtain ⟨v3, hvv3, h⟩ := h
   refine WL.callO [(0, 0)] [(0, 0)] [0] fn26 rfl rfl rfl rfl tr (srcWords_con hw hvv3) rfl rfl eqs rfl rfl rfl rfl rfl rfl ?_
   refine lr1 rfl ?_
   obtain ⟨g1, h⟩ := grd h
   refine WL.append tbOk (([v.1] ++ [v3.1]).map eLStr) [14, 6] ap51 rfl rfl rfl rfl (fun _ e => by cases e; rfl) tr (map_cells (f := eLStr) (xs := [v3.1]) fun _ => rfl) (by have := g1; simp only [List.length_map, List.length_nil, List.length_cons] at this ⊢; omega) rfl rfl (by simp only [List.map_append]; try rfl) rfl ?_
   refine lr1 rfl (WL.nil ?_)
   exact WQ.cut [(1003, 14)] (([v.1] ++ [v3.1]), v3.2.L, v3.2.I) sub h
  ·replace h := ite_f hc1 h
   refine WC.skip ?_
   exact WQ.cut [(1003, 6)] ([v.1], v2.2.L, v2.2.I) sub h
 ·rintro ⟨out, c0_0, c0_1⟩ h
  replace h : srcTerms_j1 out c0_0 c0_1 = some _ := h
  unfold srcTerms_j1 at h
  try dsimp only
  refine sr (lr2 rfl (nr ?_))
  refine WQ.publish 1003 rfl rfl ?_
  cases h
  exact rt tbOk hR
theorem srcEntry_n_con {wg : World} (hw : WG wg) (n : Nat) : ∀ {s : CustomsmadeSource} {code : Str} {end_ : Int} {r : (List ApiCodeEntry) × CustomsmadeSource} (h : srcEntry_n n s code end_ = some r), Con Tryz.prog wg gl 27 [.p 0 0, .v (.str code), .v (.int .i64 end_)] [(0, .blk 63 [.v (.sl 1 (s.L.map eInt_i64)), .v (.int .i64 s.I)])] (.v (.sl 5 (r.1.map eApiCodeEntry))) [(0, .blk 63 [.v (.sl 1 (r.2.L.map eInt_i64)), .v (.int .i64 r.2.I)])] := by
 induction n with
 | zero => intros; rename_i h; cases h
 | succ n ih =>
 intro s code end_ r h
 replace h : srcEntry_F (srcEntry_n n) s code end_ = some r := h
 unfold srcEntry_F at h
 refine cw Tryz.func27 Tryz.ntmps27 ?_
 intro F L w ρ0 R hR
 try dsimp only [slotsOf]
 refine sr (lr1 rfl (ns (lr5 rfl (ns (lr1 rfl (nn (WC.seq (sr (lr3 rfl (nn ?_))))))))))
 refine WC.thenCut (X := (List Int) × Int × (List (List Str))) (fun gG => ⟨[(8, .v (.raw (.slice none 0 0))), (7, .p 7 0), (0, .p 0 0), (1, .v (.str code)), (2, .v (.int .i64 end_))], [(0, .blk 63 [.v (.sl 1 (gG.1.map eInt_i64)), .v (.int .i64 gG.2.1)]), (7, .blk 53 [.v (.str code), .v (.int .i64 (0 : Int)), .v (.int .i64 end_), .v (.sl 1 (gG.2.2.map eLStr)), .v (.bool false)])]⟩) (fun gG => srcEntry_j1 (srcEntry_n n) code end_ gG.1 gG.2.1 gG.2.2 = some r) ?_ ?_
 ·refine WC.cond rfl (fun hc13 => ?_) (fun hc13 => ?_)
  ·replace h := ite_t hc13 h
   refine WC.region (lr1 rfl ?_)
   replace h := bnd h; obtain ⟨v12, hvv12, h⟩ := h
   refine WL.callO [(0, 0)] [(0, 0)] [0] fn52 rfl rfl rfl rfl tr (srcTerms_con hw hvv12) rfl rfl eqs rfl rfl rfl rfl rfl rfl ?_
   refine lr2 rfl (WL.nil ?_)
   exact WQ.cut [] (v12.2.L, v12.2.I, v12.1) sub h
  ·replace h := ite_f hc13 h
   refine WC.skip ?_
   refine WQ.weakenO 7 (.blk 53 [.v (.str code), .v (.int .i64 (0 : Int)), .v (.int .i64 end_), .v (.sl 1 ([].map eLStr)), .v (.bool false)]) rfl (LeO.blk (.cons (Le.refl _) (.cons (Le.refl _) (.cons (Le.refl _) (.cons (Le.nil 1) (.cons (Le.refl _) .nil)))))) rfl ?_
   exact WQ.cut [] (s.L, s.I, []) sub h
 ·rintro ⟨c0_0, c0_1, c7_3⟩ h
  replace h : srcEntry_j1 (srcEntry_n n) code end_ c0_0 c0_1 c7_3 = some _ := h
  unfold srcEntry_j1 at h
  try dsimp only
  refine WC.seq (WC.seq ?_)
  by_cases hk1 : (decide ((4 : Int) < (code.length : Int))) = true
  ·replace h := ifp hk1 h
   refine WC.region (lr4 rfl ?_)
   refine WL.ungd rfl rfl hk1 ?_
   refine lr1 rfl ?_
   refine WL.ungd rfl rfl hk1 ?_
   replace h := bnd h; obtain ⟨v, hvv, h⟩ := h
   refine WL.callO [(0, 0)] [(0, 0)] [0] fn25 rfl rfl rfl rfl tr (srcNext_con hw hvv) rfl rfl eqs rfl rfl rfl rfl rfl rfl ?_
   refine WL.ungd rfl rfl hk1 ?_
   refine lr 2 rfl sideR ?_
   refine nn ?_
   refine WC.thenCut (X := (List (List Str)) × Bool) (fun gG => ⟨[(8, .v (.raw (.slice none 0 0))), (7, .p 7 0), (0, .p 0 0), (1, .v (.str code)), (2, .v (.int .i64 end_))], [(0, .blk 63 [.v (.sl 1 (v.2.L.map eInt_i64)), .v (.int .i64 v.2.I)]), (7, .blk 53 [.v (.str code), .v (.int .i64 (0 : Int)), .v (.int .i64 end_), .v (.sl 1 (gG.1.map eLStr)), .v (.bool gG.2)])]⟩) (fun gG => srcEntry_j2 (srcEntry_n n) code end_ v gG.1 gG.2 = some r) ?_ ?_
   ·refine WC.cond rfl (fun hc6 => ?_) (fun hc6 => ?_)
    ·replace h := ite_t hc6 h
     refine WC.region (lr4 rfl (WL.nil ?_))
     refine WQ.weakenO 7 (.blk 53 [.v (.str code), .v (.int .i64 (0 : Int)), .v (.int .i64 end_), .v (.sl 1 ([].map eLStr)), .v (.bool true)]) rfl (LeO.blk (.cons (Le.refl _) (.cons (Le.refl _) (.cons (Le.refl _) (.cons (Le.nil 1) (.cons (Le.refl _) .nil)))))) rfl ?_
     exact WQ.cut [] ([], true) sub h
    ·replace h := ite_f hc6 h
     refine WC.skip ?_
     exact WQ.cut [] (c7_3, false) sub h
   ·rintro ⟨c7_32, c7_4⟩ h
    replace h : srcEntry_j2 (srcEntry_n n) code end_ v c7_32 c7_4 = some _ := h
    unfold srcEntry_j2 at h
    try dsimp only
    refine WC.seq (sr ?_)
    refine lr 7 rfl sideR ?_
    refine nn ?_
    refine WC.thenCut (X := (List ApiCodeEntry) × (List Int) × Int × Int × Int) (fun gG => ⟨[(8, .r 1008), (7, .p 7 0), (0, .p 0 0), (1, .v (.str code))], [(1008, .row 53 5 (gG.1.map eApiCodeEntry)), (0, .blk 63 [.v (.sl 1 (gG.2.1.map eInt_i64)), .v (.int .i64 gG.2.2.1)]), (7, .blk 53 [.v (.str code), .v (.int .i64 gG.2.2.2.1), .v (.int .i64 gG.2.2.2.2), .v (.sl 1 (c7_32.map eLStr)), .v (.bool c7_4)])]⟩) (fun gG => srcEntry_j3 (srcEntry_n n) code c7_32 c7_4 gG.1 gG.2.1 gG.2.2.1 gG.2.2.2.1 gG.2.2.2.2 = some r) ?_ ?_
    ·refine WC.cond rfl (fun hc3 => ?_) (fun hc3 => ?_)
     ·replace h := ite_t hc3 h
      refine sr (lr1 rfl ?_)
      replace h := bnd h; obtain ⟨v5, hvv5, h⟩ := h
      refine WL.callO [(0, 0)] [(0, 0)] [0] fn25 rfl rfl rfl rfl tr (srcNext_con hw hvv5) rfl rfl eqs rfl rfl rfl rfl rfl rfl ?_
      refine nn (WC.block (sr (lr2 rfl (nn ?_))))
      refine WC.cond rfl (fun hc4 => ?_) (fun hc4 => ?_)
      ·replace h := ite_t hc4 h
       refine sr (lr3 rfl (ns (lr4 rfl (ns (lr1 rfl ?_)))))
       replace h := bnd h; obtain ⟨v6, hvv6, h⟩ := h
       refine WL.callO [(0, 0)] [(0, 0)] [0] fn52 rfl rfl rfl rfl tr (srcTerms_con hw hvv6) rfl rfl eqs rfl rfl rfl rfl rfl rfl ?_
       refine lr2 rfl (ns (lr2 rfl (nn (WC.region (lr3 rfl ?_)))))
       obtain ⟨g5, h⟩ := grd h
       refine WL.append tbOk ([(⟨code, (0 : Int), (10 : Int), v6.1, false⟩ : ApiCodeEntry)].map eApiCodeEntry) [52] ap23 rfl rfl rfl rfl (fun _ e => by cases e) tr (map_cells (f := eApiCodeEntry) (xs := [(⟨code, (0 : Int), (10 : Int), v6.1, false⟩ : ApiCodeEntry)]) fun _ => rfl) (by have := g5; simp only [List.length_map, List.length_nil, List.length_cons] at this ⊢; omega) rfl rfl rfl rfl ?_
       refine lr1 rfl (WL.nil (WQ.blockNormal ?_))
       exact WQ.cut [(1008, 52)] ([(⟨code, (0 : Int), (10 : Int), v6.1, false⟩ : ApiCodeEntry)], v6.2.L, v6.2.I, (10 : Int), end_) sub h
      ·replace h := ite_f hc4 h
       refine sr (lr2 rfl (nn ?_))
       refine WC.cond rfl (fun hc5 => ?_) (fun hc5 => ?_)
       ·replace h := ite_t hc5 h
        refine WC.region (lr2 rfl (WL.nil (WQ.blockNormal ?_)))
        refine WQ.rowNil 8 1008 53 5 rfl rfl ?_
        exact WQ.cut [] ([], v5.2.L, v5.2.I, (0 : Int), (12 : Int)) sub h
       ·replace h := ite_f hc5 h
        refine WC.skip (WQ.blockNormal ?_)
        refine WQ.rowNil 8 1008 53 5 rfl rfl ?_
        exact WQ.cut [] ([], v5.2.L, v5.2.I, (0 : Int), end_) sub h
     ·replace h := ite_f hc3 h
      refine WC.skip ?_
      refine WQ.rowNil 8 1008 53 5 rfl rfl ?_
      exact WQ.cut [] ([], v.2.L, v.2.I, (0 : Int), end_) sub h
    ·rintro ⟨out, c0_02, c0_12, c7_1, c7_2⟩ h
     replace h : srcEntry_j3 (srcEntry_n n) code c7_32 c7_4 out c0_02 c0_12 c7_1 c7_2 = some _ := h
     unfold srcEntry_j3 at h
     try dsimp only
     refine sr (lr3 rfl ?_)
     obtain ⟨g1, h⟩ := grd h
     refine WL.append tbOk ((out ++ [(⟨code, c7_1, c7_2, c7_32, c7_4⟩ : ApiCodeEntry)]).map eApiCodeEntry) [59, 1008] ap23 rfl rfl rfl rfl (fun _ e => by cases e; rfl) tr (map_cells (f := eApiCodeEntry) (xs := [(⟨code, c7_1, c7_2, c7_32, c7_4⟩ : ApiCodeEntry)]) fun _ => rfl) (by have := g1; simp only [List.length_map, List.length_nil, List.length_cons] at this ⊢; omega) rfl rfl (by simp only [List.map_append]; try rfl) rfl ?_
     refine lr1 rfl (nn (WC.seq (sr (lr3 rfl (nn ?_)))))
     refine WC.cond rfl (fun hc1 => ?_) (fun hc1 => ?_)
     ·replace h := ite_t hc1 h
      refine sr (lr2 rfl (nr (WQ.thenRet ?_)))
      refine WQ.publish 59 rfl rfl ?_
      cases h
      exact rt tbOk hR
     ·replace h := ite_f hc1 h
      refine kn (WC.seq (sr (lr1 rfl ?_)))
      replace h := bnd h; obtain ⟨v2, hvv2, h⟩ := h
      refine WL.callO [(0, 0)] [(0, 0)] [0] fn25 rfl rfl rfl rfl tr (srcNext_con hw hvv2) rfl rfl eqs rfl rfl rfl rfl rfl rfl ?_
      refine lr2 rfl (nn ?_)
      refine WC.thenCut (X := (List ApiCodeEntry) × (List Int) × Int) (fun gG => ⟨[(8, .r 1008), (0, .p 0 0)], [(1008, .row 53 5 (gG.1.map eApiCodeEntry)), (0, .blk 63 [.v (.sl 1 (gG.2.1.map eInt_i64)), .v (.int .i64 gG.2.2)])]⟩) (fun gG => srcEntry_j4 (srcEntry_n n) gG.1 gG.2.1 gG.2.2 = some r) ?_ ?_
      ·refine WC.block ?_
       obtain ⟨eQ1, hl1, hk1⟩ := bnd h
       clear h
       refine WC.loop (σ := Int × (List ApiCodeEntry) × (List Int) × Int) (τ := ((List ApiCodeEntry) × (List Int) × Int)) (fun sS => ⟨[(11, .v (.int .i64 v2.1)), (10, .v (.int .i64 sS.1)), (8, .r 1008), (7, .p 7 0), (0, .p 0 0), (1, .v (.str code))], [(1008, .row 53 5 (sS.2.1.map eApiCodeEntry)), (0, .blk 63 [.v (.sl 1 (sS.2.2.1.map eInt_i64)), .v (.int .i64 sS.2.2.2)]), (7, .blk 53 [.v (.str code), .v (.int .i64 c7_1), .v (.int .i64 c7_2), .v (.sl 1 (c7_32.map eLStr)), .v (.bool c7_4)])]⟩) (srcEntry_b1 (srcEntry_n n) code c7_32 c7_4 c7_1 c7_2 v2) [(1008, 59)] ((1 : Int), (out ++ [(⟨code, c7_1, c7_2, c7_32, c7_4⟩ : ApiCodeEntry)]), v2.2.L, v2.2.I) hl1 sub ?_
       rintro ⟨i, out3, c0_04, c0_14⟩ m hn1 he1 hx1
       obtain ⟨o1, hf1⟩ := some_of hx1
       have h := hf1
       unfold srcEntry_b1 at h
       try dsimp only
       refine WC.seq (sr (lr3 rfl (nn ?_)))
       refine WC.cond rfl (fun hc2 => ?_) (fun hc2 => ?_)
       ·replace h := ite_t hc2 h
        refine kn (sb (WC.region ?_))
        obtain ⟨g2, h⟩ := grd h
        refine lr 8 rfl (by repeat' (first | exact trivial | assumption | intro _ | exact g2 (by assumption) | apply And.intro | exact sideT | (refine and_i ?_ ?_))) ?_
        refine WL.q [] rfl rfl rfl (q_b2s tbOk (xs := [(IntKind.u8.wrap (IntKind.i64.wrap ((48 : Int) + i)))]) by86 rfl tr) ?_
        obtain ⟨g3, h⟩ := grd h
        refine lr 3 rfl (by repeat' (first | exact trivial | assumption | intro _ | exact g3 (by assumption) | apply And.intro | exact sideT | (refine and_i ?_ ?_))) ?_
        replace h := bnd h; obtain ⟨v4, hvv4, h⟩ := h
        refine WL.callO [(0, 0)] [(0, 0)] [0] fn27 rfl rfl rfl rfl tr (ih hvv4) rfl rfl eqs rfl rfl rfl rfl rfl rfl ?_
        obtain ⟨g4, h⟩ := grd h
        refine WL.append tbOk ((out3 ++ v4.1).map eApiCodeEntry) [84, 1008] ap23 rfl rfl rfl rfl (fun _ e => by cases e; rfl) tr (map_cells (f := eApiCodeEntry) (xs := v4.1) fun _ => rfl) (by have := g4; simp only [List.length_map, List.length_nil, List.length_cons] at this ⊢; omega) rfl rfl (by simp only [List.map_append]; try rfl) rfl ?_
        refine lr1 rfl (WL.nil (bn (WC.region (lr3 rfl (WL.nil ?_)))))
        cases h
        exact WQ.next [(1008, 84)] ((IntKind.i64.wrap (i + (1 : Int))), (out3 ++ v4.1), v4.2.L, v4.2.I) sub (hn1 _ hf1)
       ·replace h := ite_f hc2 h
        refine WC.exit (WQ.thenExit ?_)
        cases h
        have he := he1 _ hf1
        subst he
        replace h := hk1
        try dsimp only at h
        refine eb ?_
        exact WQ.cut [] (out3, c0_04, c0_14) sub h
      ·rintro ⟨out2, c0_03, c0_13⟩ h
       replace h : srcEntry_j4 (srcEntry_n n) out2 c0_03 c0_13 = some _ := h
       unfold srcEntry_j4 at h
       try dsimp only
       refine sr (lr2 rfl (nr ?_))
       refine WQ.publish 1008 rfl rfl ?_
       cases h
       exact rt tbOk hR
  ·replace h := ifn hk1 h
   refine WC.region (lr4 rfl ?_)
   refine WL.skipg (.v (.raw (.nilIface))) rfl rfl rfl rfl (Bool.eq_false_iff.2 hk1) ?_
   refine WL.skipg (.v (.raw (.nilIface))) rfl rfl rfl rfl (Bool.eq_false_iff.2 hk1) ?_
   refine WL.skipg (.v (.bool false)) rfl rfl rfl rfl (Bool.eq_false_iff.2 hk1) ?_
   refine lr 1 rfl (by repeat' (first | exact trivial | assumption | intro _ | (exact absurd (by assumption) hk1) | (exfalso; simp_all; done) | apply And.intro | exact sideT | (refine and_i ?_ ?_))) ?_
   refine nn ?_
   refine WC.thenCut (X := (List (List Str)) × Bool) (fun gG => ⟨[(8, .v (.raw (.slice none 0 0))), (7, .p 7 0), (0, .p 0 0), (1, .v (.str code)), (2, .v (.int .i64 end_))], [(0, .blk 63 [.v (.sl 1 (c0_0.map eInt_i64)), .v (.int .i64 c0_1)]), (7, .blk 53 [.v (.str code), .v (.int .i64 (0 : Int)), .v (.int .i64 end_), .v (.sl 1 (gG.1.map eLStr)), .v (.bool gG.2)])]⟩) (fun gG => srcEntry_j5 (srcEntry_n n) code end_ c0_0 c0_1 gG.1 gG.2 = some r) ?_ ?_
   ·refine WC.cond rfl (fun hc12 => ?_) (fun hc12 => ?_)
    ·replace h := ite_t hc12 h
     refine WC.region (lr4 rfl (WL.nil ?_))
     refine WQ.weakenO 7 (.blk 53 [.v (.str code), .v (.int .i64 (0 : Int)), .v (.int .i64 end_), .v (.sl 1 ([].map eLStr)), .v (.bool true)]) rfl (LeO.blk (.cons (Le.refl _) (.cons (Le.refl _) (.cons (Le.refl _) (.cons (Le.nil 1) (.cons (Le.refl _) .nil)))))) rfl ?_
     exact WQ.cut [] ([], true) sub h
    ·replace h := ite_f hc12 h
     refine WC.skip ?_
     exact WQ.cut [] (c7_3, false) sub h
   ·rintro ⟨c7_33, c7_42⟩ h
    replace h : srcEntry_j5 (srcEntry_n n) code end_ c0_0 c0_1 c7_33 c7_42 = some _ := h
    unfold srcEntry_j5 at h
    try dsimp only
    refine WC.seq (sr ?_)
    refine lr 7 rfl sideR ?_
    refine nn ?_
    refine WC.thenCut (X := (List ApiCodeEntry) × (List Int) × Int × Int × Int) (fun gG => ⟨[(8, .r 1008), (7, .p 7 0), (0, .p 0 0), (1, .v (.str code))], [(1008, .row 53 5 (gG.1.map eApiCodeEntry)), (0, .blk 63 [.v (.sl 1 (gG.2.1.map eInt_i64)), .v (.int .i64 gG.2.2.1)]), (7, .blk 53 [.v (.str code), .v (.int .i64 gG.2.2.2.1), .v (.int .i64 gG.2.2.2.2), .v (.sl 1 (c7_33.map eLStr)), .v (.bool c7_42)])]⟩) (fun gG => srcEntry_j6 (srcEntry_n n) code c7_33 c7_42 gG.1 gG.2.1 gG.2.2.1 gG.2.2.2.1 gG.2.2.2.2 = some r) ?_ ?_
    ·refine WC.cond rfl (fun hc9 => ?_) (fun hc9 => ?_)
     ·replace h := ite_t hc9 h
      refine sr (lr1 rfl ?_)
      replace h := bnd h; obtain ⟨v10, hvv10, h⟩ := h
      refine WL.callO [(0, 0)] [(0, 0)] [0] fn25 rfl rfl rfl rfl tr (srcNext_con hw hvv10) rfl rfl eqs rfl rfl rfl rfl rfl rfl ?_
      refine nn (WC.block (sr (lr2 rfl (nn ?_))))
      refine WC.cond rfl (fun hc10 => ?_) (fun hc10 => ?_)
      ·replace h := ite_t hc10 h
       refine sr (lr3 rfl (ns (lr4 rfl (ns (lr1 rfl ?_)))))
       replace h := bnd h; obtain ⟨v11, hvv11, h⟩ := h
       refine WL.callO [(0, 0)] [(0, 0)] [0] fn52 rfl rfl rfl rfl tr (srcTerms_con hw hvv11) rfl rfl eqs rfl rfl rfl rfl rfl rfl ?_
       refine lr2 rfl (ns (lr2 rfl (nn (WC.region (lr3 rfl ?_)))))
       obtain ⟨g10, h⟩ := grd h
       refine WL.append tbOk ([(⟨code, (0 : Int), (10 : Int), v11.1, false⟩ : ApiCodeEntry)].map eApiCodeEntry) [52] ap23 rfl rfl rfl rfl (fun _ e => by cases e) tr (map_cells (f := eApiCodeEntry) (xs := [(⟨code, (0 : Int), (10 : Int), v11.1, false⟩ : ApiCodeEntry)]) fun _ => rfl) (by have := g10; simp only [List.length_map, List.length_nil, List.length_cons] at this ⊢; omega) rfl rfl rfl rfl ?_
       refine lr1 rfl (WL.nil (WQ.blockNormal ?_))
       exact WQ.cut [(1008, 52)] ([(⟨code, (0 : Int), (10 : Int), v11.1, false⟩ : ApiCodeEntry)], v11.2.L, v11.2.I, (10 : Int), end_) sub h
      ·replace h := ite_f hc10 h
       refine sr (lr2 rfl (nn ?_))
       refine WC.cond rfl (fun hc11 => ?_) (fun hc11 => ?_)
       ·replace h := ite_t hc11 h
        refine WC.region (lr2 rfl (WL.nil (WQ.blockNormal ?_)))
        refine WQ.rowNil 8 1008 53 5 rfl rfl ?_
        exact WQ.cut [] ([], v10.2.L, v10.2.I, (0 : Int), (12 : Int)) sub h
       ·replace h := ite_f hc11 h
        refine WC.skip (WQ.blockNormal ?_)
        refine WQ.rowNil 8 1008 53 5 rfl rfl ?_
        exact WQ.cut [] ([], v10.2.L, v10.2.I, (0 : Int), end_) sub h
     ·replace h := ite_f hc9 h
      refine WC.skip ?_
      refine WQ.rowNil 8 1008 53 5 rfl rfl ?_
      exact WQ.cut [] ([], c0_0, c0_1, (0 : Int), end_) sub h
    ·rintro ⟨out6, c0_07, c0_17, c7_12, c7_22⟩ h
     replace h : srcEntry_j6 (srcEntry_n n) code c7_33 c7_42 out6 c0_07 c0_17 c7_12 c7_22 = some _ := h
     unfold srcEntry_j6 at h
     try dsimp only
     refine sr (lr3 rfl ?_)
     obtain ⟨g6, h⟩ := grd h
     refine WL.append tbOk ((out6 ++ [(⟨code, c7_12, c7_22, c7_33, c7_42⟩ : ApiCodeEntry)]).map eApiCodeEntry) [59, 1008] ap23 rfl rfl rfl rfl (fun _ e => by cases e; rfl) tr (map_cells (f := eApiCodeEntry) (xs := [(⟨code, c7_12, c7_22, c7_33, c7_42⟩ : ApiCodeEntry)]) fun _ => rfl) (by have := g6; simp only [List.length_map, List.length_nil, List.length_cons] at this ⊢; omega) rfl rfl (by simp only [List.map_append]; try rfl) rfl ?_
     refine lr1 rfl (nn (WC.seq (sr (lr3 rfl (nn ?_)))))
     refine WC.cond rfl (fun hc7 => ?_) (fun hc7 => ?_)
     ·replace h := ite_t hc7 h
      refine sr (lr2 rfl (nr (WQ.thenRet ?_)))
      refine WQ.publish 59 rfl rfl ?_
      cases h
      exact rt tbOk hR
     ·replace h := ite_f hc7 h
      refine kn (WC.seq (sr (lr1 rfl ?_)))
      replace h := bnd h; obtain ⟨v7, hvv7, h⟩ := h
      refine WL.callO [(0, 0)] [(0, 0)] [0] fn25 rfl rfl rfl rfl tr (srcNext_con hw hvv7) rfl rfl eqs rfl rfl rfl rfl rfl rfl ?_
      refine lr2 rfl (nn ?_)
      refine WC.thenCut (X := (List ApiCodeEntry) × (List Int) × Int) (fun gG => ⟨[(8, .r 1008), (0, .p 0 0)], [(1008, .row 53 5 (gG.1.map eApiCodeEntry)), (0, .blk 63 [.v (.sl 1 (gG.2.1.map eInt_i64)), .v (.int .i64 gG.2.2)])]⟩) (fun gG => srcEntry_j7 (srcEntry_n n) gG.1 gG.2.1 gG.2.2 = some r) ?_ ?_
      ·refine WC.block ?_
       obtain ⟨eQ2, hl2, hk2⟩ := bnd h
       clear h
       refine WC.loop (σ := Int × (List ApiCodeEntry) × (List Int) × Int) (τ := ((List ApiCodeEntry) × (List Int) × Int)) (fun sS => ⟨[(11, .v (.int .i64 v7.1)), (10, .v (.int .i64 sS.1)), (8, .r 1008), (7, .p 7 0), (0, .p 0 0), (1, .v (.str code))], [(1008, .row 53 5 (sS.2.1.map eApiCodeEntry)), (0, .blk 63 [.v (.sl 1 (sS.2.2.1.map eInt_i64)), .v (.int .i64 sS.2.2.2)]), (7, .blk 53 [.v (.str code), .v (.int .i64 c7_12), .v (.int .i64 c7_22), .v (.sl 1 (c7_33.map eLStr)), .v (.bool c7_42)])]⟩) (srcEntry_b2 (srcEntry_n n) code c7_33 c7_42 c7_12 c7_22 v7) [(1008, 59)] ((1 : Int), (out6 ++ [(⟨code, c7_12, c7_22, c7_33, c7_42⟩ : ApiCodeEntry)]), v7.2.L, v7.2.I) hl2 sub ?_
       rintro ⟨i3, out8, c0_09, c0_19⟩ m hn2 he2 hx2
       obtain ⟨o2, hf2⟩ := some_of hx2
       have h := hf2
       unfold srcEntry_b2 at h
       try dsimp only
       refine WC.seq (sr (lr3 rfl (nn ?_)))
       refine WC.cond rfl (fun hc8 => ?_) (fun hc8 => ?_)
       ·replace h := ite_t hc8 h
        refine kn (sb (WC.region ?_))
        obtain ⟨g7, h⟩ := grd h
        refine lr 8 rfl (by repeat' (first | exact trivial | assumption | intro _ | exact g7 (by assumption) | apply And.intro | exact sideT | (refine and_i ?_ ?_))) ?_
        refine WL.q [] rfl rfl rfl (q_b2s tbOk (xs := [(IntKind.u8.wrap (IntKind.i64.wrap ((48 : Int) + i3)))]) by86 rfl tr) ?_
        obtain ⟨g8, h⟩ := grd h
        refine lr 3 rfl (by repeat' (first | exact trivial | assumption | intro _ | exact g8 (by assumption) | apply And.intro | exact sideT | (refine and_i ?_ ?_))) ?_
        replace h := bnd h; obtain ⟨v9, hvv9, h⟩ := h
        refine WL.callO [(0, 0)] [(0, 0)] [0] fn27 rfl rfl rfl rfl tr (ih hvv9) rfl rfl eqs rfl rfl rfl rfl rfl rfl ?_
        obtain ⟨g9, h⟩ := grd h
        refine WL.append tbOk ((out8 ++ v9.1).map eApiCodeEntry) [84, 1008] ap23 rfl rfl rfl rfl (fun _ e => by cases e; rfl) tr (map_cells (f := eApiCodeEntry) (xs := v9.1) fun _ => rfl) (by have := g9; simp only [List.length_map, List.length_nil, List.length_cons] at this ⊢; omega) rfl rfl (by simp only [List.map_append]; try rfl) rfl ?_
        refine lr1 rfl (WL.nil (bn (WC.region (lr3 rfl (WL.nil ?_)))))
        cases h
        exact WQ.next [(1008, 84)] ((IntKind.i64.wrap (i3 + (1 : Int))), (out8 ++ v9.1), v9.2.L, v9.2.I) sub (hn2 _ hf2)
       ·replace h := ite_f hc8 h
        refine WC.exit (WQ.thenExit ?_)
        cases h
        have he := he2 _ hf2
        subst he
        replace h := hk2
        try dsimp only at h
        refine eb ?_
        exact WQ.cut [] (out8, c0_09, c0_19) sub h
      ·rintro ⟨out7, c0_08, c0_18⟩ h
       replace h : srcEntry_j7 (srcEntry_n n) out7 c0_08 c0_18 = some _ := h
       unfold srcEntry_j7 at h
       try dsimp only
       refine sr (lr2 rfl (nr ?_))
       refine WQ.publish 1008 rfl rfl ?_
       cases h
       exact rt tbOk hR
theorem srcEntry_con {wg : World} (hw : WG wg) {s : CustomsmadeSource} {code : Str} {end_ : Int} {r : (List ApiCodeEntry) × CustomsmadeSource} (h : srcEntry s code end_ = some r) : Con Tryz.prog wg gl 27 [.p 0 0, .v (.str code), .v (.int .i64 end_)] [(0, .blk 63 [.v (.sl 1 (s.L.map eInt_i64)), .v (.int .i64 s.I)])] (.v (.sl 5 (r.1.map eApiCodeEntry))) [(0, .blk 63 [.v (.sl 1 (r.2.L.map eInt_i64)), .v (.int .i64 r.2.I)])] := srcEntry_n_con hw _ h
theorem srcEntryR_con {wg : World} (hw : WG wg) {s : CustomsmadeSource} {code : Str} {end_ : Int} {r : (List ApiCodeEntry) × CustomsmadeSource} (h : srcEntryR s code end_ = some r) : Con Tryz.prog wg gl 27 [.p 0 0, .v (.str code), .v (.int .i64 end_)] [(0, .blk 63 [.v (.sl 1 (s.L.map eInt_i64)), .v (.int .i64 s.I)])] (.r 500) [(0, .blk 63 [.v (.sl 1 (r.2.L.map eInt_i64)), .v (.int .i64 r.2.I)]), (500, .row 53 5 (r.1.map eApiCodeEntry))] := by
 unfold srcEntryR at h
 refine cw Tryz.func27 Tryz.ntmps27 ?_
 intro F L w ρ0 R hR
 try dsimp only [slotsOf]
 refine sr (lr1 rfl (ns (lr5 rfl (ns (lr1 rfl (nn (WC.seq (sr (lr3 rfl (nn ?_))))))))))
 refine WC.thenCut (X := (List Int) × Int × (List (List Str))) (fun gG => ⟨[(8, .v (.raw (.slice none 0 0))), (7, .p 7 0), (0, .p 0 0), (1, .v (.str code)), (2, .v (.int .i64 end_))], [(0, .blk 63 [.v (.sl 1 (gG.1.map eInt_i64)), .v (.int .i64 gG.2.1)]), (7, .blk 53 [.v (.str code), .v (.int .i64 (0 : Int)), .v (.int .i64 end_), .v (.sl 1 (gG.2.2.map eLStr)), .v (.bool false)])]⟩) (fun gG => srcEntryR_j1 code end_ gG.1 gG.2.1 gG.2.2 = some r) ?_ ?_
 ·refine WC.cond rfl (fun hc13 => ?_) (fun hc13 => ?_)
  ·replace h := ite_t hc13 h
   refine WC.region (lr1 rfl ?_)
   replace h := bnd h; obtain ⟨v12, hvv12, h⟩ := h
   refine WL.callO [(0, 0)] [(0, 0)] [0] fn52 rfl rfl rfl rfl tr (srcTerms_con hw hvv12) rfl rfl eqs rfl rfl rfl rfl rfl rfl ?_
   refine lr2 rfl (WL.nil ?_)
   exact WQ.cut [] (v12.2.L, v12.2.I, v12.1) sub h
  ·replace h := ite_f hc13 h
   refine WC.skip ?_
   refine WQ.weakenO 7 (.blk 53 [.v (.str code), .v (.int .i64 (0 : Int)), .v (.int .i64 end_), .v (.sl 1 ([].map eLStr)), .v (.bool false)]) rfl (LeO.blk (.cons (Le.refl _) (.cons (Le.refl _) (.cons (Le.refl _) (.cons (Le.nil 1) (.cons (Le.refl _) .nil)))))) rfl ?_
   exact WQ.cut [] (s.L, s.I, []) sub h
 ·rintro ⟨c0_0, c0_1, c7_3⟩ h
  replace h : srcEntryR_j1 code end_ c0_0 c0_1 c7_3 = some _ := h
  unfold srcEntryR_j1 at h
  try dsimp only
  refine WC.seq (WC.seq ?_)
  by_cases hk1 : (decide ((4 : Int) < (code.length : Int))) = true
  ·replace h := ifp hk1 h
   refine WC.region (lr4 rfl ?_)
   refine WL.ungd rfl rfl hk1 ?_
   refine lr1 rfl ?_
   refine WL.ungd rfl rfl hk1 ?_
   replace h := bnd h; obtain ⟨v, hvv, h⟩ := h
   refine WL.callO [(0, 0)] [(0, 0)] [0] fn25 rfl rfl rfl rfl tr (srcNext_con hw hvv) rfl rfl eqs rfl rfl rfl rfl rfl rfl ?_
   refine WL.ungd rfl rfl hk1 ?_
   refine lr 2 rfl sideR ?_
   refine nn ?_
   refine WC.thenCut (X := (List (List Str)) × Bool) (fun gG => ⟨[(8, .v (.raw (.slice none 0 0))), (7, .p 7 0), (0, .p 0 0), (1, .v (.str code)), (2, .v (.int .i64 end_))], [(0, .blk 63 [.v (.sl 1 (v.2.L.map eInt_i64)), .v (.int .i64 v.2.I)]), (7, .blk 53 [.v (.str code), .v (.int .i64 (0 : Int)), .v (.int .i64 end_), .v (.sl 1 (gG.1.map eLStr)), .v (.bool gG.2)])]⟩) (fun gG => srcEntryR_j2 code end_ v gG.1 gG.2 = some r) ?_ ?_
   ·refine WC.cond rfl (fun hc6 => ?_) (fun hc6 => ?_)
    ·replace h := ite_t hc6 h
     refine WC.region (lr4 rfl (WL.nil ?_))
     refine WQ.weakenO 7 (.blk 53 [.v (.str code), .v (.int .i64 (0 : Int)), .v (.int .i64 end_), .v (.sl 1 ([].map eLStr)), .v (.bool true)]) rfl (LeO.blk (.cons (Le.refl _) (.cons (Le.refl _) (.cons (Le.refl _) (.cons (Le.nil 1) (.cons (Le.refl _) .nil)))))) rfl ?_
     exact WQ.cut [] ([], true) sub h
    ·replace h := ite_f hc6 h
     refine WC.skip ?_
     exact WQ.cut [] (c7_3, false) sub h
   ·rintro ⟨c7_32, c7_4⟩ h
    replace h : srcEntryR_j2 code end_ v c7_32 c7_4 = some _ := h
    unfold srcEntryR_j2 at h
    try dsimp only
    refine WC.seq (sr ?_)
    refine lr 7 rfl sideR ?_
    refine nn ?_
    refine WC.thenCut (X := (List ApiCodeEntry) × (List Int) × Int × Int × Int) (fun gG => ⟨[(8, .r 1008), (7, .p 7 0), (0, .p 0 0), (1, .v (.str code))], [(1008, .row 53 5 (gG.1.map eApiCodeEntry)), (0, .blk 63 [.v (.sl 1 (gG.2.1.map eInt_i64)), .v (.int .i64 gG.2.2.1)]), (7, .blk 53 [.v (.str code), .v (.int .i64 gG.2.2.2.1), .v (.int .i64 gG.2.2.2.2), .v (.sl 1 (c7_32.map eLStr)), .v (.bool c7_4)])]⟩) (fun gG => srcEntryR_j3 code c7_32 c7_4 gG.1 gG.2.1 gG.2.2.1 gG.2.2.2.1 gG.2.2.2.2 = some r) ?_ ?_
    ·refine WC.cond rfl (fun hc3 => ?_) (fun hc3 => ?_)
     ·replace h := ite_t hc3 h
      refine sr (lr1 rfl ?_)
      replace h := bnd h; obtain ⟨v5, hvv5, h⟩ := h
      refine WL.callO [(0, 0)] [(0, 0)] [0] fn25 rfl rfl rfl rfl tr (srcNext_con hw hvv5) rfl rfl eqs rfl rfl rfl rfl rfl rfl ?_
      refine nn (WC.block (sr (lr2 rfl (nn ?_))))
      refine WC.cond rfl (fun hc4 => ?_) (fun hc4 => ?_)
      ·replace h := ite_t hc4 h
       refine sr (lr3 rfl (ns (lr4 rfl (ns (lr1 rfl ?_)))))
       replace h := bnd h; obtain ⟨v6, hvv6, h⟩ := h
       refine WL.callO [(0, 0)] [(0, 0)] [0] fn52 rfl rfl rfl rfl tr (srcTerms_con hw hvv6) rfl rfl eqs rfl rfl rfl rfl rfl rfl ?_
       refine lr2 rfl (ns (lr2 rfl (nn (WC.region (lr3 rfl ?_)))))
       obtain ⟨g5, h⟩ := grd h
       refine WL.append tbOk ([(⟨code, (0 : Int), (10 : Int), v6.1, false⟩ : ApiCodeEntry)].map eApiCodeEntry) [52] ap23 rfl rfl rfl rfl (fun _ e => by cases e) tr (map_cells (f := eApiCodeEntry) (xs := [(⟨code, (0 : Int), (10 : Int), v6.1, false⟩ : ApiCodeEntry)]) fun _ => rfl) (by have := g5; simp only [List.length_map, List.length_nil, List.length_cons] at this ⊢; omega) rfl rfl rfl rfl ?_
       refine lr1 rfl (WL.nil (WQ.blockNormal ?_))
       exact WQ.cut [(1008, 52)] ([(⟨code, (0 : Int), (10 : Int), v6.1, false⟩ : ApiCodeEntry)], v6.2.L, v6.2.I, (10 : Int), end_) sub h
      ·replace h := ite_f hc4 h
       refine sr (lr2 rfl (nn ?_))
       refine WC.cond rfl (fun hc5 => ?_) (fun hc5 => ?_)
       ·replace h := ite_t hc5 h
        refine WC.region (lr2 rfl (WL.nil (WQ.blockNormal ?_)))
        refine WQ.rowNil 8 1008 53 5 rfl rfl ?_
        exact WQ.cut [] ([], v5.2.L, v5.2.I, (0 : Int), (12 : Int)) sub h
       ·replace h := ite_f hc5 h
        refine WC.skip (WQ.blockNormal ?_)
        refine WQ.rowNil 8 1008 53 5 rfl rfl ?_
        exact WQ.cut [] ([], v5.2.L, v5.2.I, (0 : Int), end_) sub h
     ·replace h := ite_f hc3 h
      refine WC.skip ?_
      refine WQ.rowNil 8 1008 53 5 rfl rfl ?_
      exact WQ.cut [] ([], v.2.L, v.2.I, (0 : Int), end_) sub h
    ·rintro ⟨out, c0_02, c0_12, c7_1, c7_2⟩ h
     replace h : srcEntryR_j3 code c7_32 c7_4 out c0_02 c0_12 c7_1 c7_2 = some _ := h
     unfold srcEntryR_j3 at h
     try dsimp only
     refine sr (lr3 rfl ?_)
     obtain ⟨g1, h⟩ := grd h
     refine WL.append tbOk ((out ++ [(⟨code, c7_1, c7_2, c7_32, c7_4⟩ : ApiCodeEntry)]).map eApiCodeEntry) [59, 1008] ap23 rfl rfl rfl rfl (fun _ e => by cases e; rfl) tr (map_cells (f := eApiCodeEntry) (xs := [(⟨code, c7_1, c7_2, c7_32, c7_4⟩ : ApiCodeEntry)]) fun _ => rfl) (by have := g1; simp only [List.length_map, List.length_nil, List.length_cons] at this ⊢; omega) rfl rfl (by simp only [List.map_append]; try rfl) rfl ?_
     refine lr1 rfl (nn (WC.seq (sr (lr3 rfl (nn ?_)))))
     refine WC.cond rfl (fun hc1 => ?_) (fun hc1 => ?_)
     ·replace h := ite_t hc1 h
      refine sr (lr2 rfl (nr (WQ.thenRet ?_)))
      cases h
      exact WQ.rets tbOk hR [(500, 59)] (.inl rfl) rfl rfl (Le.refl _) eqs rfl rfl rfl rfl
     ·replace h := ite_f hc1 h
      refine kn (WC.seq (sr (lr1 rfl ?_)))
      replace h := bnd h; obtain ⟨v2, hvv2, h⟩ := h
      refine WL.callO [(0, 0)] [(0, 0)] [0] fn25 rfl rfl rfl rfl tr (srcNext_con hw hvv2) rfl rfl eqs rfl rfl rfl rfl rfl rfl ?_
      refine lr2 rfl (nn ?_)
      refine WC.thenCut (X := (List ApiCodeEntry) × (List Int) × Int) (fun gG => ⟨[(8, .r 1008), (0, .p 0 0)], [(1008, .row 53 5 (gG.1.map eApiCodeEntry)), (0, .blk 63 [.v (.sl 1 (gG.2.1.map eInt_i64)), .v (.int .i64 gG.2.2)])]⟩) (fun gG => srcEntryR_j4 gG.1 gG.2.1 gG.2.2 = some r) ?_ ?_
      ·refine WC.block ?_
       obtain ⟨eQ1, hl1, hk1⟩ := bnd h
       clear h
       refine WC.loop (σ := Int × (List ApiCodeEntry) × (List Int) × Int) (τ := ((List ApiCodeEntry) × (List Int) × Int)) (fun sS => ⟨[(11, .v (.int .i64 v2.1)), (10, .v (.int .i64 sS.1)), (8, .r 1008), (7, .p 7 0), (0, .p 0 0), (1, .v (.str code))], [(1008, .row 53 5 (sS.2.1.map eApiCodeEntry)), (0, .blk 63 [.v (.sl 1 (sS.2.2.1.map eInt_i64)), .v (.int .i64 sS.2.2.2)]), (7, .blk 53 [.v (.str code), .v (.int .i64 c7_1), .v (.int .i64 c7_2), .v (.sl 1 (c7_32.map eLStr)), .v (.bool c7_4)])]⟩) (srcEntryR_b1 code c7_32 c7_4 c7_1 c7_2 v2) [(1008, 59)] ((1 : Int), (out ++ [(⟨code, c7_1, c7_2, c7_32, c7_4⟩ : ApiCodeEntry)]), v2.2.L, v2.2.I) hl1 sub ?_
       rintro ⟨i, out3, c0_04, c0_14⟩ m hn1 he1 hx1
       obtain ⟨o1, hf1⟩ := some_of hx1
       have h := hf1
       unfold srcEntryR_b1 at h
       try dsimp only
       refine WC.seq (sr (lr3 rfl (nn ?_)))
       refine WC.cond rfl (fun hc2 => ?_) (fun hc2 => ?_)
       ·replace h := ite_t hc2 h
        refine kn (sb (WC.region ?_))
        obtain ⟨g2, h⟩ := grd h
        refine lr 8 rfl (by repeat' (first | exact trivial | assumption | intro _ | exact g2 (by assumption) | apply And.intro | exact sideT | (refine and_i ?_ ?_))) ?_
        refine WL.q [] rfl rfl rfl (q_b2s tbOk (xs := [(IntKind.u8.wrap (IntKind.i64.wrap ((48 : Int) + i)))]) by86 rfl tr) ?_
        obtain ⟨g3, h⟩ := grd h
        refine lr 3 rfl (by repeat' (first | exact trivial | assumption | intro _ | exact g3 (by assumption) | apply And.intro | exact sideT | (refine and_i ?_ ?_))) ?_
        replace h := bnd h; obtain ⟨v4, hvv4, h⟩ := h
        refine WL.callO [(0, 0)] [(0, 0)] [0] fn27 rfl rfl rfl rfl tr (srcEntry_con hw hvv4) rfl rfl eqs rfl rfl rfl rfl rfl rfl ?_
        obtain ⟨g4, h⟩ := grd h
        refine WL.append tbOk ((out3 ++ v4.1).map eApiCodeEntry) [84, 1008] ap23 rfl rfl rfl rfl (fun _ e => by cases e; rfl) tr (map_cells (f := eApiCodeEntry) (xs := v4.1) fun _ => rfl) (by have := g4; simp only [List.length_map, List.length_nil, List.length_cons] at this ⊢; omega) rfl rfl (by simp only [List.map_append]; try rfl) rfl ?_
        refine lr1 rfl (WL.nil (bn (WC.region (lr3 rfl (WL.nil ?_)))))
        cases h
        exact WQ.next [(1008, 84)] ((IntKind.i64.wrap (i + (1 : Int))), (out3 ++ v4.1), v4.2.L, v4.2.I) sub (hn1 _ hf1)
       ·replace h := ite_f hc2 h
        refine WC.exit (WQ.thenExit ?_)
        cases h
        have he := he1 _ hf1
        subst he
        replace h := hk1
        try dsimp only at h
        refine eb ?_
        exact WQ.cut [] (out3, c0_04, c0_14) sub h
      ·rintro ⟨out2, c0_03, c0_13⟩ h
       replace h : srcEntryR_j4 out2 c0_03 c0_13 = some _ := h
       unfold srcEntryR_j4 at h
       try dsimp only
       refine sr (lr2 rfl (nr ?_))
       cases h
       exact WQ.rets tbOk hR [(500, 1008)] (.inl rfl) rfl rfl (Le.refl _) eqs rfl rfl rfl rfl
  ·replace h := ifn hk1 h
   refine WC.region (lr4 rfl ?_)
   refine WL.skipg (.v (.raw (.nilIface))) rfl rfl rfl rfl (Bool.eq_false_iff.2 hk1) ?_
   refine WL.skipg (.v (.raw (.nilIface))) rfl rfl rfl rfl (Bool.eq_false_iff.2 hk1) ?_
   refine WL.skipg (.v (.bool false)) rfl rfl rfl rfl (Bool.eq_false_iff.2 hk1) ?_
   refine lr 1 rfl (by repeat' (first | exact trivial | assumption | intro _ | (exact absurd (by assumption) hk1) | (exfalso; simp_all; done) | apply And.intro | exact sideT | (refine and_i ?_ ?_))) ?_
   refine nn ?_
   refine WC.thenCut (X := (List (List Str)) × Bool) (fun gG => ⟨[(8, .v (.raw (.slice none 0 0))), (7, .p 7 0), (0, .p 0 0), (1, .v (.str code)), (2, .v (.int .i64 end_))], [(0, .blk 63 [.v (.sl 1 (c0_0.map eInt_i64)), .v (.int .i64 c0_1)]), (7, .blk 53 [.v (.str code), .v (.int .i64 (0 : Int)), .v (.int .i64 end_), .v (.sl 1 (gG.1.map eLStr)), .v (.bool gG.2)])]⟩) (fun gG => srcEntryR_j5 code end_ c0_0 c0_1 gG.1 gG.2 = some r) ?_ ?_
   ·refine WC.cond rfl (fun hc12 => ?_) (fun hc12 => ?_)
    ·replace h := ite_t hc12 h
     refine WC.region (lr4 rfl (WL.nil ?_))
     refine WQ.weakenO 7 (.blk 53 [.v (.str code), .v (.int .i64 (0 : Int)), .v (.int .i64 end_), .v (.sl 1 ([].map eLStr)), .v (.bool true)]) rfl (LeO.blk (.cons (Le.refl _) (.cons (Le.refl _) (.cons (Le.refl _) (.cons (Le.nil 1) (.cons (Le.refl _) .nil)))))) rfl ?_
     exact WQ.cut [] ([], true) sub h
    ·replace h := ite_f hc12 h
     refine WC.skip ?_
     exact WQ.cut [] (c7_3, false) sub h
   ·rintro ⟨c7_33, c7_42⟩ h
    replace h : srcEntryR_j5 code end_ c0_0 c0_1 c7_33 c7_42 = some _ := h
    unfold srcEntryR_j5 at h
    try dsimp only
    refine WC.seq (sr ?_)
    refine lr 7 rfl sideR ?_
    refine nn ?_
    refine WC.thenCut (X := (List ApiCodeEntry) × (List Int) × Int × Int × Int) (fun gG => ⟨[(8, .r 1008), (7, .p 7 0), (0, .p 0 0), (1, .v (.str code))], [(1008, .row 53 5 (gG.1.map eApiCodeEntry)), (0, .blk 63 [.v (.sl 1 (gG.2.1.map eInt_i64)), .v (.int .i64 gG.2.2.1)]), (7, .blk 53 [.v (.str code), .v (.int .i64 gG.2.2.2.1), .v (.int .i64 gG.2.2.2.2), .v (.sl 1 (c7_33.map eLStr)), .v (.bool c7_42)])]⟩) (fun gG => srcEntryR_j6 code c7_33 c7_42 gG.1 gG.2.1 gG.2.2.1 gG.2.2.2.1 gG.2.2.2.2 = some r) ?_ ?_
    ·refine WC.cond rfl (fun hc9 => ?_) (fun hc9 => ?_)
     ·replace h := ite_t hc9 h
      refine sr (lr1 rfl ?_)
      replace h := bnd h; obtain ⟨v10, hvv10, h⟩ := h
      refine WL.callO [(0, 0)] [(0, 0)] [0] fn25 rfl rfl rfl rfl tr (srcNext_con hw hvv10) rfl rfl eqs rfl rfl rfl rfl rfl rfl ?_
      refine nn (WC.block (sr (lr2 rfl (nn ?_))))
      refine WC.cond rfl (fun hc10 => ?_) (fun hc10 => ?_)
      ·replace h := ite_t hc10 h
       refine sr (lr3 rfl (ns (lr4 rfl (ns (lr1 rfl ?_)))))
       replace h := bnd h; obtain ⟨v11, hvv11, h⟩ := h
       refine WL.callO [(0, 0)] [(0, 0)] [0] fn52 rfl rfl rfl rfl tr (srcTerms_con hw hvv11) rfl rfl eqs rfl rfl rfl rfl rfl rfl ?_
       refine lr2 rfl (ns (lr2 rfl (nn (WC.region (lr3 rfl ?_)))))
       obtain ⟨g10, h⟩ := grd h
       refine WL.append tbOk ([(⟨code, (0 : Int), (10 : Int), v11.1, false⟩ : ApiCodeEntry)].map eApiCodeEntry) [52] ap23 rfl rfl rfl rfl (fun _ e => by cases e) tr (map_cells (f := eApiCodeEntry) (xs := [(⟨code, (0 : Int), (10 : Int), v11.1, false⟩ : ApiCodeEntry)]) fun _ => rfl) (by have := g10; simp only [List.length_map, List.length_nil, List.length_cons] at this ⊢; omega) rfl rfl rfl rfl ?_
       refine lr1 rfl (WL.nil (WQ.blockNormal ?_))
       exact WQ.cut [(1008, 52)] ([(⟨code, (0 : Int), (10 : Int), v11.1, false⟩ : ApiCodeEntry)], v11.2.L, v11.2.I, (10 : Int), end_) sub h
      ·replace h := ite_f hc10 h
       refine sr (lr2 rfl (nn ?_))
       refine WC.cond rfl (fun hc11 => ?_) (fun hc11 => ?_)
       ·replace h := ite_t hc11 h
        refine WC.region (lr2 rfl (WL.nil (WQ.blockNormal ?_)))
        refine WQ.rowNil 8 1008 53 5 rfl rfl ?_
        exact WQ.cut [] ([], v10.2.L, v10.2.I, (0 : Int), (12 : Int)) sub h
       ·replace h := ite_f hc11 h
        refine WC.skip (WQ.blockNormal ?_)
        refine WQ.rowNil 8 1008 53 5 rfl rfl ?_
        exact WQ.cut [] ([], v10.2.L, v10.2.I, (0 : Int), end_) sub h
     ·replace h := ite_f hc9 h
      refine WC.skip ?_
      refine WQ.rowNil 8 1008 53 5 rfl rfl ?_
      exact WQ.cut [] ([], c0_0, c0_1, (0 : Int), end_) sub h
    ·rintro ⟨out6, c0_07, c0_17, c7_12, c7_22⟩ h
     replace h : srcEntryR_j6 code c7_33 c7_42 out6 c0_07 c0_17 c7_12 c7_22 = some _ := h
     unfold srcEntryR_j6 at h
     try dsimp only
     refine sr (lr3 rfl ?_)
     obtain ⟨g6, h⟩ := grd h
     refine WL.append tbOk ((out6 ++ [(⟨code, c7_12, c7_22, c7_33, c7_42⟩ : ApiCodeEntry)]).map eApiCodeEntry) [59, 1008] ap23 rfl rfl rfl rfl (fun _ e => by cases e; rfl) tr (map_cells (f := eApiCodeEntry) (xs := [(⟨code, c7_12, c7_22, c7_33, c7_42⟩ : ApiCodeEntry)]) fun _ => rfl) (by have := g6; simp only [List.length_map, List.length_nil, List.length_cons] at this ⊢; omega) rfl rfl (by simp only [List.map_append]; try rfl) rfl ?_
     refine lr1 rfl (nn (WC.seq (sr (lr3 rfl (nn ?_)))))
     refine WC.cond rfl (fun hc7 => ?_) (fun hc7 => ?_)
     ·replace h := ite_t hc7 h
      refine sr (lr2 rfl (nr (WQ.thenRet ?_)))
      cases h
      exact WQ.rets tbOk hR [(500, 59)] (.inl rfl) rfl rfl (Le.refl _) eqs rfl rfl rfl rfl
     ·replace h := ite_f hc7 h
      refine kn (WC.seq (sr (lr1 rfl ?_)))
      replace h := bnd h; obtain ⟨v7, hvv7, h⟩ := h
      refine WL.callO [(0, 0)] [(0, 0)] [0] fn25 rfl rfl rfl rfl tr (srcNext_con hw hvv7) rfl rfl eqs rfl rfl rfl rfl rfl rfl ?_
      refine lr2 rfl (nn ?_)
      refine WC.thenCut (X := (List ApiCodeEntry) × (List Int) × Int) (fun gG => ⟨[(8, .r 1008), (0, .p 0 0)], [(1008, .row 53 5 (gG.1.map eApiCodeEntry)), (0, .blk 63 [.v (.sl 1 (gG.2.1.map eInt_i64)), .v (.int .i64 gG.2.2)])]⟩) (fun gG => srcEntryR_j7 gG.1 gG.2.1 gG.2.2 = some r) ?_ ?_
      ·refine WC.block ?_
       obtain ⟨eQ2, hl2, hk2⟩ := bnd h
       clear h
       refine WC.loop (σ := Int × (List ApiCodeEntry) × (List Int) × Int) (τ := ((List ApiCodeEntry) × (List Int) × Int)) (fun sS => ⟨[(11, .v (.int .i64 v7.1)), (10, .v (.int .i64 sS.1)), (8, .r 1008), (7, .p 7 0), (0, .p 0 0), (1, .v (.str code))], [(1008, .row 53 5 (sS.2.1.map eApiCodeEntry)), (0, .blk 63 [.v (.sl 1 (sS.2.2.1.map eInt_i64)), .v (.int .i64 sS.2.2.2)]), (7, .blk 53 [.v (.str code), .v (.int .i64 c7_12), .v (.int .i64 c7_22), .v (.sl 1 (c7_33.map eLStr)), .v (.bool c7_42)])]⟩) (srcEntryR_b2 code c7_33 c7_42 c7_12 c7_22 v7) [(1008, 59)] ((1 : Int), (out6 ++ [(⟨code, c7_12, c7_22, c7_33, c7_42⟩ : ApiCodeEntry)]), v7.2.L, v7.2.I) hl2 sub ?_
       rintro ⟨i3, out8, c0_09, c0_19⟩ m hn2 he2 hx2
       obtain ⟨o2, hf2⟩ := some_of hx2
       have h := hf2
       unfold srcEntryR_b2 at h
       try dsimp only
       refine WC.seq (sr (lr3 rfl (nn ?_)))
       refine WC.cond rfl (fun hc8 => ?_) (fun hc8 => ?_)
       ·replace h := ite_t hc8 h
        refine kn (sb (WC.region ?_))
        obtain ⟨g7, h⟩ := grd h
        refine lr 8 rfl (by repeat' (first | exact trivial | assumption | intro _ | exact g7 (by assumption) | apply And.intro | exact sideT | (refine and_i ?_ ?_))) ?_
        refine WL.q [] rfl rfl rfl (q_b2s tbOk (xs := [(IntKind.u8.wrap (IntKind.i64.wrap ((48 : Int) + i3)))]) by86 rfl tr) ?_
        obtain ⟨g8, h⟩ := grd h
        refine lr 3 rfl (by repeat' (first | exact trivial | assumption | intro _ | exact g8 (by assumption) | apply And.intro | exact sideT | (refine and_i ?_ ?_))) ?_
        replace h := bnd h; obtain ⟨v9, hvv9, h⟩ := h
        refine WL.callO [(0, 0)] [(0, 0)] [0] fn27 rfl rfl rfl rfl tr (srcEntry_con hw hvv9) rfl rfl eqs rfl rfl rfl rfl rfl rfl ?_
        obtain ⟨g9, h⟩ := grd h
        refine WL.append tbOk ((out8 ++ v9.1).map eApiCodeEntry) [84, 1008] ap23 rfl rfl rfl rfl (fun _ e => by cases e; rfl) tr (map_cells (f := eApiCodeEntry) (xs := v9.1) fun _ => rfl) (by have := g9; simp only [List.length_map, List.length_nil, List.length_cons] at this ⊢; omega) rfl rfl (by simp only [List.map_append]; try rfl) rfl ?_
        refine lr1 rfl (WL.nil (bn (WC.region (lr3 rfl (WL.nil ?_)))))
        cases h
        exact WQ.next [(1008, 84)] ((IntKind.i64.wrap (i3 + (1 : Int))), (out8 ++ v9.1), v9.2.L, v9.2.I) sub (hn2 _ hf2)
       ·replace h := ite_f hc8 h
        refine WC.exit (WQ.thenExit ?_)
        cases h
        have he := he2 _ hf2
        subst he
        replace h := hk2
        try dsimp only at h
        refine eb ?_
        exact WQ.cut [] (out8, c0_09, c0_19) sub h
      ·rintro ⟨out7, c0_08, c0_18⟩ h
       replace h : srcEntryR_j7 out7 c0_08 c0_18 = some _ := h
       unfold srcEntryR_j7 at h
       try dsimp only
       refine sr (lr2 rfl (nr ?_))
       cases h
       exact WQ.rets tbOk hR [(500, 1008)] (.inl rfl) rfl rfl (Le.refl _) eqs rfl rfl rfl rfl
theorem madeNom_con {wg : World} (hw : WG wg) {l : (List Int)} {r : ApiNomenclature} (h : madeNom l = some r) : Con Tryz.prog wg gl 10 [.v (.sl 1 (l.map eInt_i64))] [] (.v (.agg (eApiNomenclature r))) [] := by
 unfold madeNom at h
 refine cw Tryz.func10 Tryz.ntmps10 ?_
 intro F L w ρ0 R hR
 try dsimp only [slotsOf]
 refine sr (lr1 rfl (ns (lr1 rfl ?_)))
 replace h := bnd h; obtain ⟨v, hvv, h⟩ := h
 refine WL.call0 fn24 rfl rfl rfl rfl tr rfl (madeCut_con hw hvv) ?_
 refine lr3 rfl (ns (lr3 rfl (nn (WC.seq (sr (lr1 rfl ?_))))))
 replace h := bnd h; obtain ⟨v2, hvv2, h⟩ := h
 refine WL.callO [(0, 10)] [(0, 10)] [10] fn25 rfl rfl rfl rfl tr (srcNext_con hw hvv2) rfl rfl eqs rfl rfl rfl rfl rfl rfl ?_
 refine lr1 rfl (nn ?_)
 refine WC.thenCut (X := (List Int) × Int × (List ApiCodeNote)) (fun gG => ⟨[(4, .p 4 0), (3, .p 10 0), (2, .p 2 0)], [(10, .blk 63 [.v (.sl 1 (gG.1.map eInt_i64)), .v (.int .i64 gG.2.1)]), (2, .blk 26 [.v (.raw (.slice none 0 0)), .v (.raw (.slice none 0 0))]), (2201, .row 66 3 (gG.2.2.map eApiCodeNote)), (4, .blk 26 [.v (.raw (.slice none 0 0)), .r 2201])]⟩) (fun gG => madeNom_j1 gG.1 gG.2.1 gG.2.2 = some r) ?_ ?_
 ·refine WC.block ?_
  obtain ⟨eQ1, hl1, hk1⟩ := bnd h
  clear h
  refine WC.rowNilB 4 1 2201 66 3 rfl rfl rfl (cs2 := [.v (.raw (.slice none 0 0)), .r 2201]) rfl ?_
  refine WC.loop (σ := Int × (List Int) × Int × (List ApiCodeNote)) (τ := ((List Int) × Int × (List ApiCodeNote))) (fun sS => ⟨[(5, .v (.int .i64 sS.1)), (4, .p 4 0), (3, .p 10 0), (2, .p 2 0)], [(10, .blk 63 [.v (.sl 1 (sS.2.1.map eInt_i64)), .v (.int .i64 sS.2.2.1)]), (2, .blk 26 [.v (.raw (.slice none 0 0)), .v (.raw (.slice none 0 0))]), (2201, .row 66 3 (sS.2.2.2.map eApiCodeNote)), (4, .blk 26 [.v (.raw (.slice none 0 0)), .r 2201])]⟩) (madeNom_b1) [] (v2.1, v2.2.L, v2.2.I, []) hl1 sub ?_
  rintro ⟨n12, c10_04, c10_14, c4_12⟩ m hn1 he1 hx1
  obtain ⟨o1, hf1⟩ := some_of hx1
  have h := hf1
  unfold madeNom_b1 at h
  try dsimp only
  refine WC.seq (sr (lr2 rfl (nn ?_)))
  refine WC.cond rfl (fun hc1 => ?_) (fun hc1 => ?_)
  ·replace h := ite_t hc1 h
   refine kn (sb (WC.seq (WC.order mixed ?_)))
   refine wr 2 rfl trivial ?_
   replace h := bnd h; obtain ⟨v13, hvv13, h⟩ := h
   refine WR.callO [(0, 10)] [(0, 10)] [10] fn25 rfl rfl rfl rfl tr (srcNext_con hw hvv13) rfl rfl eqs rfl rfl rfl rfl rfl rfl ?_
   obtain ⟨g2, h⟩ := grd h
   replace h := bnd h; obtain ⟨x5, hxx5, h⟩ := h
   refine WR.q [] rfl rfl rfl (q_idx tbOk rfl tr g2 (map_get (f := eStr) hxx5)) ?_
   refine wr 2 rfl trivial ?_
   replace h := bnd h; obtain ⟨v14, hvv14, h⟩ := h
   refine WR.callO [(0, 10)] [(0, 10)] [10] fn26 rfl rfl rfl rfl tr (srcWords_con hw hvv14) rfl rfl eqs rfl rfl rfl rfl rfl rfl ?_
   refine wr 3 rfl trivial ?_
   refine WR.nil (by kernel_rfl) (WQ.thenNormal (WC.seq (sr (lr1 rfl ?_))))
   replace h := bnd h; obtain ⟨v15, hvv15, h⟩ := h
   refine WL.callO [(0, 10)] [(0, 10)] [10] fn25 rfl rfl rfl rfl tr (srcNext_con hw hvv15) rfl rfl eqs rfl rfl rfl rfl rfl rfl ?_
   refine lr1 rfl (nn ?_)
   refine WC.thenCut (X := (List Int) × Int × (List ApiCodeNote) × Str) (fun gG => ⟨[(6, .p 6 0), (5, .v (.int .i64 n12)), (4, .p 4 0), (3, .p 10 0), (2, .p 2 0)], [(10, .blk 63 [.v (.sl 1 (gG.1.map eInt_i64)), .v (.int .i64 gG.2.1)]), (2, .blk 26 [.v (.raw (.slice none 0 0)), .v (.raw (.slice none 0 0))]), (2201, .row 66 3 (gG.2.2.1.map eApiCodeNote)), (4, .blk 26 [.v (.raw (.slice none 0 0)), .r 2201]), (6, .blk 66 [.v (.str x5), .v (.sl 1 (v14.1.map eStr)), .v (.str gG.2.2.2)])]⟩) (fun gG => madeNom_j2 n12 x5 v14 gG.1 gG.2.1 gG.2.2.1 gG.2.2.2 = some o1) ?_ ?_
   ·refine WC.cond rfl (fun hc2 => ?_) (fun hc2 => ?_)
    ·replace h := ite_t hc2 h
     refine WC.region (lr2 rfl ?_)
     replace h := bnd h; obtain ⟨v16, hvv16, h⟩ := h
     refine WL.callO [(0, 10)] [(0, 10)] [10] fn25 rfl rfl rfl rfl tr (srcNext_con hw hvv16) rfl rfl eqs rfl rfl rfl rfl rfl rfl ?_
     obtain ⟨g4, h⟩ := grd h
     replace h := bnd h; obtain ⟨x6, hxx6, h⟩ := h
     refine WL.q [] rfl rfl rfl (q_idx tbOk rfl tr g4 (map_get (f := eStr) hxx6)) ?_
     refine lr3 rfl (WL.nil ?_)
     exact WQ.cut [] (v16.2.L, v16.2.I, c4_12, x6) sub h
    ·replace h := ite_f hc2 h
     refine WC.skip ?_
     exact WQ.cut [] (v15.2.L, v15.2.I, c4_12, []) sub h
   ·rintro ⟨c10_07, c10_17, c4_15, c6_23⟩ h
    replace h : madeNom_j2 n12 x5 v14 c10_07 c10_17 c4_15 c6_23 = some _ := h
    unfold madeNom_j2 at h
    try dsimp only
    refine WC.region (lr4 rfl ?_)
    obtain ⟨g3, h⟩ := grd h
    refine WL.append tbOk ((c4_15 ++ [(⟨x5, v14.1, c6_23⟩ : ApiCodeNote)]).map eApiCodeNote) [39, 2201] ap24 rfl rfl rfl rfl (fun _ e => by cases e; rfl) tr (map_cells (f := eApiCodeNote) (xs := [(⟨x5, v14.1, c6_23⟩ : ApiCodeNote)]) fun _ => rfl) (by have := g3; simp only [List.length_map, List.length_nil, List.length_cons] at this ⊢; omega) rfl rfl (by simp only [List.map_append]; try rfl) rfl ?_
    refine lr2 rfl (WL.nil (bn (WC.region (lr3 rfl (WL.nil ?_)))))
    cases h
    exact WQ.next [(2201, 39)] ((IntKind.i64.wrap (n12 - (1 : Int))), c10_07, c10_17, (c4_15 ++ [(⟨x5, v14.1, c6_23⟩ : ApiCodeNote)])) sub (hn1 _ hf1)
  ·replace h := ite_f hc1 h
   refine WC.exit (WQ.thenExit ?_)
   cases h
   have he := he1 _ hf1
   subst he
   replace h := hk1
   try dsimp only at h
   refine eb ?_
   exact WQ.cut [] (c10_04, c10_14, c4_12) sub h
 ·rintro ⟨c10_0, c10_1, c4_1⟩ h
  replace h : madeNom_j1 c10_0 c10_1 c4_1 = some _ := h
  unfold madeNom_j1 at h
  try dsimp only
  refine sr (lr1 rfl ?_)
  replace h := bnd h; obtain ⟨v3, hvv3, h⟩ := h
  refine WL.callO [(0, 10)] [(0, 10), (500, 42)] [10, 42] fn27 rfl rfl rfl rfl tr (srcEntryR_con hw hvv3) rfl rfl eqs rfl rfl rfl rfl rfl rfl ?_
  refine lr1 rfl ?_
  replace h := bnd h; obtain ⟨v4, hvv4, h⟩ := h
  refine WL.callO [(0, 10)] [(0, 10)] [10] fn27 rfl rfl rfl rfl tr (srcEntry_con hw hvv4) rfl rfl eqs rfl rfl rfl rfl rfl rfl ?_
  obtain ⟨g1, h⟩ := grd h
  refine WL.append tbOk ((v3.1 ++ v4.1).map eApiCodeEntry) [45, 42] ap23 rfl rfl rfl rfl (fun _ e => by cases e; rfl) tr (map_cells (f := eApiCodeEntry) (xs := v4.1) fun _ => rfl) (by have := g1; simp only [List.length_map, List.length_nil, List.length_cons] at this ⊢; omega) rfl rfl (by simp only [List.map_append]; try rfl) rfl ?_
  refine lr2 rfl (nn (WC.seq ?_))
  refine WC.publish 45 rfl rfl ?_
  refine WC.publish 2201 rfl rfl ?_
  refine WC.region (lr2 rfl (nr ?_))
  cases h
  exact rt tbOk hR
end Go.Proofs.YtaeplfiaahkgpaaGreatDoor
end

section
set_option linter.unusedVariables false
set_option linter.unusedSimpArgs false
set_option maxHeartbeats 4000000
set_option maxRecDepth 20000
namespace Go.Proofs.YtaeplfiaahkgpaaGreatDoor
open Go.V Go.C
theorem isWord_con {wg : World} (hw : WG wg) {s : Str} {r : Bool} (h : isWord s = some r) : Con Tryz.prog wg gl 107 [.v (.str s)] [] (.v (.bool r)) [] := by
 unfold isWord at h
 refine cw Tryz.func107 Tryz.ntmps107 ?_
 intro F L w ρ0 R hR
 try dsimp only [slotsOf]
 refine sr (lr1 rfl (nn (WC.seq (sr ?_))))
 refine lr 8 rfl sideR ?_
 refine nn ?_
 refine WC.cond rfl (fun hc1 => ?_) (fun hc1 => ?_)
 ·replace h := ite_t hc1 h
  refine sr (lr1 rfl (nr (WQ.thenRet ?_)))
  cases h
  exact rt tbOk hR
 ·replace h := ite_f hc1 h
  refine kn (WC.seq (sr (lr1 rfl ?_)))
  refine WL.range tbOk rfl rfl rfl rfl tr rfl ?_
  refine nn ?_
  refine WC.thenCut (X := Unit) (fun gG => ⟨[], []⟩) (fun gG => isWord_j1  = some r) ?_ ?_
  ·refine WC.block ?_
   obtain ⟨eQ1, hl1, hk1⟩ := bnd h
   clear h
   refine WC.loop (σ := Nat) (τ := ((Bool) ⊕ (Unit))) (fun sS => ⟨[(14, .r 14)], [(14, .it s sS)]⟩) (isWord_b1 s) [] 0 hl1 sub ?_
   intro pos m hn1 he1 hx1
   obtain ⟨o1, hf1⟩ := some_of hx1
   have h := hf1
   unfold isWord_b1 at h
   try dsimp only
   refine sr ?_
   refine WL.next rfl rfl rfl rfl sideR rfl (fun hx1 => ?_) (fun hx1 => ?_)
   ·replace h := ifp hx1 h
    refine lr1 rfl (nn (WC.seq ?_))
    refine WC.cond (b := true) rfl (fun hc2 => ?_) (fun hc2 => by cases hc2)
    refine kn (WC.block (sr (lr2 rfl (ns ?_))))
    refine lr 6 rfl sideR ?_
    refine nn ?_
    refine WC.cond rfl (fun hc3 => ?_) (fun hc3 => ?_)
    ·replace h := ite_t hc3 h
     refine sr (lr1 rfl (nr (WQ.blockRet ?_)))
     cases h
     have he := he1 _ hf1
     subst he
     have h : some false = some _ := hk1
     refine WQ.thenRet (rb ?_)
     cases h
     exact rt tbOk hR
    ·replace h := ite_f hc3 h
     refine WC.skip (WQ.blockNormal ?_)
     cases h
     exact WQ.next [] (pos + runeW s pos) sub (hn1 _ hf1)
   ·replace h := ifn hx1 h
    refine lr1 rfl (nn (WC.seq ?_))
    refine WC.cond (b := false) rfl (fun hc4 => by cases hc4) (fun hc4 => ?_)
    refine WC.exit (WQ.thenExit ?_)
    cases h
    have he := he1 _ hf1
    subst he
    replace h := hk1
    try dsimp only at h
    refine eb ?_
    exact WQ.cut [] () sub h
  ·intro _ h
   replace h : isWord_j1 = some _ := h
   unfold isWord_j1 at h
   try dsimp only
   refine sr (lr1 rfl (nr ?_))
   cases h
   exact rt tbOk hR
theorem validWords_con {wg : World} (hw : WG wg) {l : (List Str)} {r : Bool} (h : validWords l = some r) : Con Tryz.prog wg gl 58 [.v (.sl 1 (l.map eStr))] [] (.v (.bool r)) [] := by
 unfold validWords at h
 refine cw Tryz.func58 Tryz.ntmps58 ?_
 intro F L w ρ0 R hR
 try dsimp only [slotsOf]
 refine sr (lr1 rfl (nn (WC.seq (sr (lr1 rfl ?_)))))
 refine WL.q [] rfl rfl rfl (q_ev tbOk (.v (.int .i64 (l.length : Int))) rfl tr lenT) ?_
 refine lr1 rfl (nn ?_)
 refine WC.cond rfl (fun hc1 => ?_) (fun hc1 => ?_)
 ·replace h := ite_t hc1 h
  refine sr (lr1 rfl (nr (WQ.thenRet ?_)))
  cases h
  exact rt tbOk hR
 ·replace h := ite_f hc1 h
  refine kn (WC.seq (sr (lr1 rfl ?_)))
  refine WL.q [] rfl rfl rfl (q_ev tbOk (.v (.int .i64 (l.length : Int))) rfl tr lenT) ?_
  refine lr1 rfl (nn ?_)
  refine WC.thenCut (X := Unit) (fun gG => ⟨[], []⟩) (fun gG => validWords_j1  = some r) ?_ ?_
  ·refine WC.block ?_
   obtain ⟨eQ1, hl1, hk1⟩ := bnd h
   clear h
   refine WC.loop (σ := Int) (τ := ((Bool) ⊕ (Unit))) (fun sS => ⟨[(10, .v (.int .i64 sS)), (9, .v (.int .i64 (l.length : Int))), (8, .v (.sl 1 (l.map eStr))), (0, .v (.sl 1 (l.map eStr)))], []⟩) (validWords_b1 l) [] (0 : Int) hl1 sub ?_
   intro t10 m hn1 he1 hx1
   obtain ⟨o1, hf1⟩ := some_of hx1
   have h := hf1
   unfold validWords_b1 at h
   try dsimp only
   refine sr (lr1 rfl (nn (WC.seq ?_)))
   refine WC.cond rfl (fun hc2 => ?_) (fun hc2 => ?_)
   ·replace h := ite_t hc2 h
    refine kn (sb (sr (lr1 rfl ?_)))
    obtain ⟨g1, h⟩ := grd h
    replace h := bnd h; obtain ⟨x2, hxx2, h⟩ := h
    refine WL.q [] rfl rfl rfl (q_idx tbOk rfl tr g1 (map_get (f := eStr) hxx2)) ?_
    refine lr3 rfl (ns (lr1 rfl ?_))
    replace h := bnd h; obtain ⟨v2, hvv2, h⟩ := h
    refine WL.call0 fn107 rfl rfl rfl rfl tr rfl (isWord_con hw hvv2) ?_
    refine lr 9 rfl sideR ?_
    obtain ⟨g2, h⟩ := grd h
    refine WL.gq [] rfl rfl rfl rfl (fun hg => q_idx tbOk rfl sideR (g2 hg).1 (map_getD (f := eStr) (g2 hg).2 (g2 hg).1)) ?_
    refine lr 4 rfl sideR ?_
    refine nn ?_
    refine WC.cond rfl (fun hc3 => ?_) (fun hc3 => ?_)
    ·replace h := ite_t hc3 h
     refine sr (lr1 rfl (nr (rb ?_)))
     cases h
     have he := he1 _ hf1
     subst he
     have h : some false = some _ := hk1
     refine WQ.thenRet (rb ?_)
     cases h
     exact rt tbOk hR
    ·replace h := ite_f hc3 h
     refine WC.skip (bn (WC.region (lr2 rfl (WL.nil ?_))))
     cases h
     exact WQ.next [] (IntKind.i64.wrap (t10 + (1 : Int))) sub (hn1 _ hf1)
   ·replace h := ite_f hc2 h
    refine WC.exit (WQ.thenExit ?_)
    cases h
    have he := he1 _ hf1
    subst he
    replace h := hk1
    try dsimp only at h
    refine eb ?_
    exact WQ.cut [] () sub h
  ·intro _ h
   replace h : validWords_j1 = some _ := h
   unfold validWords_j1 at h
   try dsimp only
   refine sr (lr1 rfl (nr ?_))
   cases h
   exact rt tbOk hR
theorem isNaNS_con {wg : World} (hw : WG wg) {x : Str} {r : Bool} (h : isNaNS x = some r) : Con Tryz.prog wg gl 168 [.v (.str x)] [] (.v (.bool r)) [] := by
 unfold isNaNS at h
 refine cw Tryz.func168 Tryz.ntmps168 ?_
 intro F L w ρ0 R hR
 try dsimp only [slotsOf]
 refine sr (lr1 rfl (ns (lr4 rfl (nr ?_))))
 cases h
 exact rt tbOk hR
theorem cmpStr_con {wg : World} (hw : WG wg) {x : Str} {y : Str} {r : Int} (h : cmpStr x y = some r) : Con Tryz.prog wg gl 147 [.v (.str x), .v (.str y)] [] (.v (.int .i64 r)) [] := by
 unfold cmpStr at h
 refine cw Tryz.func147 Tryz.ntmps147 ?_
 intro F L w ρ0 R hR
 try dsimp only [slotsOf]
 refine sr (lr1 rfl (ns (lr1 rfl ?_)))
 replace h := bnd h; obtain ⟨v, hvv, h⟩ := h
 refine WL.call0 fn168 rfl rfl rfl rfl tr rfl (isNaNS_con hw hvv) ?_
 refine lr1 rfl (ns (lr1 rfl ?_))
 replace h := bnd h; obtain ⟨v2, hvv2, h⟩ := h
 refine WL.call0 fn168 rfl rfl rfl rfl tr rfl (isNaNS_con hw hvv2) ?_
 refine lr1 rfl (nn (WC.seq (sr (lr1 rfl (nn ?_)))))
 refine WC.cond rfl (fun hc1 => ?_) (fun hc1 => ?_)
 ·replace h := ite_t hc1 h
  refine WC.seq (sr (lr1 rfl (nn ?_)))
  refine WC.cond rfl (fun hc2 => ?_) (fun hc2 => ?_)
  ·replace h := ite_t hc2 h
   refine sr (lr1 rfl (nr (WQ.thenRet (WQ.thenRet ?_))))
   cases h
   exact rt tbOk hR
  ·replace h := ite_f hc2 h
   refine kn (sr (lr1 rfl (nr (WQ.thenRet ?_))))
   cases h
   exact rt tbOk hR
 ·replace h := ite_f hc1 h
  refine kn (WC.seq (sr (lr1 rfl (nn ?_))))
  refine WC.cond rfl (fun hc3 => ?_) (fun hc3 => ?_)
  ·replace h := ite_t hc3 h
   refine sr (lr1 rfl (nr (WQ.thenRet ?_)))
   cases h
   exact rt tbOk hR
  ·replace h := ite_f hc3 h
   refine kn (WC.seq (sr (lr3 rfl (nn ?_))))
   refine WC.cond rfl (fun hc4 => ?_) (fun hc4 => ?_)
   ·replace h := ite_t hc4 h
    refine sr (lr1 rfl (nr (WQ.thenRet ?_)))
    cases h
    exact rt tbOk hR
   ·replace h := ite_f hc4 h
    refine kn (WC.seq (sr (lr3 rfl (nn ?_))))
    refine WC.cond rfl (fun hc5 => ?_) (fun hc5 => ?_)
    ·replace h := ite_t hc5 h
     refine sr (lr1 rfl (nr (WQ.thenRet ?_)))
     cases h
     exact rt tbOk hR
    ·replace h := ite_f hc5 h
     refine kn (sr (lr1 rfl (nr ?_)))
     cases h
     exact rt tbOk hR
theorem isNaN_con {wg : World} (hw : WG wg) {x : Int} {r : Bool} (h : isNaN x = some r) : Con Tryz.prog wg gl 155 [.v (.int .i64 x)] [] (.v (.bool r)) [] := by
 unfold isNaN at h
 refine cw Tryz.func155 Tryz.ntmps155 ?_
 intro F L w ρ0 R hR
 try dsimp only [slotsOf]
 refine sr (lr1 rfl (ns (lr4 rfl (nr ?_))))
 cases h
 exact rt tbOk hR
theorem cmpInt_con {wg : World} (hw : WG wg) {x : Int} {y : Int} {r : Int} (h : cmpInt x y = some r) : Con Tryz.prog wg gl 124 [.v (.int .i64 x), .v (.int .i64 y)] [] (.v (.int .i64 r)) [] := by
 unfold cmpInt at h
 refine cw Tryz.func124 Tryz.ntmps124 ?_
 intro F L w ρ0 R hR
 try dsimp only [slotsOf]
 refine sr (lr1 rfl (ns (lr1 rfl ?_)))
 replace h := bnd h; obtain ⟨v, hvv, h⟩ := h
 refine WL.call0 fn155 rfl rfl rfl rfl tr rfl (isNaN_con hw hvv) ?_
 refine lr1 rfl (ns (lr1 rfl ?_))
 replace h := bnd h; obtain ⟨v2, hvv2, h⟩ := h
 refine WL.call0 fn155 rfl rfl rfl rfl tr rfl (isNaN_con hw hvv2) ?_
 refine lr1 rfl (nn (WC.seq (sr (lr1 rfl (nn ?_)))))
 refine WC.cond rfl (fun hc1 => ?_) (fun hc1 => ?_)
 ·replace h := ite_t hc1 h
  refine WC.seq (sr (lr1 rfl (nn ?_)))
  refine WC.cond rfl (fun hc2 => ?_) (fun hc2 => ?_)
  ·replace h := ite_t hc2 h
   refine sr (lr1 rfl (nr (WQ.thenRet (WQ.thenRet ?_))))
   cases h
   exact rt tbOk hR
  ·replace h := ite_f hc2 h
   refine kn (sr (lr1 rfl (nr (WQ.thenRet ?_))))
   cases h
   exact rt tbOk hR
 ·replace h := ite_f hc1 h
  refine kn (WC.seq (sr (lr1 rfl (nn ?_))))
  refine WC.cond rfl (fun hc3 => ?_) (fun hc3 => ?_)
  ·replace h := ite_t hc3 h
   refine sr (lr1 rfl (nr (WQ.thenRet ?_)))
   cases h
   exact rt tbOk hR
  ·replace h := ite_f hc3 h
   refine kn (WC.seq (sr (lr3 rfl (nn ?_))))
   refine WC.cond rfl (fun hc4 => ?_) (fun hc4 => ?_)
   ·replace h := ite_t hc4 h
    refine sr (lr1 rfl (nr (WQ.thenRet ?_)))
    cases h
    exact rt tbOk hR
   ·replace h := ite_f hc4 h
    refine kn (WC.seq (sr (lr3 rfl (nn ?_))))
    refine WC.cond rfl (fun hc5 => ?_) (fun hc5 => ?_)
    ·replace h := ite_t hc5 h
     refine sr (lr1 rfl (nr (WQ.thenRet ?_)))
     cases h
     exact rt tbOk hR
    ·replace h := ite_f hc5 h
     refine kn (sr (lr1 rfl (nr ?_)))
     cases h
     exact rt tbOk hR
theorem versionOf_con {wg : World} (hw : WG wg) {e1 : ApiCodeEntry} {r : NomenclatureVersion} (h : versionOf e1 = some r) : Con Tryz.prog wg gl 105 [.v (.agg (eApiCodeEntry e1))] [] (.v (.agg [.str r.code, .int .i64 r.from_])) [] := by
 unfold versionOf at h
 refine cw Tryz.func105 Tryz.ntmps105 ?_
 intro F L w ρ0 R hR
 try dsimp only [slotsOf]
 refine sr (lr2 rfl (ns (lr6 rfl (nr ?_))))
 cases h
 exact rt tbOk hR
theorem versionCmp_con {wg : World} (hw : WG wg) {v : NomenclatureVersion} {w1 : NomenclatureVersion} {r : Int} (h : versionCmp v w1 = some r) : Con Tryz.prog wg gl 106 [.v (.agg [.str v.code, .int .i64 v.from_]), .v (.agg [.str w1.code, .int .i64 w1.from_])] [] (.v (.int .i64 r)) [] := by
 unfold versionCmp at h
 refine cw Tryz.func106 Tryz.ntmps106 ?_
 intro F L w ρ0 R hR
 try dsimp only [slotsOf]
 refine sr (lr3 rfl (nn (WC.seq (sr (lr2 rfl ?_)))))
 refine WL.q [] rfl rfl rfl (q_eq rfl tr eg140 eqT140) ?_
 refine nn ?_
 refine WC.cond rfl (fun hc1 => ?_) (fun hc1 => ?_)
 ·replace h := ite_t hc1 h
  refine sr (lr1 rfl (nr (WQ.thenRet ?_)))
  cases h
  exact rt tbOk hR
 ·replace h := ite_f hc1 h
  refine kn (WC.seq (sr (lr5 rfl (nn ?_))))
  refine WC.cond rfl (fun hc2 => ?_) (fun hc2 => ?_)
  ·replace h := ite_t hc2 h
   refine sr (lr4 rfl ?_)
   replace h := bnd h; obtain ⟨v2, hvv2, h⟩ := h
   refine WL.call0 fn147 rfl rfl rfl rfl tr rfl (cmpStr_con hw hvv2) ?_
   refine lr1 rfl (nr (WQ.thenRet ?_))
   cases h
   exact rt tbOk hR
  ·replace h := ite_f hc2 h
   refine kn (sr (lr4 rfl ?_))
   replace h := bnd h; obtain ⟨v3, hvv3, h⟩ := h
   refine WL.call0 fn124 rfl rfl rfl rfl tr rfl (cmpInt_con hw hvv3) ?_
   refine lr1 rfl (nr ?_)
   cases h
   exact rt tbOk hR
theorem nomLevel_con {wg : World} (hw : WG wg) {code : Str} {r : Int} (h : nomLevel code = some r) : Con Tryz.prog wg gl 103 [.v (.str code)] [] (.v (.int .i64 r)) [] := by
 unfold nomLevel at h
 refine cw Tryz.func103 Tryz.ntmps103 ?_
 intro F L w ρ0 R hR
 try dsimp only [slotsOf]
 refine sr (lr1 rfl (nn (WC.seq (sr (lr2 rfl (nn ?_))))))
 refine WC.thenCut (X := Unit) (fun gG => ⟨[], []⟩) (fun gG => nomLevel_j1  = some r) ?_ ?_
 ·refine WC.block ?_
  refine WC.rounds 5 ?_
  refine sr (lr1 rfl (nn (WC.seq ?_)))
  refine WC.cond (b := true) rfl (fun hc1 => ?_) (fun hc1 => by cases hc1)
  refine kn (sb (sr ?_))
  refine WL.q [] rfl rfl rfl (q_aidx tbOk Tryz.underlying161 rfl rfl rfl rfl sideR (by decide) rfl) ?_
  refine lr1 rfl (ns ?_)
  refine lr 6 rfl sideR ?_
  replace h := bnd h; obtain ⟨v, hvv, h⟩ := h
  refine WL.gcall0 fn146 rfl rfl rfl rfl rfl (fun _ => sideR) rfl (fun hg => (trimS_con hw (ite_t hg hvv))) ?_
  refine lr 2 rfl sideR ?_
  refine nn ?_
  refine WC.cond rfl (fun hc2 => ?_) (fun hc2 => ?_)
  ·replace h := ite_t hc2 h
   refine sr (lr2 rfl (nr (rb (WQ.thenRet (rb ?_)))))
   cases h
   exact rt tbOk hR
  ·replace h := ite_f hc2 h
   refine WC.skip (bn (WC.region (lr2 rfl (WL.nil ?_))))
   refine WQ.round ?_
   refine WC.sub (st' := ⟨[(6, .v (.int .i64 (1 : Int))), (5, .v (.agg [.int .i64 (2 : Int), .int .i64 (4 : Int), .int .i64 (6 : Int), .int .i64 (8 : Int)])), (0, .v (.str code))], []⟩) [] sub ?_
   refine sr (lr1 rfl (nn (WC.seq ?_)))
   refine WC.cond (b := true) rfl (fun hc3 => ?_) (fun hc3 => by cases hc3)
   refine kn (sb (sr ?_))
   refine WL.q [] rfl rfl rfl (q_aidx tbOk Tryz.underlying161 rfl rfl rfl rfl sideR (by decide) rfl) ?_
   refine lr1 rfl (ns ?_)
   refine lr 6 rfl sideR ?_
   replace h := bnd h; obtain ⟨v2, hvv2, h⟩ := h
   refine WL.gcall0 fn146 rfl rfl rfl rfl rfl (fun _ => sideR) rfl (fun hg => (trimS_con hw (ite_t hg hvv2))) ?_
   refine lr 2 rfl sideR ?_
   refine nn ?_
   refine WC.cond rfl (fun hc4 => ?_) (fun hc4 => ?_)
   ·replace h := ite_t hc4 h
    refine sr (lr2 rfl (nr (rb (WQ.thenRet (rb ?_)))))
    cases h
    exact rt tbOk hR
   ·replace h := ite_f hc4 h
    refine WC.skip (bn (WC.region (lr2 rfl (WL.nil ?_))))
    refine WQ.round ?_
    refine WC.sub (st' := ⟨[(6, .v (.int .i64 (2 : Int))), (5, .v (.agg [.int .i64 (2 : Int), .int .i64 (4 : Int), .int .i64 (6 : Int), .int .i64 (8 : Int)])), (0, .v (.str code))], []⟩) [] sub ?_
    refine sr (lr1 rfl (nn (WC.seq ?_)))
    refine WC.cond (b := true) rfl (fun hc5 => ?_) (fun hc5 => by cases hc5)
    refine kn (sb (sr ?_))
    refine WL.q [] rfl rfl rfl (q_aidx tbOk Tryz.underlying161 rfl rfl rfl rfl sideR (by decide) rfl) ?_
    refine lr1 rfl (ns ?_)
    refine lr 6 rfl sideR ?_
    replace h := bnd h; obtain ⟨v3, hvv3, h⟩ := h
    refine WL.gcall0 fn146 rfl rfl rfl rfl rfl (fun _ => sideR) rfl (fun hg => (trimS_con hw (ite_t hg hvv3))) ?_
    refine lr 2 rfl sideR ?_
    refine nn ?_
    refine WC.cond rfl (fun hc6 => ?_) (fun hc6 => ?_)
    ·replace h := ite_t hc6 h
     refine sr (lr2 rfl (nr (rb (WQ.thenRet (rb ?_)))))
     cases h
     exact rt tbOk hR
    ·replace h := ite_f hc6 h
     refine WC.skip (bn (WC.region (lr2 rfl (WL.nil ?_))))
     refine WQ.round ?_
     refine WC.sub (st' := ⟨[(6, .v (.int .i64 (3 : Int))), (5, .v (.agg [.int .i64 (2 : Int), .int .i64 (4 : Int), .int .i64 (6 : Int), .int .i64 (8 : Int)])), (0, .v (.str code))], []⟩) [] sub ?_
     refine sr (lr1 rfl (nn (WC.seq ?_)))
     refine WC.cond (b := true) rfl (fun hc7 => ?_) (fun hc7 => by cases hc7)
     refine kn (sb (sr ?_))
     refine WL.q [] rfl rfl rfl (q_aidx tbOk Tryz.underlying161 rfl rfl rfl rfl sideR (by decide) rfl) ?_
     refine lr1 rfl (ns ?_)
     refine lr 6 rfl sideR ?_
     replace h := bnd h; obtain ⟨v4, hvv4, h⟩ := h
     refine WL.gcall0 fn146 rfl rfl rfl rfl rfl (fun _ => sideR) rfl (fun hg => (trimS_con hw (ite_t hg hvv4))) ?_
     refine lr 2 rfl sideR ?_
     refine nn ?_
     refine WC.cond rfl (fun hc8 => ?_) (fun hc8 => ?_)
     ·replace h := ite_t hc8 h
      refine sr (lr2 rfl (nr (rb (WQ.thenRet (rb ?_)))))
      cases h
      exact rt tbOk hR
     ·replace h := ite_f hc8 h
      refine WC.skip (bn (WC.region (lr2 rfl (WL.nil ?_))))
      refine WQ.round ?_
      refine WC.sub (st' := ⟨[(6, .v (.int .i64 (4 : Int))), (5, .v (.agg [.int .i64 (2 : Int), .int .i64 (4 : Int), .int .i64 (6 : Int), .int .i64 (8 : Int)])), (0, .v (.str code))], []⟩) [] sub ?_
      refine sr (lr1 rfl (nn (WC.seq ?_)))
      refine WC.cond (b := false) rfl (fun hc9 => by cases hc9) (fun hc9 => ?_)
      refine WC.exit (WQ.thenExit (eb ?_))
      exact WQ.cut [] () sub h
 ·intro _ h
  replace h : nomLevel_j1 = some _ := h
  unfold nomLevel_j1 at h
  try dsimp only
  refine sr (lr1 rfl (nr ?_))
  cases h
  exact rt tbOk hR
theorem nomDescribed_con {wg : World} (hw : WG wg) {l : (List Str)} {r : Bool} (h : nomDescribed l = some r) : Con Tryz.prog wg gl 104 [.v (.sl 1 (l.map eStr))] [] (.v (.bool r)) [] := by
 unfold nomDescribed at h
 refine cw Tryz.func104 Tryz.ntmps104 ?_
 intro F L w ρ0 R hR
 try dsimp only [slotsOf]
 refine sr (lr1 rfl (ns (lr1 rfl ?_)))
 refine WL.q [] rfl rfl rfl (q_ev tbOk (.v (.int .i64 (l.length : Int))) rfl tr lenT) ?_
 refine lr 3 rfl sideR ?_
 replace h := bnd h; obtain ⟨v, hvv, h⟩ := h
 refine WL.gcall0 fn58 rfl rfl rfl rfl rfl (fun _ => sideR) rfl (fun hg => (validWords_con hw (ite_t hg hvv))) ?_
 refine lr 2 rfl sideR ?_
 refine nr ?_
 cases h
 exact rt tbOk hR
theorem validateEntry_con {wg : World} (hw : WG wg) {e1 : ApiCodeEntry} {r : Int} (h : validateEntry e1 = some r) : Con Tryz.prog wg gl 53 [.v (.agg (eApiCodeEntry e1))] [] (.v (.int .i64 r)) [] := by
 unfold validateEntry at h
 refine cw Tryz.func53 Tryz.ntmps53 ?_
 intro F L w ρ0 R hR
 try dsimp only [slotsOf]
 refine sr (lr2 rfl (ns (lr2 rfl ?_)))
 replace h := bnd h; obtain ⟨v, hvv, h⟩ := h
 refine WL.call0 fn103 rfl rfl rfl rfl tr rfl (nomLevel_con hw hvv) ?_
 refine lr1 rfl (nn (sb (sr (lr3 rfl (nn ?_)))))
 refine WC.cond rfl (fun hc1 => ?_) (fun hc1 => ?_)
 ·replace h := ite_t hc1 h
  refine sr (lr1 rfl (nr (rb ?_)))
  cases h
  exact rt tbOk hR
 ·replace h := ite_f hc1 h
  refine sr ?_
  refine lr 16 rfl sideR ?_
  refine nn ?_
  refine WC.cond rfl (fun hc2 => ?_) (fun hc2 => ?_)
  ·replace h := ite_t hc2 h
   refine sr (lr1 rfl (nr (rb ?_)))
   cases h
   exact rt tbOk hR
  ·replace h := ite_f hc2 h
   refine sr (lr2 rfl ?_)
   refine WL.q [] rfl rfl rfl (q_ev tbOk (.v (.int .i64 (e1.Terms.length : Int))) rfl tr lenT) ?_
   refine lr2 rfl (nn ?_)
   refine WC.cond rfl (fun hc3 => ?_) (fun hc3 => ?_)
   ·replace h := ite_t hc3 h
    refine sr (lr1 rfl (nr (rb ?_)))
    cases h
    exact rt tbOk hR
   ·replace h := ite_f hc3 h
    refine WC.skip (bn (WC.seq (sr (lr2 rfl ?_))))
    refine WL.q [] rfl rfl rfl (q_ev tbOk (.v (.int .i64 (e1.Terms.length : Int))) rfl tr lenT) ?_
    refine lr1 rfl (nn ?_)
    refine WC.thenCut (X := Unit) (fun gG => ⟨[(3, .v (.int .i64 v)), (1, .p 1 0)], [(1, .blk 53 (kv (eApiCodeEntry e1)))]⟩) (fun gG => validateEntry_j1 e1 v = some r) ?_ ?_
    ·refine WC.block ?_
     obtain ⟨eQ1, hl1, hk1⟩ := bnd h
     clear h
     refine WC.loop (σ := Int) (τ := ((Int) ⊕ (Unit))) (fun sS => ⟨[(38, .v (.int .i64 sS)), (37, .v (.int .i64 (e1.Terms.length : Int))), (36, .v (.sl 1 (e1.Terms.map eLStr))), (3, .v (.int .i64 v)), (1, .p 1 0)], [(1, .blk 53 (kv (eApiCodeEntry e1)))]⟩) (validateEntry_b1 e1 v) [] (0 : Int) hl1 sub ?_
     intro t38 m hn1 he1 hx1
     obtain ⟨o1, hf1⟩ := some_of hx1
     have h := hf1
     unfold validateEntry_b1 at h
     try dsimp only
     refine sr (lr1 rfl (nn (WC.seq ?_)))
     refine WC.cond rfl (fun hc7 => ?_) (fun hc7 => ?_)
     ·replace h := ite_t hc7 h
      refine kn (sb (sr ?_))
      obtain ⟨g1, h⟩ := grd h
      replace h := bnd h; obtain ⟨x2, hxx2, h⟩ := h
      refine WL.q [] rfl rfl rfl (q_idx tbOk rfl tr g1 (map_get (f := eLStr) hxx2)) ?_
      refine lr2 rfl (ns (lr1 rfl ?_))
      replace h := bnd h; obtain ⟨v3, hvv3, h⟩ := h
      refine WL.call0 fn104 rfl rfl rfl rfl tr rfl (nomDescribed_con hw hvv3) ?_
      refine lr1 rfl (nn ?_)
      refine WC.cond rfl (fun hc8 => ?_) (fun hc8 => ?_)
      ·replace h := ite_t hc8 h
       refine sr (lr1 rfl (nr (rb ?_)))
       cases h
       have he := he1 _ hf1
       subst he
       have h : some (1 : Int) = some _ := hk1
       refine WQ.thenRet (rb ?_)
       cases h
       exact rt tbOk hR
      ·replace h := ite_f hc8 h
       refine WC.skip (bn (WC.region (lr2 rfl (WL.nil ?_))))
       cases h
       exact WQ.next [] (IntKind.i64.wrap (t38 + (1 : Int))) sub (hn1 _ hf1)
     ·replace h := ite_f hc7 h
      refine WC.exit (WQ.thenExit ?_)
      cases h
      have he := he1 _ hf1
      subst he
      replace h := hk1
      try dsimp only at h
      refine eb ?_
      exact WQ.cut [] () sub h
    ·intro _ h
     replace h : validateEntry_j1 e1 v = some _ := h
     unfold validateEntry_j1 at h
     try dsimp only
     refine sr (lr2 rfl ?_)
     refine WL.q [] rfl rfl rfl (q_ev tbOk (.v (.int .i64 (e1.Terms.length : Int))) rfl tr lenT) ?_
     refine lr2 rfl (ns (lr5 rfl (nn (WC.seq (sr (lr1 rfl (nn ?_)))))))
     refine WC.thenCut (X := Bool) (fun gG => ⟨[(7, .v (.bool gG))], []⟩) (fun gG => validateEntry_j2 gG = some r) ?_ ?_
     ·refine WC.block (sr (lr2 rfl (nn ?_)))
      refine WC.cond rfl (fun hc5 => ?_) (fun hc5 => ?_)
      ·replace h := ite_t hc5 h
       refine WC.region ?_
       refine lr 6 rfl sideR ?_
       refine WL.nil (WQ.blockNormal ?_)
       exact WQ.cut [] (bif (decide ((0 : Int) < (e1.Terms.length : Int))) then true else e1.Other) sub h
      ·replace h := ite_f hc5 h
       refine sr (lr2 rfl (nn ?_))
       refine WC.cond rfl (fun hc6 => ?_) (fun hc6 => ?_)
       ·replace h := ite_t hc6 h
        refine WC.region ?_
        refine lr 7 rfl sideR ?_
        refine WL.nil (WQ.blockNormal ?_)
        exact WQ.cut [] (bif (!(decide ((0 : Int) < (e1.Terms.length : Int)))) then true else e1.Other) sub h
       ·replace h := ite_f hc6 h
        refine WC.skip (WQ.blockNormal ?_)
        exact WQ.cut [] ((decide ((0 : Int) < (e1.Terms.length : Int))) == e1.Other) sub h
     ·intro wrong h
      replace h : validateEntry_j2 wrong = some _ := h
      unfold validateEntry_j2 at h
      try dsimp only
      refine WC.seq (sr (lr1 rfl (nn ?_)))
      refine WC.cond rfl (fun hc4 => ?_) (fun hc4 => ?_)
      ·replace h := ite_t hc4 h
       refine sr (lr1 rfl (nr (WQ.thenRet ?_)))
       cases h
       exact rt tbOk hR
      ·replace h := ite_f hc4 h
       refine kn (sr (lr1 rfl (nr ?_)))
       cases h
       exact rt tbOk hR
theorem validateNote_con {wg : World} (hw : WG wg) {n1 : ApiCodeNote} {r : Int} (h : validateNote n1 = some r) : Con Tryz.prog wg gl 56 [.v (.agg (eApiCodeNote n1))] [] (.v (.int .i64 r)) [] := by
 unfold validateNote at h
 refine cw Tryz.func56 Tryz.ntmps56 ?_
 intro F L w ρ0 R hR
 try dsimp only [slotsOf]
 refine sr (lr2 rfl (nn (WC.seq (sr (lr2 rfl ?_)))))
 replace h := bnd h; obtain ⟨v, hvv, h⟩ := h
 refine WL.call0 fn103 rfl rfl rfl rfl tr rfl (nomLevel_con hw hvv) ?_
 refine lr 4 rfl sideR ?_
 replace h := bnd h; obtain ⟨v2, hvv2, h⟩ := h
 refine WL.gcall0 fn104 rfl rfl rfl rfl rfl (fun _ => sideR) rfl (fun hg => (nomDescribed_con hw (ite_t hg hvv2))) ?_
 refine lr 2 rfl sideR ?_
 refine nn ?_
 refine WC.cond rfl (fun hc1 => ?_) (fun hc1 => ?_)
 ·replace h := ite_t hc1 h
  refine sr (lr1 rfl (nr (WQ.thenRet ?_)))
  cases h
  exact rt tbOk hR
 ·replace h := ite_f hc1 h
  refine kn (WC.seq (sr ?_))
  refine lr 6 rfl sideR ?_
  replace h := bnd h; obtain ⟨v3, hvv3, h⟩ := h
  refine WL.gcall0 fn103 rfl rfl rfl rfl rfl (fun _ => sideR) rfl (fun hg => (nomLevel_con hw (ite_t hg hvv3))) ?_
  refine lr 2 rfl sideR ?_
  refine nn ?_
  refine WC.cond rfl (fun hc2 => ?_) (fun hc2 => ?_)
  ·replace h := ite_t hc2 h
   refine sr (lr1 rfl (nr (WQ.thenRet ?_)))
   cases h
   exact rt tbOk hR
  ·replace h := ite_f hc2 h
   refine kn (sr (lr1 rfl (nr ?_)))
   cases h
   exact rt tbOk hR
theorem validateOrder_con {wg : World} (hw : WG wg) {before : ApiCodeEntry} {e1 : ApiCodeEntry} {r : Int} (h : validateOrder before e1 = some r) : Con Tryz.prog wg gl 54 [.v (.agg (eApiCodeEntry before)), .v (.agg (eApiCodeEntry e1))] [] (.v (.int .i64 r)) [] := by
 unfold validateOrder at h
 refine cw Tryz.func54 Tryz.ntmps54 ?_
 intro F L w ρ0 R hR
 try dsimp only [slotsOf]
 refine sr (lr3 rfl (nn (WC.seq (WC.seq (WC.order mixed ?_)))))
 refine wr 1 rfl trivial ?_
 replace h := bnd h; obtain ⟨v, hvv, h⟩ := h
 refine WR.call0 fn105 rfl rfl rfl rfl tr rfl (versionOf_con hw hvv) ?_
 refine wr 1 rfl trivial ?_
 replace h := bnd h; obtain ⟨v2, hvv2, h⟩ := h
 refine WR.call0 fn105 rfl rfl rfl rfl tr rfl (versionOf_con hw hvv2) ?_
 replace h := bnd h; obtain ⟨v3, hvv3, h⟩ := h
 refine WR.call0 fn106 rfl rfl rfl rfl tr rfl (versionCmp_con hw hvv3) ?_
 refine wr 1 rfl trivial ?_
 refine WR.nil (by kernel_rfl) (WQ.thenNormal ?_)
 refine WC.cond rfl (fun hc1 => ?_) (fun hc1 => ?_)
 ·replace h := ite_t hc1 h
  refine sr (lr1 rfl (nr (WQ.thenRet ?_)))
  cases h
  exact rt tbOk hR
 ·replace h := ite_f hc1 h
  refine kn (WC.seq (sr ?_))
  refine lr 12 rfl sideR ?_
  refine nn ?_
  refine WC.cond rfl (fun hc2 => ?_) (fun hc2 => ?_)
  ·replace h := ite_t hc2 h
   refine sr (lr1 rfl (nr (WQ.thenRet ?_)))
   cases h
   exact rt tbOk hR
  ·replace h := ite_f hc2 h
   refine kn (sr (lr1 rfl (nr ?_)))
   cases h
   exact rt tbOk hR
theorem hasParent_con {wg : World} (hw : WG wg) {b : ApiNomenclature} {e1 : ApiCodeEntry} {r : Bool} (h : hasParent b e1 = some r) : Con Tryz.prog wg gl 55 [.v (.agg (eApiNomenclature b)), .v (.agg (eApiCodeEntry e1))] [] (.v (.bool r)) [] := by
 unfold hasParent at h
 refine cw Tryz.func55 Tryz.ntmps55 ?_
 intro F L w ρ0 R hR
 try dsimp only [slotsOf]
 refine sr (lr3 rfl (nn (WC.seq (sr (lr4 rfl (nn ?_))))))
 refine WC.cond rfl (fun hc1 => ?_) (fun hc1 => ?_)
 ·replace h := ite_t hc1 h
  refine sr (lr1 rfl (nr (WQ.thenRet ?_)))
  cases h
  exact rt tbOk hR
 ·replace h := ite_f hc1 h
  refine kn (sr ?_)
  obtain ⟨g1, h⟩ := grd h
  refine lr 8 rfl (by repeat' (first | exact trivial | assumption | intro _ | exact g1 (by assumption) | apply And.intro | exact sideT | (refine and_i ?_ ?_))) ?_
  refine ns (lr3 rfl (nn (WC.seq (sr (lr2 rfl ?_)))))
  refine WL.q [] rfl rfl rfl (q_ev tbOk (.v (.int .i64 (b.Entries.length : Int))) rfl tr lenT) ?_
  refine lr1 rfl (nn ?_)
  refine WC.thenCut (X := Int) (fun gG => ⟨[(6, .v (.int .i64 gG)), (3, .p 3 0)], [(3, .blk 53 (kv (eApiCodeEntry e1)))]⟩) (fun gG => hasParent_j1 e1 gG = some r) ?_ ?_
  ·refine WC.block ?_
   obtain ⟨eQ1, hl1, hk1⟩ := bnd h
   clear h
   refine WC.loop (σ := Int × Int) (τ := (Int)) (fun sS => ⟨[(25, .v (.int .i64 sS.1)), (24, .v (.int .i64 (b.Entries.length : Int))), (23, .v (.sl 5 (b.Entries.map eApiCodeEntry))), (6, .v (.int .i64 sS.2)), (5, .v (.str ((e1.Code.take (IntKind.i64.wrap ((e1.Code.length : Int) - (2 : Int))).toNat).drop (0 : Int).toNat))), (3, .p 3 0)], [(3, .blk 53 (kv (eApiCodeEntry e1)))]⟩) (hasParent_b1 b e1) [] ((0 : Int), e1.From) hl1 sub ?_
   rintro ⟨t25, day2⟩ m hn1 he1 hx1
   obtain ⟨o1, hf1⟩ := some_of hx1
   have h := hf1
   unfold hasParent_b1 at h
   try dsimp only
   refine sr (lr1 rfl (nn (WC.seq ?_)))
   refine WC.cond rfl (fun hc2 => ?_) (fun hc2 => ?_)
   ·replace h := ite_t hc2 h
    refine kn (WC.seq ?_)
    refine WC.thenCut (X := Int) (fun gG => ⟨[(6, .v (.int .i64 gG)), (25, .v (.int .i64 t25)), (24, .v (.int .i64 (b.Entries.length : Int))), (23, .v (.sl 5 (b.Entries.map eApiCodeEntry))), (5, .v (.str ((e1.Code.take (IntKind.i64.wrap ((e1.Code.length : Int) - (2 : Int))).toNat).drop (0 : Int).toNat))), (3, .p 3 0)], [(3, .blk 53 (kv (eApiCodeEntry e1)))]⟩) (fun gG => hasParent_j2 b e1 t25 gG = some o1) ?_ ?_
    ·refine WC.block (sr ?_)
     obtain ⟨g2, h⟩ := grd h
     replace h := bnd h; obtain ⟨x2, hxx2, h⟩ := h
     refine WL.q [] rfl rfl rfl (q_idx tbOk rfl tr g2 (map_get (f := eApiCodeEntry) hxx2)) ?_
     refine lr3 rfl (ns ?_)
     refine lr 16 rfl sideR ?_
     refine nn ?_
     refine WC.cond rfl (fun hc3 => ?_) (fun hc3 => ?_)
     ·replace h := ite_t hc3 h
      refine WC.region (lr3 rfl (WL.nil (WQ.blockNormal ?_)))
      exact WQ.cut [] x2.To sub h
     ·replace h := ite_f hc3 h
      refine WC.skip (WQ.blockNormal ?_)
      exact WQ.cut [] day2 sub h
    ·intro day6 h
     replace h : hasParent_j2 b e1 t25 day6 = some _ := h
     unfold hasParent_j2 at h
     try dsimp only
     refine WC.region (lr2 rfl (WL.nil ?_))
     cases h
     exact WQ.next [] ((IntKind.i64.wrap (t25 + (1 : Int))), day6) sub (hn1 _ hf1)
   ·replace h := ite_f hc2 h
    refine WC.exit (WQ.thenExit ?_)
    cases h
    have he := he1 _ hf1
    subst he
    replace h := hk1
    try dsimp only at h
    refine eb ?_
    exact WQ.cut [] day2 sub h
  ·intro day h
   replace h : hasParent_j1 e1 day = some _ := h
   unfold hasParent_j1 at h
   try dsimp only
   refine sr (lr5 rfl (nr ?_))
   cases h
   exact rt tbOk hR
theorem nomValidate_con {wg : World} (hw : WG wg) {b : ApiNomenclature} {r : Int} (h : nomValidate b = some r) : Con Tryz.prog wg gl 29 [.v (.agg (eApiNomenclature b))] [] (.v (.int .i64 r)) [] := by
 unfold nomValidate at h
 refine cw Tryz.func29 Tryz.ntmps29 ?_
 intro F L w ρ0 R hR
 try dsimp only [slotsOf]
 refine sr (lr2 rfl (nn (WC.seq (sr (lr2 rfl ?_)))))
 refine WL.q [] rfl rfl rfl (q_ev tbOk (.v (.int .i64 (b.Entries.length : Int))) rfl tr lenT) ?_
 refine lr 4 rfl sideR ?_
 refine WL.gq [] rfl rfl rfl rfl (fun hg => q_ev tbOk (.v (.int .i64 (b.Notes.length : Int))) rfl sideR lenT) ?_
 refine lr 2 rfl sideR ?_
 refine nn ?_
 refine WC.cond rfl (fun hc1 => ?_) (fun hc1 => ?_)
 ·replace h := ite_t hc1 h
  refine sr (lr1 rfl (nr (WQ.thenRet ?_)))
  cases h
  exact rt tbOk hR
 ·replace h := ite_f hc1 h
  refine kn (WC.seq (sr (lr2 rfl ?_)))
  refine WL.q [] rfl rfl rfl (q_ev tbOk (.v (.int .i64 (b.Entries.length : Int))) rfl tr lenT) ?_
  refine lr1 rfl (nn ?_)
  refine WC.thenCut (X := Unit) (fun gG => ⟨[(1, .p 1 0)], [(1, .blk 26 (kv (eApiNomenclature b)))]⟩) (fun gG => nomValidate_j1 b = some r) ?_ ?_
  ·refine WC.block ?_
   obtain ⟨eQ3, hl3, hk3⟩ := bnd h
   clear h
   refine WC.loop (σ := Int) (τ := ((Int) ⊕ (Unit))) (fun sS => ⟨[(25, .v (.int .i64 sS)), (24, .v (.int .i64 (b.Entries.length : Int))), (23, .v (.sl 5 (b.Entries.map eApiCodeEntry))), (1, .p 1 0)], [(1, .blk 26 (kv (eApiNomenclature b)))]⟩) (nomValidate_b3 b) [] (0 : Int) hl3 sub ?_
   intro t25 m hn3 he3 hx3
   obtain ⟨o3, hf3⟩ := some_of hx3
   have h := hf3
   unfold nomValidate_b3 at h
   try dsimp only
   refine sr (lr1 rfl (nn (WC.seq ?_)))
   refine WC.cond rfl (fun hc6 => ?_) (fun hc6 => ?_)
   ·replace h := ite_t hc6 h
    refine kn (WC.seq ?_)
    refine WC.thenCut (X := Unit) (fun gG => ⟨[(25, .v (.int .i64 t25)), (24, .v (.int .i64 (b.Entries.length : Int))), (23, .v (.sl 5 (b.Entries.map eApiCodeEntry))), (1, .p 1 0)], [(1, .blk 26 (kv (eApiNomenclature b)))]⟩) (fun gG => nomValidate_j4 b t25 = some o3) ?_ ?_
    ·refine WC.block (sr (lr1 rfl ?_))
     obtain ⟨g3, h⟩ := grd h
     replace h := bnd h; obtain ⟨x7, hxx7, h⟩ := h
     refine WL.q [] rfl rfl rfl (q_idx tbOk rfl tr g3 (map_get (f := eApiCodeEntry) hxx7)) ?_
     refine lr4 rfl (nn (WC.seq (sr (lr1 rfl ?_))))
     replace h := bnd h; obtain ⟨v7, hvv7, h⟩ := h
     refine WL.call0 fn53 rfl rfl rfl rfl tr rfl (validateEntry_con hw hvv7) ?_
     refine lr1 rfl (ns (lr2 rfl (nn ?_)))
     refine WC.cond rfl (fun hc7 => ?_) (fun hc7 => ?_)
     ·replace h := ite_t hc7 h
      refine sr (lr2 rfl (nr (WQ.thenRet (rb ?_))))
      cases h
      have he := he3 _ hf3
      subst he
      have h : some v7 = some _ := hk3
      refine WQ.thenRet (rb ?_)
      cases h
      exact rt tbOk hR
     ·replace h := ite_f hc7 h
      refine kn (WC.seq (sr (lr2 rfl (nn ?_))))
      refine WC.cond rfl (fun hc8 => ?_) (fun hc8 => ?_)
      ·replace h := ite_t hc8 h
       refine WC.exit (eb ?_)
       exact WQ.cut [] () sub h
      ·replace h := ite_f hc8 h
       refine kn (WC.seq (WC.order mixed ?_))
       refine wr 4 rfl trivial ?_
       obtain ⟨g4, h⟩ := grd h
       replace h := bnd h; obtain ⟨x8, hxx8, h⟩ := h
       refine WR.q [] rfl rfl rfl (q_idx tbOk rfl tr g4 (map_get (f := eApiCodeEntry) hxx8)) ?_
       refine wr 2 rfl trivial ?_
       replace h := bnd h; obtain ⟨v8, hvv8, h⟩ := h
       refine WR.call0 fn54 rfl rfl rfl rfl tr rfl (validateOrder_con hw hvv8) ?_
       refine wr 1 rfl trivial ?_
       refine WR.nil (by kernel_rfl) (WQ.thenNormal (sr (lr2 rfl (nn ?_))))
       refine WC.cond rfl (fun hc9 => ?_) (fun hc9 => ?_)
       ·replace h := ite_t hc9 h
        refine sr (lr2 rfl (nr (rb ?_)))
        cases h
        have he := he3 _ hf3
        subst he
        have h : some v8 = some _ := hk3
        refine WQ.thenRet (rb ?_)
        cases h
        exact rt tbOk hR
       ·replace h := ite_f hc9 h
        refine WC.skip (WQ.blockNormal ?_)
        exact WQ.cut [] () sub h
    ·intro _ h
     replace h : nomValidate_j4 b t25 = some _ := h
     unfold nomValidate_j4 at h
     try dsimp only
     refine WC.region (lr2 rfl (WL.nil ?_))
     cases h
     exact WQ.next [] (IntKind.i64.wrap (t25 + (1 : Int))) sub (hn3 _ hf3)
   ·replace h := ite_f hc6 h
    refine WC.exit (WQ.thenExit ?_)
    cases h
    have he := he3 _ hf3
    subst he
    replace h := hk3
    try dsimp only at h
    refine eb ?_
    exact WQ.cut [] () sub h
  ·intro _ h
   replace h : nomValidate_j1 b = some _ := h
   unfold nomValidate_j1 at h
   try dsimp only
   refine WC.seq (sr (lr2 rfl ?_))
   refine WL.q [] rfl rfl rfl (q_ev tbOk (.v (.int .i64 (b.Entries.length : Int))) rfl tr lenT) ?_
   refine lr1 rfl (nn ?_)
   refine WC.thenCut (X := Unit) (fun gG => ⟨[(1, .p 1 0)], [(1, .blk 26 (kv (eApiNomenclature b)))]⟩) (fun gG => nomValidate_j2 b = some r) ?_ ?_
   ·refine WC.block ?_
    obtain ⟨eQ2, hl2, hk2⟩ := bnd h
    clear h
    refine WC.loop (σ := Int) (τ := ((Int) ⊕ (Unit))) (fun sS => ⟨[(52, .v (.int .i64 sS)), (51, .v (.int .i64 (b.Entries.length : Int))), (50, .v (.sl 5 (b.Entries.map eApiCodeEntry))), (1, .p 1 0)], [(1, .blk 26 (kv (eApiNomenclature b)))]⟩) (nomValidate_b2 b) [] (0 : Int) hl2 sub ?_
    intro t52 m hn2 he2 hx2
    obtain ⟨o2, hf2⟩ := some_of hx2
    have h := hf2
    unfold nomValidate_b2 at h
    try dsimp only
    refine sr (lr1 rfl (nn (WC.seq ?_)))
    refine WC.cond rfl (fun hc4 => ?_) (fun hc4 => ?_)
    ·replace h := ite_t hc4 h
     refine kn (sb (sr ?_))
     obtain ⟨g2, h⟩ := grd h
     replace h := bnd h; obtain ⟨x4, hxx4, h⟩ := h
     refine WL.q [] rfl rfl rfl (q_idx tbOk rfl tr g2 (map_get (f := eApiCodeEntry) hxx4)) ?_
     refine lr3 rfl (ns (lr2 rfl ?_))
     replace h := bnd h; obtain ⟨v4, hvv4, h⟩ := h
     refine WL.call0 fn55 rfl rfl rfl rfl tr rfl (hasParent_con hw hvv4) ?_
     refine lr1 rfl (nn ?_)
     refine WC.cond rfl (fun hc5 => ?_) (fun hc5 => ?_)
     ·replace h := ite_t hc5 h
      refine sr (lr1 rfl (nr (rb ?_)))
      cases h
      have he := he2 _ hf2
      subst he
      have h : some (6 : Int) = some _ := hk2
      refine WQ.thenRet (rb ?_)
      cases h
      exact rt tbOk hR
     ·replace h := ite_f hc5 h
      refine WC.skip (bn (WC.region (lr2 rfl (WL.nil ?_))))
      cases h
      exact WQ.next [] (IntKind.i64.wrap (t52 + (1 : Int))) sub (hn2 _ hf2)
    ·replace h := ite_f hc4 h
     refine WC.exit (WQ.thenExit ?_)
     cases h
     have he := he2 _ hf2
     subst he
     replace h := hk2
     try dsimp only at h
     refine eb ?_
     exact WQ.cut [] () sub h
   ·intro _ h
    replace h : nomValidate_j2 b = some _ := h
    unfold nomValidate_j2 at h
    try dsimp only
    refine WC.seq (sr (lr2 rfl ?_))
    refine WL.q [] rfl rfl rfl (q_ev tbOk (.v (.int .i64 (b.Notes.length : Int))) rfl tr lenT) ?_
    refine lr1 rfl (nn ?_)
    refine WC.thenCut (X := Unit) (fun gG => ⟨[], []⟩) (fun gG => nomValidate_j3  = some r) ?_ ?_
    ·refine WC.block ?_
     obtain ⟨eQ1, hl1, hk1⟩ := bnd h
     clear h
     refine WC.loop (σ := Int) (τ := ((Int) ⊕ (Unit))) (fun sS => ⟨[(64, .v (.int .i64 sS)), (63, .v (.int .i64 (b.Notes.length : Int))), (62, .v (.sl 3 (b.Notes.map eApiCodeNote)))], []⟩) (nomValidate_b1 b) [] (0 : Int) hl1 sub ?_
     intro t64 m hn1 he1 hx1
     obtain ⟨o1, hf1⟩ := some_of hx1
     have h := hf1
     unfold nomValidate_b1 at h
     try dsimp only
     refine sr (lr1 rfl (nn (WC.seq ?_)))
     refine WC.cond rfl (fun hc2 => ?_) (fun hc2 => ?_)
     ·replace h := ite_t hc2 h
      refine kn (sb (sr ?_))
      obtain ⟨g1, h⟩ := grd h
      replace h := bnd h; obtain ⟨x2, hxx2, h⟩ := h
      refine WL.q [] rfl rfl rfl (q_idx tbOk rfl tr g1 (map_get (f := eApiCodeNote) hxx2)) ?_
      refine lr3 rfl (ns (lr1 rfl ?_))
      replace h := bnd h; obtain ⟨v2, hvv2, h⟩ := h
      refine WL.call0 fn56 rfl rfl rfl rfl tr rfl (validateNote_con hw hvv2) ?_
      refine lr1 rfl (ns (lr2 rfl (nn ?_)))
      refine WC.cond rfl (fun hc3 => ?_) (fun hc3 => ?_)
      ·replace h := ite_t hc3 h
       refine sr (lr2 rfl (nr (rb ?_)))
       cases h
       have he := he1 _ hf1
       subst he
       have h : some v2 = some _ := hk1
       refine WQ.thenRet (rb ?_)
       cases h
       exact rt tbOk hR
      ·replace h := ite_f hc3 h
       refine WC.skip (bn (WC.region (lr2 rfl (WL.nil ?_))))
       cases h
       exact WQ.next [] (IntKind.i64.wrap (t64 + (1 : Int))) sub (hn1 _ hf1)
     ·replace h := ite_f hc2 h
      refine WC.exit (WQ.thenExit ?_)
      cases h
      have he := he1 _ hf1
      subst he
      replace h := hk1
      try dsimp only at h
      refine eb ?_
      exact WQ.cut [] () sub h
    ·intro _ h
     replace h : nomValidate_j3 = some _ := h
     unfold nomValidate_j3 at h
     try dsimp only
     refine sr (lr1 rfl (nr ?_))
     cases h
     exact rt tbOk hR
end Go.Proofs.YtaeplfiaahkgpaaGreatDoor
end

section
set_option linter.unusedVariables false
set_option linter.unusedSimpArgs false
set_option maxHeartbeats 4000000
set_option maxRecDepth 20000
namespace Go.Proofs.YtaeplfiaahkgpaaGreatDoor
open Go.V Go.C
theorem sIndex_con {wg : World} (hw : WG wg) {s : (List Str)} {v : Str} {r : Int} (h : sIndex s v = some r) : Con Tryz.prog wg gl 138 [.v (.sl 1 (s.map eStr)), .v (.str v)] [] (.v (.int .i64 r)) [] := by
 unfold sIndex at h
 refine cw Tryz.func138 Tryz.ntmps138 ?_
 intro F L w ρ0 R hR
 try dsimp only [slotsOf]
 refine sr (lr1 rfl (nn (WC.seq (sr (lr1 rfl ?_)))))
 refine WL.q [] rfl rfl rfl (q_ev tbOk (.v (.int .i64 (s.length : Int))) rfl tr lenT) ?_
 refine lr1 rfl (nn ?_)
 refine WC.thenCut (X := Unit) (fun gG => ⟨[], []⟩) (fun gG => sIndex_j1  = some r) ?_ ?_
 ·refine WC.block ?_
  obtain ⟨eQ1, hl1, hk1⟩ := bnd h
  clear h
  refine WC.loop (σ := Int) (τ := ((Int) ⊕ (Unit))) (fun sS => ⟨[(8, .v (.int .i64 sS)), (7, .v (.int .i64 (s.length : Int))), (0, .v (.sl 1 (s.map eStr))), (1, .v (.str v))], []⟩) (sIndex_b1 s v) [] (0 : Int) hl1 sub ?_
  intro t8 m hn1 he1 hx1
  obtain ⟨o1, hf1⟩ := some_of hx1
  have h := hf1
  unfold sIndex_b1 at h
  try dsimp only
  refine sr (lr1 rfl (nn (WC.seq ?_)))
  refine WC.cond rfl (fun hc1 => ?_) (fun hc1 => ?_)
  ·replace h := ite_t hc1 h
   refine kn (sb (sr (lr2 rfl (ns (lr3 rfl ?_)))))
   obtain ⟨g1, h⟩ := grd h
   replace h := bnd h; obtain ⟨x2, hxx2, h⟩ := h
   refine WL.q [] rfl rfl rfl (q_idx tbOk rfl tr g1 (map_get (f := eStr) hxx2)) ?_
   refine lr2 rfl (nn ?_)
   refine WC.cond rfl (fun hc2 => ?_) (fun hc2 => ?_)
   ·replace h := ite_t hc2 h
    refine sr (lr2 rfl (nr (rb ?_)))
    cases h
    have he := he1 _ hf1
    subst he
    have h : some t8 = some _ := hk1
    refine WQ.thenRet (rb ?_)
    cases h
    exact rt tbOk hR
   ·replace h := ite_f hc2 h
    refine WC.skip (bn (WC.region (lr2 rfl (WL.nil ?_))))
    cases h
    exact WQ.next [] (IntKind.i64.wrap (t8 + (1 : Int))) sub (hn1 _ hf1)
  ·replace h := ite_f hc1 h
   refine WC.exit (WQ.thenExit ?_)
   cases h
   have he := he1 _ hf1
   subst he
   replace h := hk1
   try dsimp only at h
   refine eb ?_
   exact WQ.cut [] () sub h
 ·intro _ h
  replace h : sIndex_j1 = some _ := h
  unfold sIndex_j1 at h
  try dsimp only
  refine sr (lr1 rfl (nr ?_))
  cases h
  exact rt tbOk hR
theorem sContains_con {wg : World} (hw : WG wg) {s : (List Str)} {v : Str} {r : Bool} (h : sContains s v = some r) : Con Tryz.prog wg gl 89 [.v (.sl 1 (s.map eStr)), .v (.str v)] [] (.v (.bool r)) [] := by
 unfold sContains at h
 refine cw Tryz.func89 Tryz.ntmps89 ?_
 intro F L w ρ0 R hR
 try dsimp only [slotsOf]
 refine sr (lr1 rfl (ns (lr2 rfl ?_)))
 replace h := bnd h; obtain ⟨v2, hvv2, h⟩ := h
 refine WL.call0 fn138 rfl rfl rfl rfl tr rfl (sIndex_con hw hvv2) ?_
 refine lr2 rfl (nr ?_)
 cases h
 exact rt tbOk hR
theorem memberIn_con {wg : World} (hw : WG wg) {s : Str} {a1 : (List Str)} {r : Bool} (h : memberIn s a1 = some r) : Con Tryz.prog wg gl 169 [.v (.str s), .p 1 0] [(1, .blk 28 [.v (.sl 1 (a1.map eStr))])] (.v (.bool r)) [(1, .blk 28 [.v (.sl 1 (a1.map eStr))])] := by
 unfold memberIn at h
 refine cw Tryz.func169 Tryz.ntmps169 ?_
 intro F L w ρ0 R hR
 try dsimp only [slotsOf]
 refine sr (lr1 rfl (ns (lr2 rfl ?_)))
 replace h := bnd h; obtain ⟨v, hvv, h⟩ := h
 refine WL.call0 fn89 rfl rfl rfl rfl tr rfl (sContains_con hw hvv) ?_
 refine lr1 rfl (nr ?_)
 cases h
 exact rt tbOk hR
theorem member_con {wg : World} (hw : WG wg) {l : (List Str)} {r : (List Str)} (h : member l = some r) : Con Tryz.prog wg gl 148 [.v (.sl 1 (l.map eStr))] [] (.fn 169 [.p 500 0]) [(500, .blk 28 [.v (.sl 1 (r.map eStr))])] := by
 unfold member at h
 refine cw Tryz.func148 Tryz.ntmps148 ?_
 intro F L w ρ0 R hR
 try dsimp only [slotsOf]
 refine sr (lr2 rfl (nn (WC.seq (sr (lr1 rfl ?_)))))
 refine WL.q [] rfl rfl rfl (q_ev tbOk (.v (.int .i64 (l.length : Int))) rfl tr lenT) ?_
 refine lr1 rfl (nn ?_)
 refine WC.cond rfl (fun hc1 => ?_) (fun hc1 => ?_)
 ·replace h := ite_t hc1 h
  refine sr (lr2 rfl (nr (WQ.thenRet ?_)))
  cases h
  exact WQ.rets tbOk hR [(500, 1)] (.inl rfl) rfl rfl (Le.refl _) eqs rfl rfl rfl rfl
 ·replace h := ite_f hc1 h
  refine kn (WC.seq ?_)
  cases h
theorem subset_con {wg : World} (hw : WG wg) {a : (List Str)} {b : (List Str)} {r : Bool} (h : subset a b = some r) : Con Tryz.prog wg gl 112 [.v (.sl 1 (a.map eStr)), .v (.sl 1 (b.map eStr))] [] (.v (.bool r)) [] := by
 unfold subset at h
 refine cw Tryz.func112 Tryz.ntmps112 ?_
 intro F L w ρ0 R hR
 try dsimp only [slotsOf]
 refine sr (lr1 rfl (ns (lr1 rfl ?_)))
 replace h := bnd h; obtain ⟨v, hvv, h⟩ := h
 refine WL.callO [] [(500, 9)] [9] fn148 rfl rfl rfl rfl tr (member_con hw hvv) rfl rfl tr rfl rfl rfl rfl rfl rfl ?_
 refine lr1 rfl (nn (WC.seq (sr (lr1 rfl ?_))))
 refine WL.q [] rfl rfl rfl (q_ev tbOk (.v (.int .i64 (a.length : Int))) rfl tr lenT) ?_
 refine lr1 rfl (nn ?_)
 refine WC.thenCut (X := Unit) (fun gG => ⟨[], []⟩) (fun gG => subset_j1  = some r) ?_ ?_
 ·refine WC.block ?_
  obtain ⟨eQ1, hl1, hk1⟩ := bnd h
  clear h
  refine WC.loop (σ := Int) (τ := ((Bool) ⊕ (Unit))) (fun sS => ⟨[(12, .v (.int .i64 sS)), (11, .v (.int .i64 (a.length : Int))), (10, .v (.sl 1 (a.map eStr))), (5, .fn 169 [.p 9 0])], [(9, .blk 28 [.v (.sl 1 (v.map eStr))])]⟩) (subset_b1 a v) [] (0 : Int) hl1 sub ?_
  intro t12 m hn1 he1 hx1
  obtain ⟨o1, hf1⟩ := some_of hx1
  have h := hf1
  unfold subset_b1 at h
  try dsimp only
  refine sr (lr1 rfl (nn (WC.seq ?_)))
  refine WC.cond rfl (fun hc1 => ?_) (fun hc1 => ?_)
  ·replace h := ite_t hc1 h
   refine kn (sb (sr ?_))
   obtain ⟨g1, h⟩ := grd h
   replace h := bnd h; obtain ⟨x2, hxx2, h⟩ := h
   refine WL.q [] rfl rfl rfl (q_idx tbOk rfl tr g1 (map_get (f := eStr) hxx2)) ?_
   refine lr2 rfl (ns (lr2 rfl ?_))
   replace h := bnd h; obtain ⟨v3, hvv3, h⟩ := h
   refine WL.callO [(1, 9)] [(1, 9)] [9] fn169 rfl rfl rfl rfl tr (memberIn_con hw hvv3) rfl rfl eqs rfl rfl rfl rfl rfl rfl ?_
   refine lr1 rfl (nn ?_)
   refine WC.cond rfl (fun hc2 => ?_) (fun hc2 => ?_)
   ·replace h := ite_t hc2 h
    refine sr (lr1 rfl (nr (rb ?_)))
    cases h
    have he := he1 _ hf1
    subst he
    have h : some false = some _ := hk1
    refine WQ.thenRet (rb ?_)
    cases h
    exact rt tbOk hR
   ·replace h := ite_f hc2 h
    refine WC.skip (bn (WC.region (lr2 rfl (WL.nil ?_))))
    cases h
    exact WQ.next [] (IntKind.i64.wrap (t12 + (1 : Int))) sub (hn1 _ hf1)
  ·replace h := ite_f hc1 h
   refine WC.exit (WQ.thenExit ?_)
   cases h
   have he := he1 _ hf1
   subst he
   replace h := hk1
   try dsimp only at h
   refine eb ?_
   exact WQ.cut [] () sub h
 ·intro _ h
  replace h : subset_j1 = some _ := h
  unfold subset_j1 at h
  try dsimp only
  refine sr (lr1 rfl (nr ?_))
  cases h
  exact rt tbOk hR
theorem cloneWords_con {wg : World} (hw : WG wg) {l : (List (List Str))} {r : (List (List Str))} (h : cloneWords l = some r) : Con Tryz.prog wg gl 137 [.v (.sl 1 (l.map eLStr))] [] (.r 500) [(500, .row 28 1 (r.map eLStr))] := by
 unfold cloneWords at h
 refine cw Tryz.func137 Tryz.ntmps137 ?_
 intro F L w ρ0 R hR
 try dsimp only [slotsOf]
 refine sr (lr1 rfl (ns (lr1 rfl (nn (WC.seq (sr (lr1 rfl ?_)))))))
 refine WL.q [] rfl rfl rfl (q_ev tbOk (.v (.int .i64 (l.length : Int))) rfl tr lenT) ?_
 refine lr1 rfl (nn ?_)
 refine WC.thenCut (X := (List (List Str))) (fun gG => ⟨[(3, .r 1003)], [(1003, .row 28 1 (gG.map eLStr))]⟩) (fun gG => cloneWords_j1 gG = some r) ?_ ?_
 ·refine WC.block ?_
  obtain ⟨eQ1, hl1, hk1⟩ := bnd h
  clear h
  refine WC.rowNil 3 1003 28 1 rfl rfl ?_
  refine WC.loop (σ := Int × (List (List Str))) (τ := ((List (List Str)))) (fun sS => ⟨[(8, .v (.int .i64 sS.1)), (7, .v (.int .i64 (l.length : Int))), (6, .v (.sl 1 (l.map eLStr))), (3, .r 1003)], [(1003, .row 28 1 (sS.2.map eLStr))]⟩) (cloneWords_b1 l) [] ((0 : Int), []) hl1 sub ?_
  rintro ⟨t82, result2⟩ m hn1 he1 hx1
  obtain ⟨o1, hf1⟩ := some_of hx1
  have h := hf1
  unfold cloneWords_b1 at h
  try dsimp only
  refine sr (lr1 rfl (nn (WC.seq ?_)))
  refine WC.cond rfl (fun hc1 => ?_) (fun hc1 => ?_)
  ·replace h := ite_t hc1 h
   refine kn (sb (sr ?_))
   obtain ⟨g1, h⟩ := grd h
   replace h := bnd h; obtain ⟨x3, hxx3, h⟩ := h
   refine WL.q [] rfl rfl rfl (q_idx tbOk rfl tr g1 (map_get (f := eLStr) hxx3)) ?_
   refine lr2 rfl (nn (WC.region (lr2 rfl ?_)))
   replace h := bnd h; obtain ⟨v3, hvv3, h⟩ := h
   refine WL.call0 fn119 rfl rfl rfl rfl tr rfl (cloneS_con hw hvv3) ?_
   refine lr1 rfl ?_
   obtain ⟨g2, h⟩ := grd h
   refine WL.append tbOk ((result2 ++ [v3]).map eLStr) [16, 1003] ap51 rfl rfl rfl rfl (fun _ e => by cases e; rfl) tr (map_cells (f := eLStr) (xs := [v3]) fun _ => rfl) (by have := g2; simp only [List.length_map, List.length_nil, List.length_cons] at this ⊢; omega) rfl rfl (by simp only [List.map_append]; try rfl) rfl ?_
   refine lr1 rfl (WL.nil (bn (WC.region (lr2 rfl (WL.nil ?_)))))
   cases h
   exact WQ.next [(1003, 16)] ((IntKind.i64.wrap (t82 + (1 : Int))), (result2 ++ [v3])) sub (hn1 _ hf1)
  ·replace h := ite_f hc1 h
   refine WC.exit (WQ.thenExit ?_)
   cases h
   have he := he1 _ hf1
   subst he
   replace h := hk1
   try dsimp only at h
   refine eb ?_
   exact WQ.cut [] result2 sub h
 ·intro result h
  replace h : cloneWords_j1 result = some _ := h
  unfold cloneWords_j1 at h
  try dsimp only
  refine sr (lr2 rfl (nr ?_))
  cases h
  exact WQ.rets tbOk hR [(500, 1003)] (.inl rfl) rfl rfl (Le.refl _) eqs rfl rfl rfl rfl
theorem nomAt_con {wg : World} (hw : WG wg) {b : ApiNomenclature} {day : Int} {r : (List ApiCodeEntry)} (h : nomAt b day = some r) : Con Tryz.prog wg gl 86 [.v (.agg (eApiNomenclature b)), .v (.int .i64 day)] [] (.v (.sl 5 (r.map eApiCodeEntry))) [] := by
 unfold nomAt at h
 refine cw Tryz.func86 Tryz.ntmps86 ?_
 intro F L w ρ0 R hR
 try dsimp only [slotsOf]
 refine sr (lr2 rfl (ns (lr1 rfl (nn (WC.seq (sr (lr2 rfl ?_)))))))
 refine WL.q [] rfl rfl rfl (q_ev tbOk (.v (.int .i64 (b.Entries.length : Int))) rfl tr lenT) ?_
 refine lr1 rfl (nn ?_)
 refine WC.thenCut (X := (List ApiCodeEntry)) (fun gG => ⟨[(5, .r 1005)], [(1005, .row 53 5 (gG.map eApiCodeEntry))]⟩) (fun gG => nomAt_j1 gG = some r) ?_ ?_
 ·refine WC.block ?_
  obtain ⟨eQ1, hl1, hk1⟩ := bnd h
  clear h
  refine WC.rowNil 5 1005 53 5 rfl rfl ?_
  refine WC.loop (σ := Int × (List ApiCodeEntry)) (τ := ((List ApiCodeEntry))) (fun sS => ⟨[(11, .v (.int .i64 sS.1)), (10, .v (.int .i64 (b.Entries.length : Int))), (9, .v (.sl 5 (b.Entries.map eApiCodeEntry))), (5, .r 1005), (1, .v (.int .i64 day))], [(1005, .row 53 5 (sS.2.map eApiCodeEntry))]⟩) (nomAt_b1 b day) [] ((0 : Int), []) hl1 sub ?_
  rintro ⟨t112, l3⟩ m hn1 he1 hx1
  obtain ⟨o1, hf1⟩ := some_of hx1
  have h := hf1
  unfold nomAt_b1 at h
  try dsimp only
  refine sr (lr1 rfl (nn (WC.seq ?_)))
  refine WC.cond rfl (fun hc1 => ?_) (fun hc1 => ?_)
  ·replace h := ite_t hc1 h
   refine kn (WC.seq ?_)
   refine WC.thenCut (X := (List ApiCodeEntry)) (fun gG => ⟨[(5, .r 1005), (11, .v (.int .i64 t112)), (10, .v (.int .i64 (b.Entries.length : Int))), (9, .v (.sl 5 (b.Entries.map eApiCodeEntry))), (1, .v (.int .i64 day))], [(1005, .row 53 5 (gG.map eApiCodeEntry))]⟩) (fun gG => nomAt_j2 b day t112 gG = some o1) ?_ ?_
   ·refine WC.block (sr ?_)
    obtain ⟨g1, h⟩ := grd h
    replace h := bnd h; obtain ⟨x3, hxx3, h⟩ := h
    refine WL.q [] rfl rfl rfl (q_idx tbOk rfl tr g1 (map_get (f := eApiCodeEntry) hxx3)) ?_
    refine lr3 rfl (ns ?_)
    refine lr 10 rfl sideR ?_
    refine nn ?_
    refine WC.cond rfl (fun hc2 => ?_) (fun hc2 => ?_)
    ·replace h := ite_t hc2 h
     refine sr (lr2 rfl ?_)
     replace h := bnd h; obtain ⟨v3, hvv3, h⟩ := h
     refine WL.callO [] [(500, 27)] [27] fn137 rfl rfl rfl rfl tr (cloneWords_con hw hvv3) rfl rfl tr rfl rfl rfl rfl rfl rfl ?_
     refine lr2 rfl (nn ?_)
     refine WC.publish 27 rfl rfl ?_
     refine WC.region (lr3 rfl ?_)
     obtain ⟨g2, h⟩ := grd h
     refine WL.append tbOk ((l3 ++ [(⟨x3.Code, x3.From, x3.To, v3, x3.Other⟩ : ApiCodeEntry)]).map eApiCodeEntry) [32, 1005] ap23 rfl rfl rfl rfl (fun _ e => by cases e; rfl) tr (map_cells (f := eApiCodeEntry) (xs := [(⟨x3.Code, x3.From, x3.To, v3, x3.Other⟩ : ApiCodeEntry)]) fun _ => rfl) (by have := g2; simp only [List.length_map, List.length_nil, List.length_cons] at this ⊢; omega) rfl rfl (by simp only [List.map_append]; try rfl) rfl ?_
     refine lr1 rfl (WL.nil (WQ.blockNormal ?_))
     exact WQ.cut [(1005, 32)] (l3 ++ [(⟨x3.Code, x3.From, x3.To, v3, x3.Other⟩ : ApiCodeEntry)]) sub h
    ·replace h := ite_f hc2 h
     refine WC.skip (WQ.blockNormal ?_)
     exact WQ.cut [] l3 sub h
   ·intro l6 h
    replace h : nomAt_j2 b day t112 l6 = some _ := h
    unfold nomAt_j2 at h
    try dsimp only
    refine WC.region (lr2 rfl (WL.nil ?_))
    cases h
    exact WQ.next [] ((IntKind.i64.wrap (t112 + (1 : Int))), l6) sub (hn1 _ hf1)
  ·replace h := ite_f hc1 h
   refine WC.exit (WQ.thenExit ?_)
   cases h
   have he := he1 _ hf1
   subst he
   replace h := hk1
   try dsimp only at h
   refine eb ?_
   exact WQ.cut [] l3 sub h
 ·intro l h
  replace h : nomAt_j1 l = some _ := h
  unfold nomAt_j1 at h
  try dsimp only
  refine sr (lr2 rfl (nr ?_))
  refine WQ.publish 1005 rfl rfl ?_
  cases h
  exact rt tbOk hR
theorem nomFind_con {wg : World} (hw : WG wg) {b : ApiNomenclature} {day : Int} {code : Str} {r : ApiCodeEntry × Bool} (h : nomFind b day code = some r) : Con Tryz.prog wg gl 40 [.v (.agg (eApiNomenclature b)), .v (.int .i64 day), .v (.str code)] [] (.tup [.v (.agg (eApiCodeEntry r.1)), .v (.bool r.2)]) [] := by
 unfold nomFind at h
 refine cw Tryz.func40 Tryz.ntmps40 ?_
 intro F L w ρ0 R hR
 try dsimp only [slotsOf]
 refine sr (lr3 rfl (nn (WC.seq (sr (lr2 rfl ?_)))))
 replace h := bnd h; obtain ⟨v, hvv, h⟩ := h
 refine WL.call0 fn86 rfl rfl rfl rfl tr rfl (nomAt_con hw hvv) ?_
 refine WL.q [] rfl rfl rfl (q_ev tbOk (.v (.int .i64 (v.length : Int))) rfl tr lenT) ?_
 refine lr1 rfl (nn ?_)
 refine WC.thenCut (X := Unit) (fun gG => ⟨[(6, .p 6 0)], [(6, .blk 53 [.v (.str []), .v (.int .i64 0), .v (.int .i64 0), .v (.raw (.slice none 0 0)), .v (.bool false)])]⟩) (fun gG => nomFind_j1  = some r) ?_ ?_
 ·refine WC.block ?_
  obtain ⟨eQ1, hl1, hk1⟩ := bnd h
  clear h
  refine WC.loop (σ := Int) (τ := ((ApiCodeEntry × Bool) ⊕ (Unit))) (fun sS => ⟨[(14, .v (.int .i64 sS)), (13, .v (.int .i64 (v.length : Int))), (12, .v (.sl 5 (v.map eApiCodeEntry))), (6, .p 6 0), (2, .v (.str code))], [(6, .blk 53 [.v (.str []), .v (.int .i64 0), .v (.int .i64 0), .v (.raw (.slice none 0 0)), .v (.bool false)])]⟩) (nomFind_b1 code v) [] (0 : Int) hl1 sub ?_
  intro t14 m hn1 he1 hx1
  obtain ⟨o1, hf1⟩ := some_of hx1
  have h := hf1
  unfold nomFind_b1 at h
  try dsimp only
  refine sr (lr1 rfl (nn (WC.seq ?_)))
  refine WC.cond rfl (fun hc1 => ?_) (fun hc1 => ?_)
  ·replace h := ite_t hc1 h
   refine kn (sb (sr ?_))
   obtain ⟨g1, h⟩ := grd h
   replace h := bnd h; obtain ⟨x2, hxx2, h⟩ := h
   refine WL.q [] rfl rfl rfl (q_idx tbOk rfl tr g1 (map_get (f := eApiCodeEntry) hxx2)) ?_
   refine lr3 rfl (ns (lr4 rfl (nn ?_)))
   refine WC.cond rfl (fun hc2 => ?_) (fun hc2 => ?_)
   ·replace h := ite_t hc2 h
    refine sr (lr3 rfl (nr (rb ?_)))
    cases h
    have he := he1 _ hf1
    subst he
    have h : some (x2, true) = some _ := hk1
    refine WQ.thenRet (rb ?_)
    cases h
    exact WQ.rets tbOk (r := .tup [.v (.agg (eApiCodeEntry x2)), .v (.bool true)]) hR [] (.inl rfl) rfl rfl (Le.tup (.cons (Le.refl _) (.cons (Le.refl _) .nil))) tr rfl rfl rfl rfl
   ·replace h := ite_f hc2 h
    refine WC.skip (bn (WC.region (lr2 rfl (WL.nil ?_))))
    cases h
    exact WQ.next [] (IntKind.i64.wrap (t14 + (1 : Int))) sub (hn1 _ hf1)
  ·replace h := ite_f hc1 h
   refine WC.exit (WQ.thenExit ?_)
   cases h
   have he := he1 _ hf1
   subst he
   replace h := hk1
   try dsimp only at h
   refine eb ?_
   exact WQ.cut [] () sub h
 ·intro _ h
  replace h : nomFind_j1 = some _ := h
  unfold nomFind_j1 at h
  try dsimp only
  refine sr (lr3 rfl (nr ?_))
  cases h
  exact WQ.rets tbOk (r := .tup [.v (.agg [.str ((⟨[], 0, 0, [], false⟩ : ApiCodeEntry).Code), .int .i64 ((⟨[], 0, 0, [], false⟩ : ApiCodeEntry).From), .int .i64 ((⟨[], 0, 0, [], false⟩ : ApiCodeEntry).To), .sl 1 (((⟨[], 0, 0, [], false⟩ : ApiCodeEntry).Terms).map eLStr), .bool ((⟨[], 0, 0, [], false⟩ : ApiCodeEntry).Other)]), .v (.bool false)]) hR [] (.inl rfl) rfl rfl (Le.tup (.cons (Le.agg (.same (.same (.same (.sl 1 (.same .nil)))))) (.cons (Le.refl _) .nil))) tr rfl rfl rfl rfl
theorem nomBelow_con {wg : World} (hw : WG wg) {b : ApiNomenclature} {day : Int} {code : Str} {r : (List ApiCodeEntry)} (h : nomBelow b day code = some r) : Con Tryz.prog wg gl 61 [.v (.agg (eApiNomenclature b)), .v (.int .i64 day), .v (.str code)] [] (.v (.sl 5 (r.map eApiCodeEntry))) [] := by
 unfold nomBelow at h
 refine cw Tryz.func61 Tryz.ntmps61 ?_
 intro F L w ρ0 R hR
 try dsimp only [slotsOf]
 refine sr (lr2 rfl (ns (lr1 rfl (nn (WC.seq (sr (lr2 rfl ?_)))))))
 replace h := bnd h; obtain ⟨v, hvv, h⟩ := h
 refine WL.call0 fn86 rfl rfl rfl rfl tr rfl (nomAt_con hw hvv) ?_
 refine WL.q [] rfl rfl rfl (q_ev tbOk (.v (.int .i64 (v.length : Int))) rfl tr lenT) ?_
 refine lr1 rfl (nn ?_)
 refine WC.thenCut (X := (List ApiCodeEntry)) (fun gG => ⟨[(7, .r 1007)], [(1007, .row 53 5 (gG.map eApiCodeEntry))]⟩) (fun gG => nomBelow_j1 gG = some r) ?_ ?_
 ·refine WC.block ?_
  obtain ⟨eQ1, hl1, hk1⟩ := bnd h
  clear h
  refine WC.rowNil 7 1007 53 5 rfl rfl ?_
  refine WC.loop (σ := Int × (List ApiCodeEntry)) (τ := ((List ApiCodeEntry))) (fun sS => ⟨[(15, .v (.int .i64 sS.1)), (14, .v (.int .i64 (v.length : Int))), (13, .v (.sl 5 (v.map eApiCodeEntry))), (7, .r 1007), (2, .v (.str code))], [(1007, .row 53 5 (sS.2.map eApiCodeEntry))]⟩) (nomBelow_b1 code v) [] ((0 : Int), []) hl1 sub ?_
  rintro ⟨t152, l3⟩ m hn1 he1 hx1
  obtain ⟨o1, hf1⟩ := some_of hx1
  have h := hf1
  unfold nomBelow_b1 at h
  try dsimp only
  refine sr (lr1 rfl (nn (WC.seq ?_)))
  refine WC.cond rfl (fun hc1 => ?_) (fun hc1 => ?_)
  ·replace h := ite_t hc1 h
   refine kn (WC.seq ?_)
   refine WC.thenCut (X := (List ApiCodeEntry)) (fun gG => ⟨[(7, .r 1007), (15, .v (.int .i64 t152)), (14, .v (.int .i64 (v.length : Int))), (13, .v (.sl 5 (v.map eApiCodeEntry))), (2, .v (.str code))], [(1007, .row 53 5 (gG.map eApiCodeEntry))]⟩) (fun gG => nomBelow_j2 code v t152 gG = some o1) ?_ ?_
   ·refine WC.block (sr ?_)
    obtain ⟨g1, h⟩ := grd h
    replace h := bnd h; obtain ⟨x3, hxx3, h⟩ := h
    refine WL.q [] rfl rfl rfl (q_idx tbOk rfl tr g1 (map_get (f := eApiCodeEntry) hxx3)) ?_
    refine lr3 rfl (ns (lr4 rfl (ns ?_)))
    obtain ⟨g2, h⟩ := grd h
    refine lr 23 rfl (by repeat' (first | exact trivial | assumption | intro _ | exact g2 (by assumption) | apply And.intro | exact sideT | (refine and_i ?_ ?_))) ?_
    refine nn ?_
    refine WC.cond rfl (fun hc2 => ?_) (fun hc2 => ?_)
    ·replace h := ite_t hc2 h
     refine WC.region (lr3 rfl ?_)
     obtain ⟨g3, h⟩ := grd h
     refine WL.append tbOk ((l3 ++ [x3]).map eApiCodeEntry) [48, 1007] ap23 rfl rfl rfl rfl (fun _ e => by cases e; rfl) tr (map_cells (f := eApiCodeEntry) (xs := [x3]) fun _ => rfl) (by have := g3; simp only [List.length_map, List.length_nil, List.length_cons] at this ⊢; omega) rfl rfl (by simp only [List.map_append]; try rfl) rfl ?_
     refine lr1 rfl (WL.nil (WQ.blockNormal ?_))
     exact WQ.cut [(1007, 48)] (l3 ++ [x3]) sub h
    ·replace h := ite_f hc2 h
     refine WC.skip (WQ.blockNormal ?_)
     exact WQ.cut [] l3 sub h
   ·intro l6 h
    replace h : nomBelow_j2 code v t152 l6 = some _ := h
    unfold nomBelow_j2 at h
    try dsimp only
    refine WC.region (lr2 rfl (WL.nil ?_))
    cases h
    exact WQ.next [] ((IntKind.i64.wrap (t152 + (1 : Int))), l6) sub (hn1 _ hf1)
  ·replace h := ite_f hc1 h
   refine WC.exit (WQ.thenExit ?_)
   cases h
   have he := he1 _ hf1
   subst he
   replace h := hk1
   try dsimp only at h
   refine eb ?_
   exact WQ.cut [] l3 sub h
 ·intro l h
  replace h : nomBelow_j1 l = some _ := h
  unfold nomBelow_j1 at h
  try dsimp only
  refine sr (lr2 rfl (nr ?_))
  refine WQ.publish 1007 rfl rfl ?_
  cases h
  exact rt tbOk hR
theorem nomExcluded_con {wg : World} (hw : WG wg) {b : ApiNomenclature} {code : Str} {words : (List Str)} {r : Bool} (h : nomExcluded b code words = some r) : Con Tryz.prog wg gl 88 [.v (.agg (eApiNomenclature b)), .v (.str code), .v (.sl 1 (words.map eStr))] [] (.v (.bool r)) [] := by
 unfold nomExcluded at h
 refine cw Tryz.func88 Tryz.ntmps88 ?_
 intro F L w ρ0 R hR
 try dsimp only [slotsOf]
 refine sr (lr2 rfl (nn (WC.seq (sr (lr2 rfl ?_)))))
 refine WL.q [] rfl rfl rfl (q_ev tbOk (.v (.int .i64 (b.Notes.length : Int))) rfl tr lenT) ?_
 refine lr1 rfl (nn ?_)
 refine WC.thenCut (X := Unit) (fun gG => ⟨[], []⟩) (fun gG => nomExcluded_j1  = some r) ?_ ?_
 ·refine WC.block ?_
  obtain ⟨eQ1, hl1, hk1⟩ := bnd h
  clear h
  refine WC.loop (σ := Int) (τ := ((Bool) ⊕ (Unit))) (fun sS => ⟨[(12, .v (.int .i64 sS)), (11, .v (.int .i64 (b.Notes.length : Int))), (10, .v (.sl 3 (b.Notes.map eApiCodeNote))), (1, .v (.str code)), (2, .v (.sl 1 (words.map eStr)))], []⟩) (nomExcluded_b1 b code words) [] (0 : Int) hl1 sub ?_
  intro t12 m hn1 he1 hx1
  obtain ⟨o1, hf1⟩ := some_of hx1
  have h := hf1
  unfold nomExcluded_b1 at h
  try dsimp only
  refine sr (lr1 rfl (nn (WC.seq ?_)))
  refine WC.cond rfl (fun hc1 => ?_) (fun hc1 => ?_)
  ·replace h := ite_t hc1 h
   refine kn (sb (sr ?_))
   obtain ⟨g1, h⟩ := grd h
   replace h := bnd h; obtain ⟨x2, hxx2, h⟩ := h
   refine WL.q [] rfl rfl rfl (q_idx tbOk rfl tr g1 (map_get (f := eApiCodeNote) hxx2)) ?_
   refine lr3 rfl (ns (lr3 rfl ?_))
   replace h := bnd h; obtain ⟨v3, hvv3, h⟩ := h
   refine WL.call0 fn41 rfl rfl rfl rfl tr rfl (hasPrefixS_con hw hvv3) ?_
   refine lr 4 rfl sideR ?_
   replace h := bnd h; obtain ⟨v4, hvv4, h⟩ := h
   refine WL.gcall0 fn112 rfl rfl rfl rfl rfl (fun _ => sideR) rfl (fun hg => (subset_con hw (ite_t hg hvv4))) ?_
   refine lr 1 rfl sideR ?_
   refine nn ?_
   refine WC.cond rfl (fun hc2 => ?_) (fun hc2 => ?_)
   ·replace h := ite_t hc2 h
    refine sr (lr1 rfl (nr (rb ?_)))
    cases h
    have he := he1 _ hf1
    subst he
    have h : some true = some _ := hk1
    refine WQ.thenRet (rb ?_)
    cases h
    exact rt tbOk hR
   ·replace h := ite_f hc2 h
    refine WC.skip (bn (WC.region (lr2 rfl (WL.nil ?_))))
    cases h
    exact WQ.next [] (IntKind.i64.wrap (t12 + (1 : Int))) sub (hn1 _ hf1)
  ·replace h := ite_f hc1 h
   refine WC.exit (WQ.thenExit ?_)
   cases h
   have he := he1 _ hf1
   subst he
   replace h := hk1
   try dsimp only at h
   refine eb ?_
   exact WQ.cut [] () sub h
 ·intro _ h
  replace h : nomExcluded_j1 = some _ := h
  unfold nomExcluded_j1 at h
  try dsimp only
  refine sr (lr1 rfl (nr ?_))
  cases h
  exact rt tbOk hR
theorem nomAlts_con {wg : World} (hw : WG wg) {b : ApiNomenclature} {e1 : ApiCodeEntry} {r : (List (List Str))} (h : nomAlts b e1 = some r) : Con Tryz.prog wg gl 111 [.v (.agg (eApiNomenclature b)), .v (.agg (eApiCodeEntry e1))] [] (.v (.sl 1 (r.map eLStr))) [] := by
 unfold nomAlts at h
 refine cw Tryz.func111 Tryz.ntmps111 ?_
 intro F L w ρ0 R hR
 try dsimp only [slotsOf]
 refine sr (lr3 rfl (ns (lr2 rfl ?_)))
 replace h := bnd h; obtain ⟨v, hvv, h⟩ := h
 refine WL.callO [] [(500, 10)] [10] fn137 rfl rfl rfl rfl tr (cloneWords_con hw hvv) rfl rfl tr rfl rfl rfl rfl rfl rfl ?_
 refine lr1 rfl (nn (WC.seq (sr (lr2 rfl ?_))))
 refine WL.q [] rfl rfl rfl (q_ev tbOk (.v (.int .i64 (b.Notes.length : Int))) rfl tr lenT) ?_
 refine lr1 rfl (nn ?_)
 refine WC.thenCut (X := (List (List Str))) (fun gG => ⟨[(5, .r 1005)], [(1005, .row 28 1 (gG.map eLStr))]⟩) (fun gG => nomAlts_j1 gG = some r) ?_ ?_
 ·refine WC.block ?_
  obtain ⟨eQ1, hl1, hk1⟩ := bnd h
  clear h
  refine WC.loop (σ := Int × (List (List Str))) (τ := ((List (List Str)))) (fun sS => ⟨[(14, .v (.int .i64 sS.1)), (13, .v (.int .i64 (b.Notes.length : Int))), (12, .v (.sl 3 (b.Notes.map eApiCodeNote))), (5, .r 1005), (3, .p 3 0)], [(1005, .row 28 1 (sS.2.map eLStr)), (3, .blk 53 (kv (eApiCodeEntry e1)))]⟩) (nomAlts_b1 b e1) [(1005, 10)] ((0 : Int), v) hl1 sub ?_
  rintro ⟨t14, l2⟩ m hn1 he1 hx1
  obtain ⟨o1, hf1⟩ := some_of hx1
  have h := hf1
  unfold nomAlts_b1 at h
  try dsimp only
  refine sr (lr1 rfl (nn (WC.seq ?_)))
  refine WC.cond rfl (fun hc1 => ?_) (fun hc1 => ?_)
  ·replace h := ite_t hc1 h
   refine kn (WC.seq ?_)
   refine WC.thenCut (X := (List (List Str))) (fun gG => ⟨[(5, .r 1005), (14, .v (.int .i64 t14)), (13, .v (.int .i64 (b.Notes.length : Int))), (12, .v (.sl 3 (b.Notes.map eApiCodeNote))), (3, .p 3 0)], [(1005, .row 28 1 (gG.map eLStr)), (3, .blk 53 (kv (eApiCodeEntry e1)))]⟩) (fun gG => nomAlts_j2 b e1 t14 gG = some o1) ?_ ?_
   ·refine WC.block (sr ?_)
    obtain ⟨g1, h⟩ := grd h
    replace h := bnd h; obtain ⟨x2, hxx2, h⟩ := h
    refine WL.q [] rfl rfl rfl (q_idx tbOk rfl tr g1 (map_get (f := eApiCodeNote) hxx2)) ?_
    refine lr3 rfl (ns (lr5 rfl (nn ?_)))
    refine WC.cond rfl (fun hc2 => ?_) (fun hc2 => ?_)
    ·replace h := ite_t hc2 h
     refine WC.region (lr3 rfl ?_)
     replace h := bnd h; obtain ⟨v3, hvv3, h⟩ := h
     refine WL.call0 fn119 rfl rfl rfl rfl tr rfl (cloneS_con hw hvv3) ?_
     refine lr1 rfl ?_
     obtain ⟨g2, h⟩ := grd h
     refine WL.append tbOk ((l2 ++ [v3]).map eLStr) [28, 1005] ap51 rfl rfl rfl rfl (fun _ e => by cases e; rfl) tr (map_cells (f := eLStr) (xs := [v3]) fun _ => rfl) (by have := g2; simp only [List.length_map, List.length_nil, List.length_cons] at this ⊢; omega) rfl rfl (by simp only [List.map_append]; try rfl) rfl ?_
     refine lr1 rfl (WL.nil (WQ.blockNormal ?_))
     exact WQ.cut [(1005, 28)] (l2 ++ [v3]) sub h
    ·replace h := ite_f hc2 h
     refine WC.skip (WQ.blockNormal ?_)
     exact WQ.cut [] l2 sub h
   ·intro l6 h
    replace h : nomAlts_j2 b e1 t14 l6 = some _ := h
    unfold nomAlts_j2 at h
    try dsimp only
    refine WC.region (lr2 rfl (WL.nil ?_))
    cases h
    exact WQ.next [] ((IntKind.i64.wrap (t14 + (1 : Int))), l6) sub (hn1 _ hf1)
  ·replace h := ite_f hc1 h
   refine WC.exit (WQ.thenExit ?_)
   cases h
   have he := he1 _ hf1
   subst he
   replace h := hk1
   try dsimp only at h
   refine eb ?_
   exact WQ.cut [] l2 sub h
 ·intro l h
  replace h : nomAlts_j1 l = some _ := h
  unfold nomAlts_j1 at h
  try dsimp only
  refine sr (lr2 rfl (nr ?_))
  refine WQ.publish 1005 rfl rfl ?_
  cases h
  exact rt tbOk hR
theorem nomScore_con {wg : World} (hw : WG wg) {b : ApiNomenclature} {e1 : ApiCodeEntry} {words : (List Str)} {r : Int} (h : nomScore b e1 words = some r) : Con Tryz.prog wg gl 95 [.v (.agg (eApiNomenclature b)), .v (.agg (eApiCodeEntry e1)), .v (.sl 1 (words.map eStr))] [] (.v (.int .i64 r)) [] := by
 unfold nomScore at h
 refine cw Tryz.func95 Tryz.ntmps95 ?_
 intro F L w ρ0 R hR
 try dsimp only [slotsOf]
 refine sr (lr3 rfl (nn (WC.seq (sr (lr4 rfl ?_)))))
 replace h := bnd h; obtain ⟨v, hvv, h⟩ := h
 refine WL.call0 fn88 rfl rfl rfl rfl tr rfl (nomExcluded_con hw hvv) ?_
 refine nn ?_
 refine WC.cond rfl (fun hc1 => ?_) (fun hc1 => ?_)
 ·replace h := ite_t hc1 h
  refine sr (lr1 rfl (nr (WQ.thenRet ?_)))
  cases h
  exact rt tbOk hR
 ·replace h := ite_f hc1 h
  refine kn (sr (lr1 rfl (nn (WC.seq (sr (lr2 rfl ?_))))))
  replace h := bnd h; obtain ⟨v2, hvv2, h⟩ := h
  refine WL.call0 fn111 rfl rfl rfl rfl tr rfl (nomAlts_con hw hvv2) ?_
  refine WL.q [] rfl rfl rfl (q_ev tbOk (.v (.int .i64 (v2.length : Int))) rfl tr lenT) ?_
  refine lr1 rfl (nn ?_)
  refine WC.thenCut (X := Int) (fun gG => ⟨[(7, .v (.int .i64 gG))], []⟩) (fun gG => nomScore_j1 gG = some r) ?_ ?_
  ·refine WC.block ?_
   obtain ⟨eQ1, hl1, hk1⟩ := bnd h
   clear h
   refine WC.loop (σ := Int × Int) (τ := (Int)) (fun sS => ⟨[(19, .v (.int .i64 sS.1)), (18, .v (.int .i64 (v2.length : Int))), (17, .v (.sl 1 (v2.map eLStr))), (7, .v (.int .i64 sS.2)), (2, .v (.sl 1 (words.map eStr)))], []⟩) (nomScore_b1 words v2) [] ((0 : Int), (0 : Int)) hl1 sub ?_
   rintro ⟨t19, score2⟩ m hn1 he1 hx1
   obtain ⟨o1, hf1⟩ := some_of hx1
   have h := hf1
   unfold nomScore_b1 at h
   try dsimp only
   refine sr (lr1 rfl (nn (WC.seq ?_)))
   refine WC.cond rfl (fun hc2 => ?_) (fun hc2 => ?_)
   ·replace h := ite_t hc2 h
    refine kn (WC.seq ?_)
    refine WC.thenCut (X := Int) (fun gG => ⟨[(7, .v (.int .i64 gG)), (19, .v (.int .i64 t19)), (18, .v (.int .i64 (v2.length : Int))), (17, .v (.sl 1 (v2.map eLStr))), (2, .v (.sl 1 (words.map eStr)))], []⟩) (fun gG => nomScore_j2 words v2 t19 gG = some o1) ?_ ?_
    ·refine WC.block (sr ?_)
     obtain ⟨g1, h⟩ := grd h
     replace h := bnd h; obtain ⟨x2, hxx2, h⟩ := h
     refine WL.q [] rfl rfl rfl (q_idx tbOk rfl tr g1 (map_get (f := eLStr) hxx2)) ?_
     refine lr2 rfl (ns (lr1 rfl ?_))
     refine WL.q [] rfl rfl rfl (q_ev tbOk (.v (.int .i64 (x2.length : Int))) rfl tr lenT) ?_
     refine lr 5 rfl sideR ?_
     replace h := bnd h; obtain ⟨v4, hvv4, h⟩ := h
     refine WL.gcall0 fn112 rfl rfl rfl rfl rfl (fun _ => sideR) rfl (fun hg => (subset_con hw (ite_t hg hvv4))) ?_
     refine lr 1 rfl sideR ?_
     refine nn ?_
     refine WC.cond rfl (fun hc3 => ?_) (fun hc3 => ?_)
     ·replace h := ite_t hc3 h
      refine WC.region (lr1 rfl ?_)
      refine WL.q [] rfl rfl rfl (q_ev tbOk (.v (.int .i64 (x2.length : Int))) rfl tr lenT) ?_
      refine lr1 rfl (WL.nil (WQ.blockNormal ?_))
      exact WQ.cut [] (x2.length : Int) sub h
     ·replace h := ite_f hc3 h
      refine WC.skip (WQ.blockNormal ?_)
      exact WQ.cut [] score2 sub h
    ·intro score6 h
     replace h : nomScore_j2 words v2 t19 score6 = some _ := h
     unfold nomScore_j2 at h
     try dsimp only
     refine WC.region (lr2 rfl (WL.nil ?_))
     cases h
     exact WQ.next [] ((IntKind.i64.wrap (t19 + (1 : Int))), score6) sub (hn1 _ hf1)
   ·replace h := ite_f hc2 h
    refine WC.exit (WQ.thenExit ?_)
    cases h
    have he := he1 _ hf1
    subst he
    replace h := hk1
    try dsimp only at h
    refine eb ?_
    exact WQ.cut [] score2 sub h
  ·intro score h
   replace h : nomScore_j1 score = some _ := h
   unfold nomScore_j1 at h
   try dsimp only
   refine sr (lr2 rfl (nr ?_))
   cases h
   exact rt tbOk hR
end Go.Proofs.YtaeplfiaahkgpaaGreatDoor
end
