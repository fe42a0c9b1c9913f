/- Packed by pack.py. -/
import Derived.Test.YtaeplfiaahkgpaaGreatDoorQf3
import Derived.Test.YtaeplfiaahkgpaaGreatDoorQf4
import Derived.Test.YtaeplfiaahkgpaaGreatDoorQf5
import Derived.Sort.Grow
import Derived.Sort.EncStr
noncomputable section zCn
set_option linter.unusedVariables false
set_option linter.unusedSimpArgs false
set_option maxHeartbeats 4000000
set_option maxRecDepth 20000
namespace Go.Proofs.YtaeplfiaahkgpaaGreatDoor
open Go.V Go.C
theorem described_con {wg : World} (hw : WG wg) {l : (List Str)} {r : Bool} (h : described l = some r) : Con Tryz.prog wg gl 57 [.v (.sl 1 (l.map eStr))] [] (ov r) [] := by
 unfold described at h;refine cw Tryz.func57 Tryz.ntmps57 ?_;intro F L w ρ0 R hR;try dsimp only [zI1]
 refine sr (lr1 rfl (ns (lr1 rfl ?_)));refine WL.q [] rfl rfl rfl (q_ev tbOk (iv (l.length : Int)) rfl tr lenT) ?_;refine lr 3 rfl sideR ?_;revert h;refine zb fun v hvv h => ?_;refine WL.gcall0 fn58 rfl rfl rfl rfl rfl (fun _ => sideR) rfl (fun hg => (validWords_con hw (ite_t hg hvv))) ?_;refine lr 2 rfl sideR ?_;refine nr ?_;cases h;exact rt tbOk hR
theorem growInt_con {wg : World} (hw : WG wg) {n1 : Int} {r : (List Int)} (h : growInt n1 = some r) : Con Tryz.prog wg gl 108 [.v (.raw (.slice none 0 0)), iv n1] [] (.r 500) [(500, .row 3 1 (r.map zZ))] := by
 unfold growInt at h;refine cw Tryz.func108 Tryz.ntmps108 ?_;intro F L w ρ0 R hR;try dsimp only [zI1]
 refine sr (lr1 rfl (nn (WC.seq (sr (lr2 rfl (nn ?_))))));revert h;refine ci (fun hc1 h => ?_) (fun hc1 h => ?_)
 ·cases h
 ·refine kn (WC.seq (sr (lr2 rfl ?_)));refine WL.q [] rfl rfl rfl (q_nil ap22 rfl tr) ?_;refine lr5 rfl (ns (lr2 rfl (nn ?_)));refine WC.thenCut (X := (List Int)) (fun gG => ⟨[(0, .r 1000)], [(1000, .row 3 1 (gG.map zZ))]⟩) (fun gG => growInt_j1 gG = some r) ?_ ?_
  ·revert h;refine ci (fun hc2 h => ?_) (fun hc2 h => ?_)
   ·refine WC.region (lr2 rfl ?_);refine WL.q [] rfl rfl rfl (q_nil ap22 rfl tr) ?_;refine WL.q [] rfl rfl rfl (q_nil ap22 rfl sideR) ?_;refine lr1 rfl ?_;obtain ⟨g1, h⟩ := grd h;refine WL.growRow tbOk (List.replicate (IntKind.i64.wrap (n1 - (IntKind.i64.wrap ((0 : Int) - (0 : Int))))).toNat [.raw (.int .i64 0)]) ap22 rfl rfl rfl rfl rfl sideR g1 rfl rfl ?_;refine lr2 rfl ?_;refine WL.rcut tbOk (([] : (List Int)).map zZ) rfl rfl rfl rfl sideR rfl ⟨Int.le_refl 0, Int.natCast_nonneg _⟩ rfl rfl ?_;refine lr1 rfl (WL.nil ?_);exact WQ.cut [(1000, 25)] [] sub h
   ·refine WC.skip ?_;refine WQ.rowNil 0 1000 3 1 rfl rfl ?_;exact WQ.cut [] [] sub h
  ·intro s h;try dsimp only at h;unfold growInt_j1 at h;try dsimp only
   refine sr (lr2 rfl (nr ?_));cases h;exact WQ.rets tbOk hR [(500, 1000)] (.inl rfl) rfl rfl (Le.refl _) eqs rfl rfl rfl rfl
theorem concatInt_con {wg : World} (hw : WG wg) {slices : (List (List Int))} {r : (List Int)} (h : concatInt slices = some r) : Con Tryz.prog wg gl 59 [.v (.sl 1 (slices.map eLInt_i64))] [] (.r 500) [(500, .row 3 1 (r.map zZ))] := by
 unfold concatInt at h;refine cw Tryz.func59 Tryz.ntmps59 ?_;intro F L w ρ0 R hR;try dsimp only [zI1]
 refine sr (lr1 rfl (ns (lr1 rfl (nn (WC.seq (sr (lr1 rfl ?_)))))));refine WL.q [] rfl rfl rfl (q_ev tbOk (iv (slices.length : Int)) rfl tr lenT) ?_;refine lr1 rfl (nn ?_);refine WC.thenCut (X := Int) (fun gG => ⟨[(3, iv gG), (0, .v (.sl 1 (slices.map eLInt_i64)))], []⟩) (fun gG => concatInt_j1 slices gG = some r) ?_ ?_
 ·refine WC.block ?_;obtain ⟨eQ2, hl2, hk2⟩ := bnd h;clear h;refine WC.loop (σ := Int × Int) (τ := (Int)) (fun sS => ⟨[(11, iv sS.1), (10, iv (slices.length : Int)), (9, .v (.sl 1 (slices.map eLInt_i64))), (3, iv sS.2), (0, .v (.sl 1 (slices.map eLInt_i64)))], []⟩) (concatInt_b2 slices) [] ((0 : Int), (0 : Int)) hl2 sub ?_;rintro ⟨t11, size2⟩ m hn2 he2 hx2;obtain ⟨o2, hf2⟩ := zJ1 hx2;have h := hf2;unfold concatInt_b2 at h;try dsimp only
  refine sr (lr1 rfl (nn (WC.seq ?_)));revert h;refine ci (fun hc2 h => ?_) (fun hc2 h => ?_)
  ·refine kn (sb (sr ?_));obtain ⟨g3, h⟩ := grd h;revert h;refine zb fun x4 hxx4 h => ?_;refine WL.q [] rfl rfl rfl (q_idx tbOk rfl tr g3 (zF1 (f := eLInt_i64) hxx4)) ?_;refine lr2 rfl (ns (lr2 rfl ?_));refine WL.q [] rfl rfl rfl (q_ev tbOk (iv (x4.length : Int)) rfl tr lenT) ?_;refine lr2 rfl (ns (lr2 rfl (nn ?_)));revert h;refine ci (fun hc3 h => ?_) (fun hc3 h => ?_)
   ·cases h
   ·refine WC.skip (bn (WC.region (lr2 rfl (WL.nil ?_))));cases h;exact WQ.next [] ((IntKind.i64.wrap (t11 + (1 : Int))), (IntKind.i64.wrap (size2 + (x4.length : Int)))) sub (hn2 _ hf2)
  ·refine WC.exit (WQ.thenExit ?_);cases h;obtain rfl := he2 _ hf2;replace h := hk2;try dsimp only at h
   refine eb ?_;exact WQ.cut [] size2 sub h
 ·intro size h;try dsimp only at h;unfold concatInt_j1 at h;try dsimp only
  refine sr (lr1 rfl ?_);revert h;refine zb fun v hvv h => ?_;refine WL.callO [] [(500, 24)] [24] fn108 rfl rfl rfl rfl tr (growInt_con hw hvv) rfl rfl tr rfl rfl rfl rfl rfl rfl ?_;refine lr1 rfl (nn (WC.seq (sr (lr1 rfl ?_))));refine WL.q [] rfl rfl rfl (q_ev tbOk (iv (slices.length : Int)) rfl tr lenT) ?_;refine lr1 rfl (nn ?_);refine WC.thenCut (X := (List Int)) (fun gG => ⟨[(6, .r 1006)], [(1006, .row 3 1 (gG.map zZ))]⟩) (fun gG => concatInt_j2 gG = some r) ?_ ?_
  ·refine WC.block ?_;obtain ⟨eQ1, hl1, hk1⟩ := bnd h;clear h;refine WC.loop (σ := Int × (List Int)) (τ := ((List Int))) (fun sS => ⟨[(27, iv sS.1), (26, iv (slices.length : Int)), (25, .v (.sl 1 (slices.map eLInt_i64))), (6, .r 1006)], [(1006, .row 3 1 (sS.2.map zZ))]⟩) (concatInt_b1 slices) [(1006, 24)] ((0 : Int), v) hl1 sub ?_;rintro ⟨t27, newslice2⟩ m hn1 he1 hx1;obtain ⟨o1, hf1⟩ := zJ1 hx1;have h := hf1;unfold concatInt_b1 at h;try dsimp only
   refine sr (lr1 rfl (nn (WC.seq ?_)));revert h;refine ci (fun hc1 h => ?_) (fun hc1 h => ?_)
   ·refine kn (sb (sr ?_));obtain ⟨g1, h⟩ := grd h;revert h;refine zb fun x2 hxx2 h => ?_;refine WL.q [] rfl rfl rfl (q_idx tbOk rfl tr g1 (zF1 (f := eLInt_i64) hxx2)) ?_;refine lr2 rfl (nn (WC.region (lr2 rfl ?_)));obtain ⟨g2, h⟩ := grd h;refine WL.append tbOk ((newslice2 ++ x2).map zZ) [33, 1006] ap22 rfl rfl rfl rfl ce tr (zE1 (f := zZ) (xs := x2) fun _ => rfl) (al g2) rfl rfl ma rfl ?_;refine lr1 rfl (WL.nil (bn (WC.region (lr2 rfl (WL.nil ?_)))));cases h;exact WQ.next [(1006, 33)] ((IntKind.i64.wrap (t27 + (1 : Int))), (newslice2 ++ x2)) sub (hn1 _ hf1)
   ·refine WC.exit (WQ.thenExit ?_);cases h;obtain rfl := he1 _ hf1;replace h := hk1;try dsimp only at h
    refine eb ?_;exact WQ.cut [] newslice2 sub h
  ·intro newslice h;try dsimp only at h;unfold concatInt_j2 at h;try dsimp only
   refine sr (lr2 rfl (nr ?_));cases h;exact WQ.rets tbOk hR [(500, 1006)] (.inl rfl) rfl rfl (Le.refl _) eqs rfl rfl rfl rfl
theorem complete_con {wg : World} (hw : WG wg) {shares : (List Int)} {r : Bool} (h : complete shares = some r) : Con Tryz.prog wg gl 60 [.v (.sl 1 (shares.map zZ))] [] (ov r) [] := by
 unfold complete at h;refine cw Tryz.func60 Tryz.ntmps60 ?_;intro F L w ρ0 R hR;try dsimp only [zI1]
 refine sr (lr1 rfl (ns (lr1 rfl (nn (WC.seq (sr (lr1 rfl ?_)))))));refine WL.q [] rfl rfl rfl (q_ev tbOk (iv (shares.length : Int)) rfl tr lenT) ?_;refine lr1 rfl (nn ?_);refine WC.thenCut (X := Int) (fun gG => ⟨[(3, iv gG), (0, .v (.sl 1 (shares.map zZ)))], []⟩) (fun gG => complete_j1 shares gG = some r) ?_ ?_
 ·refine WC.block ?_;obtain ⟨eQ1, hl1, hk1⟩ := bnd h;clear h;refine WC.loop (σ := Int × Int) (τ := (Int)) (fun sS => ⟨[(8, iv sS.1), (7, iv (shares.length : Int)), (6, .v (.sl 1 (shares.map zZ))), (3, iv sS.2), (0, .v (.sl 1 (shares.map zZ)))], []⟩) (complete_b1 shares) [] ((0 : Int), (0 : Int)) hl1 sub ?_;rintro ⟨t8, sum2⟩ m hn1 he1 hx1;obtain ⟨o1, hf1⟩ := zJ1 hx1;have h := hf1;unfold complete_b1 at h;try dsimp only
  refine sr (lr1 rfl (nn (WC.seq ?_)));revert h;refine ci (fun hc1 h => ?_) (fun hc1 h => ?_)
  ·refine kn (sb (sr ?_));obtain ⟨g1, h⟩ := grd h;revert h;refine zb fun x2 hxx2 h => ?_;refine WL.q [] rfl rfl rfl (q_idx tbOk rfl tr g1 (zF1 (f := zZ) hxx2)) ?_;refine lr2 rfl (nn (WC.region (lr4 rfl (WL.nil (bn (WC.region (lr2 rfl (WL.nil ?_))))))));cases h;exact WQ.next [] ((IntKind.i64.wrap (t8 + (1 : Int))), (IntKind.i64.wrap (sum2 + x2))) sub (hn1 _ hf1)
  ·refine WC.exit (WQ.thenExit ?_);cases h;obtain rfl := he1 _ hf1;replace h := hk1;try dsimp only at h
   refine eb ?_;exact WQ.cut [] sum2 sub h
 ·intro sum h;try dsimp only at h;unfold complete_j1 at h;try dsimp only
  refine sr (lr1 rfl ?_);refine WL.q [] rfl rfl rfl (q_ev tbOk (iv (shares.length : Int)) rfl tr lenT) ?_;refine lr 6 rfl sideR ?_;refine nr ?_;cases h;exact rt tbOk hR
theorem goodsValidate_con {wg : World} (hw : WG wg) {g : YM} {r : Int} (h : goodsValidate g = some r) : Con Tryz.prog wg gl 30 [.v (.agg (eN g))] [] (iv r) [] := by
 unfold goodsValidate at h;refine cw Tryz.func30 Tryz.ntmps30 ?_;intro F L w ρ0 R hR;try dsimp only [zI1]
 refine sr (lr2 rfl (nn (WC.seq (sr (lr2 rfl ?_)))));revert h;refine zb fun v hvv h => ?_;refine WL.call0 fn57 rfl rfl rfl rfl tr rfl (described_con hw hvv) ?_;refine lr1 rfl (nn ?_);revert h;refine ci (fun hc1 h => ?_) (fun hc1 h => ?_)
 ·refine sr (lr1 rfl (nr (WQ.thenRet ?_)));cases h;exact rt tbOk hR
 ·refine kn (WC.seq (sr (lr2 rfl ?_)));refine WL.q [] rfl rfl rfl (q_ev tbOk (iv (g.Materials.length : Int)) rfl tr lenT) ?_;refine lr 4 rfl sideR ?_;refine WL.gq [] rfl rfl rfl rfl (fun hg => q_ev tbOk (iv (g.Parts.length : Int)) rfl sideR lenT) ?_;refine lr 2 rfl sideR ?_;refine nn ?_;revert h;refine ci (fun hc2 h => ?_) (fun hc2 h => ?_)
  ·refine sr (lr1 rfl (nr (WQ.thenRet ?_)));cases h;exact rt tbOk hR
  ·refine kn (sr (lr1 rfl (ns (lr2 rfl (nn (WC.seq (sr (lr2 rfl ?_))))))));refine WL.q [] rfl rfl rfl (q_ev tbOk (iv (g.Materials.length : Int)) rfl tr lenT) ?_;refine lr1 rfl (nn ?_);refine WC.thenCut (X := (List Int) × (List Str)) (fun gG => ⟨[(5, .v (.raw (.slice none 0 0))), (4, .r 1004), (3, .r 1003), (1, .p 1 0)], [(1004, .row 3 1 (gG.1.map zZ)), (1003, .row 9 1 (gG.2.map eStr)), (1, .blk 32 (kv (eN g)))]⟩) (fun gG => goodsValidate_j1 g gG.1 gG.2 = some r) ?_ ?_
   ·refine WC.block ?_;obtain ⟨eQ3, hl3, hk3⟩ := bnd h;clear h;refine WC.rowNil 4 1004 3 1 rfl rfl ?_;refine WC.rowNil 3 1003 9 1 rfl rfl ?_;refine WC.loop (σ := Int × (List Int) × (List Str)) (τ := ((List Int) × (List Str))) (fun sS => ⟨[(29, iv sS.1), (28, iv (g.Materials.length : Int)), (27, .v (.sl 2 (g.Materials.map eU))), (5, .v (.raw (.slice none 0 0))), (4, .r 1004), (3, .r 1003), (1, .p 1 0)], [(1004, .row 3 1 (sS.2.1.map zZ)), (1003, .row 9 1 (sS.2.2.map eStr)), (1, .blk 32 (kv (eN g)))]⟩) (goodsValidate_b3 g) [] ((0 : Int), [], []) hl3 sub ?_;rintro ⟨t292, materials6, names2⟩ m hn3 he3 hx3;obtain ⟨o3, hf3⟩ := zJ1 hx3;have h := hf3;unfold goodsValidate_b3 at h;try dsimp only
    refine sr (lr1 rfl (nn (WC.seq ?_)));revert h;refine ci (fun hc9 h => ?_) (fun hc9 h => ?_)
    ·refine kn (sb (sr ?_));obtain ⟨g4, h⟩ := grd h;revert h;refine zb fun x6 hxx6 h => ?_;refine WL.q [] rfl rfl rfl (q_idx tbOk rfl tr g4 (zF1 (f := eU) hxx6)) ?_;refine lr3 rfl (ns (lr4 rfl ?_));obtain ⟨g5, h⟩ := grd h;refine WL.append tbOk ((names2 ++ [x6.Name]).map eStr) [37, 1003] ap28 rfl rfl rfl rfl ce tr (zE1 (f := eStr) (xs := [x6.Name]) fun _ => rfl) (al g5) rfl rfl ma rfl ?_;refine lr1 rfl (nn (WC.region (lr4 rfl ?_)));obtain ⟨g6, h⟩ := grd h;refine WL.append tbOk ((materials6 ++ [x6.Share]).map zZ) [42, 1004] ap22 rfl rfl rfl rfl ce tr (zE1 (f := zZ) (xs := [x6.Share]) fun _ => rfl) (al g6) rfl rfl ma rfl ?_;refine lr1 rfl (WL.nil (bn (WC.region (lr2 rfl (WL.nil ?_)))));cases h;exact WQ.next [(1004, 42), (1003, 37)] ((IntKind.i64.wrap (t292 + (1 : Int))), (materials6 ++ [x6.Share]), (names2 ++ [x6.Name])) sub (hn3 _ hf3)
    ·refine WC.exit (WQ.thenExit ?_);cases h;obtain rfl := he3 _ hf3;replace h := hk3;try dsimp only at h
     refine eb ?_;exact WQ.cut [] (materials6, names2) sub h
   ·rintro ⟨materials, names⟩ h;try dsimp only at h;unfold goodsValidate_j1 at h;try dsimp only
    refine WC.seq (WC.seq ?_);refine WC.publish 1003 rfl rfl ?_;refine WC.region (lr1 rfl ?_);revert h;refine zb fun v2 hvv2 h => ?_;refine WL.call0 fn58 rfl rfl rfl rfl tr rfl (validWords_con hw hvv2) ?_;refine lr1 rfl (nn ?_);revert h;refine ci (fun hc3 h => ?_) (fun hc3 h => ?_)
    ·refine sr (lr1 rfl (nr (WQ.thenRet ?_)));cases h;exact rt tbOk hR
    ·refine kn (WC.seq (sr (lr2 rfl ?_)));refine WL.q [] rfl rfl rfl (q_ev tbOk (iv (g.Parts.length : Int)) rfl tr lenT) ?_;refine lr1 rfl (nn ?_);refine WC.thenCut (X := (List Int) × (List Int)) (fun gG => ⟨[(5, .r 1005), (4, .r 1004)], [(1005, .row 3 1 (gG.1.map zZ)), (1004, .row 3 1 (gG.2.map zZ))]⟩) (fun gG => goodsValidate_j2 gG.1 gG.2 = some r) ?_ ?_
     ·refine WC.block ?_;obtain ⟨eQ2, hl2, hk2⟩ := bnd h;clear h;refine WC.rowNil 5 1005 3 1 rfl rfl ?_;refine WC.loop (σ := Int × (List Int) × (List Int)) (τ := ((Int) ⊕ ((List Int) × (List Int)))) (fun sS => ⟨[(50, iv sS.1), (49, iv (g.Parts.length : Int)), (48, .v (.sl 2 (g.Parts.map eJ))), (5, .r 1005), (4, .r 1004)], [(1005, .row 3 1 (sS.2.1.map zZ)), (1004, .row 3 1 (sS.2.2.map zZ))]⟩) (goodsValidate_b2 g) [] ((0 : Int), [], materials) hl2 sub ?_;rintro ⟨t502, parts2, materials4⟩ m hn2 he2 hx2;obtain ⟨o2, hf2⟩ := zJ1 hx2;have h := hf2;unfold goodsValidate_b2 at h;try dsimp only
      refine sr (lr1 rfl (nn (WC.seq ?_)));revert h;refine ci (fun hc7 h => ?_) (fun hc7 h => ?_)
      ·refine kn (sb (sr ?_));obtain ⟨g2, h⟩ := grd h;revert h;refine zb fun x3 hxx3 h => ?_;refine WL.q [] rfl rfl rfl (q_idx tbOk rfl tr g2 (zF1 (f := eJ) hxx3)) ?_;refine lr3 rfl (nn (WC.seq (sr (lr2 rfl ?_))));revert h;refine zb fun v8 hvv8 h => ?_;refine WL.call0 fn57 rfl rfl rfl rfl tr rfl (described_con hw hvv8) ?_;refine lr1 rfl (nn ?_);revert h;refine ci (fun hc8 h => ?_) (fun hc8 h => ?_)
       ·refine sr (lr1 rfl (nr (WQ.thenRet (rb ?_))));cases h;obtain rfl := he2 _ hf2;have h : some (1 : Int) = some _ := hk2;refine WQ.thenRet (rb ?_);cases h;exact rt tbOk hR
       ·refine kn (WC.region (lr4 rfl ?_));obtain ⟨g3, h⟩ := grd h;refine WL.append tbOk ((parts2 ++ [x3.Share]).map zZ) [62, 1005] ap22 rfl rfl rfl rfl ce tr (zE1 (f := zZ) (xs := [x3.Share]) fun _ => rfl) (al g3) rfl rfl ma rfl ?_;refine lr1 rfl (WL.nil (bn (WC.region (lr2 rfl (WL.nil ?_)))));cases h;exact WQ.next [(1005, 62)] ((IntKind.i64.wrap (t502 + (1 : Int))), (parts2 ++ [x3.Share]), materials4) sub (hn2 _ hf2)
      ·refine WC.exit (WQ.thenExit ?_);cases h;obtain rfl := he2 _ hf2;replace h := hk2;try dsimp only at h
       refine eb ?_;exact WQ.cut [] (parts2, materials4) sub h
     ·rintro ⟨parts, materials2⟩ h;try dsimp only at h;unfold goodsValidate_j2 at h;try dsimp only
      refine WC.seq (WC.seq ?_);refine WC.publish 1004 rfl rfl ?_;refine WC.publish 1005 rfl rfl ?_;refine WC.region (lr3 rfl ?_);revert h;refine zb fun v3 hvv3 h => ?_;refine WL.callO [] [(500, 67)] [67] fn59 rfl rfl rfl rfl tr (concatInt_con hw hvv3) rfl rfl tr rfl rfl rfl rfl rfl rfl ?_;refine WL.q [67] rfl rfl rfl (q_ev tbOk (iv (v3.length : Int)) rfl tr lenT) ?_;refine lr1 rfl (nn ?_);refine WC.thenCut (X := Unit) (fun gG => ⟨[(5, .v (.sl 1 (parts.map zZ))), (4, .v (.sl 1 (materials2.map zZ)))], []⟩) (fun gG => goodsValidate_j3 parts materials2 = some r) ?_ ?_
      ·refine WC.block ?_;obtain ⟨eQ1, hl1, hk1⟩ := bnd h;clear h;refine WC.loop (σ := Int × (List Int)) (τ := ((Int) ⊕ (Unit))) (fun sS => ⟨[(69, iv sS.1), (68, iv (v3.length : Int)), (67, .r 1067), (5, .v (.sl 1 (parts.map zZ))), (4, .v (.sl 1 (materials2.map zZ)))], [(1067, .row 3 1 (sS.2.map zZ))]⟩) (goodsValidate_b1 parts materials2 v3) [(1067, 67)] ((0 : Int), v3) hl1 sub ?_;rintro ⟨t69, t67⟩ m hn1 he1 hx1;obtain ⟨o1, hf1⟩ := zJ1 hx1;have h := hf1;unfold goodsValidate_b1 at h;try dsimp only
       refine sr (lr1 rfl (nn (WC.seq ?_)));revert h;refine ci (fun hc5 h => ?_) (fun hc5 h => ?_)
       ·refine kn (sb (sr ?_));obtain ⟨g1, h⟩ := grd h;refine WL.q [1067] rfl rfl rfl (q_ridx tbOk rfl tr rfl (by simpa only [List.length_map] using g1)) ?_;refine WL.q [1067] rfl rfl rfl (x := iv (t67.getD t69.toNat default)) (q_rload tbOk rfl tr rfl (map_getD (f := zZ) g1.2 g1.1) rfl) ?_;refine lr1 rfl (ns ?_);refine lr 6 rfl sideR ?_;refine nn ?_;revert h;refine ci (fun hc6 h => ?_) (fun hc6 h => ?_)
        ·refine sr (lr1 rfl (nr (rb ?_)));cases h;obtain rfl := he1 _ hf1;have h : some (2 : Int) = some _ := hk1;refine WQ.thenRet (rb ?_);cases h;exact rt tbOk hR
        ·refine WC.skip (bn (WC.region (lr2 rfl (WL.nil ?_))));cases h;exact WQ.next [] ((IntKind.i64.wrap (t69 + (1 : Int))), t67) sub (hn1 _ hf1)
       ·refine WC.exit (WQ.thenExit ?_);cases h;obtain rfl := he1 _ hf1;replace h := hk1;try dsimp only at h
        refine eb ?_;exact WQ.cut [] () sub h
      ·intro _ h;try dsimp only at h;unfold goodsValidate_j3 at h;try dsimp only
       refine WC.seq (sr (lr1 rfl ?_));revert h;refine zb fun v4 hvv4 h => ?_;refine WL.call0 fn60 rfl rfl rfl rfl tr rfl (complete_con hw hvv4) ?_;refine lr 3 rfl sideR ?_;revert h;refine zb fun v5 hvv5 h => ?_;refine WL.gcall0 fn60 rfl rfl rfl rfl rfl (fun _ => sideR) rfl (fun hg => (complete_con hw (ite_t hg hvv5))) ?_;refine lr 2 rfl sideR ?_;refine nn ?_;revert h;refine ci (fun hc4 h => ?_) (fun hc4 h => ?_)
       ·refine sr (lr1 rfl (nr (WQ.thenRet ?_)));cases h;exact rt tbOk hR
       ·refine kn (sr (lr1 rfl (nr ?_)));cases h;exact rt tbOk hR
theorem charLess_con {wg : World} (hw : WG wg) {a : YI} {b : YI} {r : Int} (h : charLess a b = some r) : Con Tryz.prog wg gl 123 [.v (.agg (eJ a)), .v (.agg (eJ b))] [] (iv r) [] := by
 unfold charLess at h;refine cw Tryz.func123 Tryz.ntmps123 ?_;intro F L w ρ0 R hR;try dsimp only [zI1]
 refine sr (lr3 rfl (ns (lr4 rfl ?_)));revert h;refine zb fun v hvv h => ?_;refine WL.call0 fn124 rfl rfl rfl rfl tr rfl (cmpInt_con hw hvv) ?_;refine lr1 rfl (nr ?_);cases h;exact rt tbOk hR
theorem insSort_con {wg : World} (hw : WG wg) {data : (List YI)} {a : Int} {b : Int} {r : (List YI)} (h : insSort data a b = some r) : Con Tryz.prog wg gl 175 [.r 0, iv a, iv b, .fn 123 []] [(0, .row 72 2 (data.map eJ))] (.tup []) [(0, .row 72 2 (r.map eJ))] := by
 unfold insSort at h;refine cw Tryz.func175 Tryz.ntmps175 ?_;intro F L w ρ0 R hR;try dsimp only [zI1]
 refine sr (lr3 rfl (nn (WC.block ?_)));obtain ⟨eQ1, hl1, hk1⟩ := bnd h;clear h;refine WC.loop (σ := Int × (List YI)) (τ := ((List YI))) (fun sS => ⟨[(8, iv sS.1), (0, .r 0), (1, iv a), (2, iv b), (3, .fn 123 [])], [(0, .row 72 2 (sS.2.map eJ))]⟩) (insSort_b1 a b) [] ((IntKind.i64.wrap (a + (1 : Int))), data) hl1 sub ?_;rintro ⟨i, row0⟩ m hn1 he1 hx1;obtain ⟨o1, hf1⟩ := zJ1 hx1;have h := hf1;unfold insSort_b1 at h;try dsimp only
 refine WC.seq (sr (lr3 rfl (nn ?_)));revert h;refine ci (fun hc1 h => ?_) (fun hc1 h => ?_)
 ·refine kn (WC.seq ?_);refine WC.thenCut (X := (List YI)) (fun gG => ⟨[(8, iv i), (0, .r 0), (1, iv a), (2, iv b), (3, .fn 123 [])], [(0, .row 72 2 (gG.map eJ))]⟩) (fun gG => insSort_j1 a b i gG = some o1) ?_ ?_
  ·refine WC.block (sr (lr2 rfl (nn (WC.block ?_))));obtain ⟨eQ2, hl2, hk2⟩ := bnd h;clear h;refine WC.loop (σ := Int × (List YI)) (τ := ((List YI))) (fun sS => ⟨[(9, iv sS.1), (8, iv i), (0, .r 0), (1, iv a), (2, iv b), (3, .fn 123 [])], [(0, .row 72 2 (sS.2.map eJ))]⟩) (insSort_b2 a b i) [] (i, row0) hl2 sub ?_;rintro ⟨j3, row09⟩ m hn2 he2 hx2;obtain ⟨o2, hf2⟩ := zJ1 hx2;have h := hf2;unfold insSort_b2 at h;try dsimp only
   refine WC.seq (WC.seq (WC.order mixed ?_));refine wr 7 rfl sideR ?_;obtain ⟨g1, h⟩ := grd h;refine WR.gq [0] rfl rfl rfl rfl (fun hg => q_ridx tbOk rfl sideR rfl (by simpa only [List.length_map] using g1 hg)) ?_;refine WR.gq [0] rfl rfl rfl rfl (x := .v (.agg [.sl 1 (((row09.getD j3.toNat default).Words).map eStr), .int .i64 ((row09.getD j3.toNat default).Share)])) (fun hg => q_rload tbOk rfl sideR rfl (map_getD (f := eJ) (g1 hg).2 (g1 hg).1) rfl) ?_;refine wr 3 rfl sideR ?_;obtain ⟨g2, h⟩ := grd h;refine WR.gq [0] rfl rfl rfl rfl (fun hg => q_ridx tbOk rfl sideR rfl (by simpa only [List.length_map] using g2 hg)) ?_;refine WR.gq [0] rfl rfl rfl rfl (x := .v (.agg [.sl 1 (((row09.getD (IntKind.i64.wrap (j3 - (1 : Int))).toNat default).Words).map eStr), .int .i64 ((row09.getD (IntKind.i64.wrap (j3 - (1 : Int))).toNat default).Share)])) (fun hg => q_rload tbOk rfl sideR rfl (map_getD (f := eJ) (g2 hg).2 (g2 hg).1) rfl) ?_;revert h;refine zb fun v4 hvv4 h => ?_;refine WR.gcall0 fn123 rfl rfl rfl rfl rfl (fun _ => sideR) rfl (fun hg => (charLess_con hw (ite_t hg hvv4))) ?_;refine wr 2 rfl sideR ?_;refine WR.nil (by kernel_rfl) (WQ.thenNormal ?_);revert h;refine ci (fun hc2 h => ?_) (fun hc2 h => ?_)
   ·refine kn (sb (WC.order mixed ?_));refine wr 8 rfl trivial ?_;obtain ⟨g3, h⟩ := grd h;refine WR.q [0] rfl rfl rfl (q_ridx tbOk rfl tr rfl (by simpa only [List.length_map] using g3)) ?_;refine WR.q [0] rfl rfl rfl (x := .v (.agg [.sl 1 (((row09.getD (IntKind.i64.wrap (j3 - (1 : Int))).toNat default).Words).map eStr), .int .i64 ((row09.getD (IntKind.i64.wrap (j3 - (1 : Int))).toNat default).Share)])) (q_rload tbOk rfl tr rfl (map_getD (f := eJ) g3.2 g3.1) rfl) ?_;refine wr 2 rfl trivial ?_;obtain ⟨g4, h⟩ := grd h;refine WR.q [0] rfl rfl rfl (q_ridx tbOk rfl tr rfl (by simpa only [List.length_map] using g4)) ?_;refine WR.q [0] rfl rfl rfl (x := .v (.agg [.sl 1 (((row09.getD j3.toNat default).Words).map eStr), .int .i64 ((row09.getD j3.toNat default).Share)])) (q_rload tbOk rfl tr rfl (map_getD (f := eJ) g4.2 g4.1) rfl) ?_;obtain ⟨g5, h⟩ := grd h;refine WR.q [0] rfl rfl rfl (q_ridx tbOk rfl tr rfl (by simpa only [List.length_map] using g5)) ?_;refine WR.rstore tbOk ((row09.set j3.toNat (row09.getD (IntKind.i64.wrap (j3 - (1 : Int))).toNat default)).map eJ) rfl rfl rfl tr rfl (map_getD (f := eJ) g5.2 g5.1) rfl (mapset (f := eJ) (x := (row09.getD (IntKind.i64.wrap (j3 - (1 : Int))).toNat default)) (by rfl)) ?_;obtain ⟨g6, h⟩ := grd h;refine WR.q [0] rfl rfl rfl (q_ridx tbOk rfl tr rfl (by simpa only [List.length_map] using g6)) ?_;refine WR.rstore tbOk (((row09.set j3.toNat (row09.getD (IntKind.i64.wrap (j3 - (1 : Int))).toNat default)).set (IntKind.i64.wrap (j3 - (1 : Int))).toNat (row09.getD j3.toNat default)).map eJ) rfl rfl rfl tr rfl (map_getD (f := eJ) g6.2 g6.1) rfl (mapset (f := eJ) (x := (row09.getD j3.toNat default)) (by rfl)) ?_;refine WR.nil (by kernel_rfl) (bn (WC.region (lr3 rfl (WL.nil ?_))));cases h;exact WQ.next [] ((IntKind.i64.wrap (j3 - (1 : Int))), ((row09.set j3.toNat (row09.getD (IntKind.i64.wrap (j3 - (1 : Int))).toNat default)).set (IntKind.i64.wrap (j3 - (1 : Int))).toNat (row09.getD j3.toNat default))) sub (hn2 _ hf2)
   ·refine WC.exit (WQ.thenExit ?_);cases h;obtain rfl := he2 _ hf2;replace h := hk2;try dsimp only at h
    refine eb (WQ.blockNormal ?_);exact WQ.cut [] row09 sub h
  ·intro row08 h;try dsimp only at h;unfold insSort_j1 at h;try dsimp only
   refine WC.region (lr3 rfl (WL.nil ?_));cases h;exact WQ.next [] ((IntKind.i64.wrap (i + (1 : Int))), row08) sub (hn1 _ hf1)
 ·refine WC.exit (WQ.thenExit ?_);cases h;obtain rfl := he1 _ hf1;replace h := hk1;try dsimp only at h
  refine eb ?_;cases h;exact WQ.rets tbOk (r := .tup []) hR [] (.inr rfl) rfl rfl (Le.tup .nil) eqs rfl rfl rfl rfl
theorem stableSort_con {wg : World} (hw : WG wg) {data : (List YI)} {n1 : Int} {r : (List YI)} (h : stableSort data n1 = some r) : Con Tryz.prog wg gl 154 [.r 0, iv n1, .fn 123 []] [(0, .row 72 2 (data.map eJ))] (.tup []) [(0, .row 72 2 (r.map eJ))] := by
 unfold stableSort at h;refine cw Tryz.func154 Tryz.ntmps154 ?_;intro F L w ρ0 R hR;try dsimp only [zI1]
 refine sr (lr1 rfl (ns (lr3 rfl (nn (WC.seq ?_)))));refine WC.thenCut (X := Int × (List YI)) (fun gG => ⟨[(7, iv gG.1), (6, iv (20 : Int)), (0, .r 0), (1, iv n1), (2, .fn 123 [])], [(0, .row 72 2 (gG.2.map eJ))]⟩) (fun gG => stableSort_j1 n1 gG.1 gG.2 = some r) ?_ ?_
 ·refine WC.block ?_;obtain ⟨eQ3, hl3, hk3⟩ := bnd h;clear h;refine WC.loop (σ := Int × Int × (List YI)) (τ := (Int × (List YI))) (fun sS => ⟨[(8, iv sS.1), (7, iv sS.2.1), (6, iv (20 : Int)), (0, .r 0), (1, iv n1), (2, .fn 123 [])], [(0, .row 72 2 (sS.2.2.map eJ))]⟩) (stableSort_b3 n1) [] ((20 : Int), (0 : Int), data) hl3 sub ?_;rintro ⟨b5, a10, row02⟩ m hn3 he3 hx3;obtain ⟨o3, hf3⟩ := zJ1 hx3;have h := hf3;unfold stableSort_b3 at h;try dsimp only
  refine WC.seq (sr (lr3 rfl (nn ?_)));revert h;refine ci (fun hc4 h => ?_) (fun hc4 h => ?_)
  ·refine kn (WC.block (sr (lr4 rfl ?_)));revert h;refine zb fun v3 hvv3 h => ?_;refine WL.callO [(0, 0)] [(0, 0)] [0] fn175 rfl rfl rfl rfl tr (insSort_con hw hvv3) rfl rfl eqs rfl rfl rfl rfl rfl rfl ?_;refine ns (lr2 rfl (nn (WC.region (lr4 rfl (WL.nil (WQ.blockNormal ?_))))));cases h;exact WQ.next [] ((IntKind.i64.wrap (b5 + (20 : Int))), b5, v3) sub (hn3 _ hf3)
  ·refine WC.exit (WQ.thenExit ?_);cases h;obtain rfl := he3 _ hf3;replace h := hk3;try dsimp only at h
   refine eb ?_;exact WQ.cut [] (a10, row02) sub h
 ·rintro ⟨a, row0⟩ h;try dsimp only at h;unfold stableSort_j1 at h;try dsimp only
  refine sr (lr4 rfl ?_);revert h;refine zb fun v hvv h => ?_;refine WL.callO [(0, 0)] [(0, 0)] [0] fn175 rfl rfl rfl rfl tr (insSort_con hw hvv) rfl rfl eqs rfl rfl rfl rfl rfl rfl ?_;refine nn (WC.block ?_);obtain ⟨eQ1, hl1, hk1⟩ := bnd h;clear h;refine WC.loop (σ := Int) (τ := (Unit)) (fun sS => ⟨[(6, iv sS), (0, .r 0), (1, iv n1), (2, .fn 123 [])], [(0, .row 72 2 (v.map eJ))]⟩) (stableSort_b1 n1 v) [] (20 : Int) hl1 sub ?_;intro blockSize m hn1 he1 hx1;obtain ⟨o1, hf1⟩ := zJ1 hx1;have h := hf1;unfold stableSort_b1 at h;try dsimp only
  refine WC.seq (sr (lr3 rfl (nn ?_)));revert h;refine ci (fun hc1 h => ?_) (fun hc1 h => ?_)
  ·refine kn (WC.block (sr (lr4 rfl (nn (WC.seq ?_)))));refine WC.thenCut (X := Int) (fun gG => ⟨[(7, iv gG), (6, iv blockSize), (0, .r 0), (1, iv n1), (2, .fn 123 [])], [(0, .row 72 2 (v.map eJ))]⟩) (fun gG => stableSort_j2 n1 v blockSize gG = some o1) ?_ ?_
   ·refine WC.block ?_;obtain ⟨eQ2, hl2, hk2⟩ := bnd h;clear h;refine WC.loop (σ := Int × Int) (τ := (Int)) (fun sS => ⟨[(8, iv sS.1), (7, iv sS.2), (6, iv blockSize), (0, .r 0), (1, iv n1), (2, .fn 123 [])], [(0, .row 72 2 (v.map eJ))]⟩) (stableSort_b2 n1 v blockSize) [] ((IntKind.i64.wrap ((2 : Int) * blockSize)), (0 : Int)) hl2 sub ?_;rintro ⟨b3, a7⟩ m hn2 he2 hx2;obtain ⟨o2, hf2⟩ := zJ1 hx2;have h := hf2;unfold stableSort_b2 at h;try dsimp only
    refine WC.seq (sr (lr3 rfl (nn ?_)));revert h;refine ci (fun hc3 h => ?_) (fun hc3 h => ?_)
    ·refine kn (WC.block (WC.seq ?_));cases h
    ·refine WC.exit (WQ.thenExit ?_);cases h;obtain rfl := he2 _ hf2;replace h := hk2;try dsimp only at h
     refine eb ?_;exact WQ.cut [] a7 sub h
   ·intro a6 h;try dsimp only at h;unfold stableSort_j2 at h;try dsimp only
    refine WC.seq (sr (lr4 rfl (ns (lr3 rfl (nn ?_)))));revert h;refine ci (fun hc2 h => ?_) (fun hc2 h => ?_)
    ·cases h
    ·refine kn (WC.region (lr3 rfl (WL.nil (WQ.blockNormal ?_))));cases h;exact WQ.next [] (IntKind.i64.wrap (blockSize * (2 : Int))) sub (hn1 _ hf1)
  ·refine WC.exit (WQ.thenExit ?_);cases h;obtain rfl := he1 _ hf1;replace h := hk1;try dsimp only at h
   refine eb ?_;cases h;exact WQ.rets tbOk (r := .tup []) hR [] (.inr rfl) rfl rfl (Le.tup .nil) eqs rfl rfl rfl rfl
theorem sortStable_con {wg : World} (hw : WG wg) {x : (List YI)} {r : (List YI)} (h : sortStable x = some r) : Con Tryz.prog wg gl 122 [.r 0, .fn 123 []] [(0, .row 72 2 (x.map eJ))] (.tup []) [(0, .row 72 2 (r.map eJ))] := by
 unfold sortStable at h;refine cw Tryz.func122 Tryz.ntmps122 ?_;intro F L w ρ0 R hR;try dsimp only [zI1]
 refine WC.region (lr2 rfl ?_);refine WL.q [0] rfl rfl rfl (q_ev tbOk (iv (x.length : Int)) rfl tr lenT) ?_;refine lr1 rfl ?_;revert h;refine zb fun v hvv h => ?_;refine WL.callO [(0, 0)] [(0, 0)] [0] fn154 rfl rfl rfl rfl tr (stableSort_con hw hvv) rfl rfl eqs rfl rfl rfl rfl rfl rfl ?_;refine WL.nil ?_;cases h;exact WQ.rets tbOk (r := .tup []) hR [] (.inr rfl) rfl rfl (Le.tup .nil) eqs rfl rfl rfl rfl
theorem goodsCharacters_con {wg : World} (hw : WG wg) {g : YM} {r : (List YI)} (h : goodsCharacters g = some r) : Con Tryz.prog wg gl 71 [.v (.agg (eN g))] [] (.v (.sl 2 (r.map eJ))) [] := by
 unfold goodsCharacters at h;refine cw Tryz.func71 Tryz.ntmps71 ?_;intro F L w ρ0 R hR;try dsimp only [zI1]
 refine sr (lr2 rfl (ns (lr1 rfl (nn (WC.seq (sr (lr2 rfl ?_)))))));refine WL.q [] rfl rfl rfl (q_ev tbOk (iv (g.Parts.length : Int)) rfl tr lenT) ?_;refine lr1 rfl (nn ?_);refine WC.thenCut (X := (List YI)) (fun gG => ⟨[(3, .r 1003), (1, .p 1 0)], [(1003, .row 72 2 (gG.map eJ)), (1, .blk 32 (kv (eN g)))]⟩) (fun gG => goodsCharacters_j1 g gG = some r) ?_ ?_
 ·refine WC.block ?_;obtain ⟨eQ2, hl2, hk2⟩ := bnd h;clear h;refine WC.rowNil 3 1003 72 2 rfl rfl ?_;refine WC.loop (σ := Int × (List YI)) (τ := ((List YI))) (fun sS => ⟨[(11, iv sS.1), (10, iv (g.Parts.length : Int)), (9, .v (.sl 2 (g.Parts.map eJ))), (3, .r 1003), (1, .p 1 0)], [(1003, .row 72 2 (sS.2.map eJ)), (1, .blk 32 (kv (eN g)))]⟩) (goodsCharacters_b2 g) [] ((0 : Int), []) hl2 sub ?_;rintro ⟨t112, l6⟩ m hn2 he2 hx2;obtain ⟨o2, hf2⟩ := zJ1 hx2;have h := hf2;unfold goodsCharacters_b2 at h;try dsimp only
  refine sr (lr1 rfl (nn (WC.seq ?_)));revert h;refine ci (fun hc3 h => ?_) (fun hc3 h => ?_)
  ·refine kn (sb (sr ?_));obtain ⟨g3, h⟩ := grd h;revert h;refine zb fun x5 hxx5 h => ?_;refine WL.q [] rfl rfl rfl (q_idx tbOk rfl tr g3 (zF1 (f := eJ) hxx5)) ?_;refine lr3 rfl (nn (WC.order mixed ?_));refine wr 3 rfl trivial ?_;revert h;refine zb fun v4 hvv4 h => ?_;refine WR.call0 fn119 rfl rfl rfl rfl tr rfl (cloneS_con hw hvv4) ?_;refine wr 4 rfl trivial ?_;obtain ⟨g4, h⟩ := grd h;refine WR.append tbOk ((l6 ++ [(⟨v4, x5.Share⟩ : YI)]).map eJ) [23, 1003] ap30 rfl rfl rfl rfl ce tr (zE1 (f := eJ) (xs := [(⟨v4, x5.Share⟩ : YI)]) fun _ => rfl) (al g4) rfl rfl ma rfl rfl ?_;refine wr 1 rfl trivial ?_;refine WR.nil (by kernel_rfl) (bn (WC.region (lr2 rfl (WL.nil ?_))));cases h;exact WQ.next [(1003, 23)] ((IntKind.i64.wrap (t112 + (1 : Int))), (l6 ++ [(⟨v4, x5.Share⟩ : YI)])) sub (hn2 _ hf2)
  ·refine WC.exit (WQ.thenExit ?_);cases h;obtain rfl := he2 _ hf2;replace h := hk2;try dsimp only at h
   refine eb ?_;exact WQ.cut [] l6 sub h
 ·intro l h;try dsimp only at h;unfold goodsCharacters_j1 at h;try dsimp only
  refine WC.seq (sr (lr2 rfl ?_));refine WL.q [] rfl rfl rfl (q_ev tbOk (iv (g.Parts.length : Int)) rfl tr lenT) ?_;refine lr1 rfl (nn ?_);refine WC.thenCut (X := (List YI)) (fun gG => ⟨[(3, .r 1003)], [(1003, .row 72 2 (gG.map eJ))]⟩) (fun gG => goodsCharacters_j2 gG = some r) ?_ ?_
  ·revert h;refine ci (fun hc1 h => ?_) (fun hc1 h => ?_)
   ·refine sr (lr2 rfl ?_);refine WL.q [] rfl rfl rfl (q_ev tbOk (iv (g.Materials.length : Int)) rfl tr lenT) ?_;refine lr1 rfl (nn (WC.block ?_));obtain ⟨eQ1, hl1, hk1⟩ := bnd h;clear h;refine WC.loop (σ := Int × (List YI)) (τ := ((List YI))) (fun sS => ⟨[(32, iv sS.1), (31, iv (g.Materials.length : Int)), (30, .v (.sl 2 (g.Materials.map eU))), (3, .r 1003)], [(1003, .row 72 2 (sS.2.map eJ))]⟩) (goodsCharacters_b1 g) [] ((0 : Int), l) hl1 sub ?_;rintro ⟨t32, l3⟩ m hn1 he1 hx1;obtain ⟨o1, hf1⟩ := zJ1 hx1;have h := hf1;unfold goodsCharacters_b1 at h;try dsimp only
    refine sr (lr1 rfl (nn (WC.seq ?_)));revert h;refine ci (fun hc2 h => ?_) (fun hc2 h => ?_)
    ·refine kn (sb (sr ?_));obtain ⟨g1, h⟩ := grd h;revert h;refine zb fun x2 hxx2 h => ?_;refine WL.q [] rfl rfl rfl (q_idx tbOk rfl tr g1 (zF1 (f := eU) hxx2)) ?_;refine lr3 rfl (nn (WC.region (lr 8 rfl trivial ?_)));obtain ⟨g2, h⟩ := grd h;refine WL.append tbOk ((l3 ++ [(⟨[x2.Name], x2.Share⟩ : YI)]).map eJ) [44, 1003] ap30 rfl rfl rfl rfl ce tr (zE1 (f := eJ) (xs := [(⟨[x2.Name], x2.Share⟩ : YI)]) fun _ => rfl) (al g2) rfl rfl ma rfl ?_;refine lr1 rfl (WL.nil (bn (WC.region (lr2 rfl (WL.nil ?_)))));cases h;exact WQ.next [(1003, 44)] ((IntKind.i64.wrap (t32 + (1 : Int))), (l3 ++ [(⟨[x2.Name], x2.Share⟩ : YI)])) sub (hn1 _ hf1)
    ·refine WC.exit (WQ.thenExit ?_);cases h;obtain rfl := he1 _ hf1;replace h := hk1;try dsimp only at h
     refine eb ?_;exact WQ.cut [] l3 sub h
   ·refine WC.skip ?_;exact WQ.cut [] l sub h
  ·intro l2 h;try dsimp only at h;unfold goodsCharacters_j2 at h;try dsimp only
   refine sr (lr1 rfl ?_);revert h;refine zb fun v hvv h => ?_;refine WL.callO [(0, 1003)] [(0, 1003)] [1003] fn122 rfl rfl rfl rfl tr (sortStable_con hw hvv) rfl rfl eqs rfl rfl rfl rfl rfl rfl ?_;refine ns (lr2 rfl (nr ?_));refine WQ.publish 1003 rfl rfl ?_;cases h;exact rt tbOk hR
end Go.Proofs.YtaeplfiaahkgpaaGreatDoor
end zCn
noncomputable section zSo
set_option linter.unusedVariables false
set_option linter.unusedSimpArgs false
namespace Go.Proofs.YtaeplfiaahkgpaaGreatDoor
open Go.V Go.C Go.RowKit Go.Sort
theorem rows_strs2 {w : World} {X : Nat → Prop} : ∀ {xs : List Str} {rows : List (List Value)}, RepRows w X (xs.map eStr) rows → rows = xs.map fun s => [Value.string ⟨⟨s⟩⟩]
 | [], rows, h => by simp only [List.map_nil, RepRows] at h; subst h; rfl
 | x :: xs, rows, h => by
  simp only [List.map_cons, RepRows] at h
  obtain ⟨c, r, rfl, h1, h2⟩ := h
  simp only [eStr, Reps, Rep] at h1
  obtain ⟨v, q, rfl, rfl, rfl⟩ := h1
  rw [rows_strs2 h2, List.map_cons]
theorem reps_strs2 {w : World} {X : Nat → Prop} : ∀ xs : List Str, RepRows w X (xs.map eStr) (xs.map fun s => [Value.string ⟨⟨s⟩⟩])
 | [] => by simp [RepRows]
 | x :: xs => by
  simp only [List.map_cons, RepRows, eStr, Reps, Rep]
  exact ⟨_, _, rfl, ⟨_, _, rfl, rfl, rfl⟩, reps_strs2 xs⟩
theorem flat_strs (xs : List Str) : (xs.map fun s => [Value.string ⟨⟨s⟩⟩]).flatten = xs.map encStr := by
 induction xs with
 | nil => rfl
 | cons x xs ih => simp only [List.map_cons, List.flatten_cons, ih]; rfl
theorem put_take {w : World} {g e : Nat} {cur : Array Value} {fz : Nat × Nat} (hg : w.heap[g]? = some (.cells cur e fz)) (q : Nat) (d : List Str) (hle : d.length ≤ cur.size) :
  ∃ cur' : Array Value, (putRow encStr (Sort.ahead w q) g 0 d.toArray).heap[g]? = some (.cells cur' e fz) ∧ cur'.size = cur.size ∧ cur'.toList.take d.length = d.map encStr := by
 refine ⟨putCells encStr 0 d.toArray cur, ?_, by simp [putCells], ?_⟩
 ·show (w.heap.modify g (onCells (putCells encStr 0 d.toArray)))[g]? = _
  rw [Array.getElem?_modify, if_pos rfl, hg]; rfl
 ·apply List.ext_getElem?
  intro i
  rw [List.getElem?_take, List.getElem?_map]
  by_cases hi : i < d.length
  ·rw [if_pos hi, List.getElem?_eq_getElem hi]
   simp only [putCells, Array.getElem?_toList, Array.getElem?_mapIdx, Array.getElem?_eq_getElem (by omega : i < cur.size), Option.map_some]
   rw [if_pos ⟨by omega, by simpa using hi⟩]
   simp [hi]
  ·rw [if_neg hi, List.getElem?_eq_none (by omega)]; rfl
theorem put_other {w : World} {g k : Nat} (q : Nat) (d : Array Str) (h : k ≠ g) : (putRow encStr (Sort.ahead w q) g 0 d).heap[k]? = w.heap[k]? := by
 show (w.heap.modify g _)[k]? = _
 rw [Array.getElem?_modify, if_neg (fun e => h e.symm)]
theorem put_size (w : World) (g q : Nat) (d : Array Str) : (putRow encStr (Sort.ahead w q) g 0 d).heap.size = w.heap.size := by
 show (w.heap.modify g _).size = _
 rw [Array.size_modify]
theorem holds_of {w : World} {g e n : Nat} {cur : Array Value} {fz : Nat × Nat} {l : List Str} (hg : w.heap[g]? = some (.cells cur e fz)) (hfz : fz.2 ≤ fz.1 ∨ cur.size ≤ fz.1) (hn : n = l.length) (hle : n ≤ cur.size) (ht : cur.toList.take n = l.map encStr) : Holds encStr w g 0 l.toArray := by
 intro j hj
 have hj : j < l.length := by simpa using hj
 have h1 : cur[j]? = some (encStr l[j]) := by
  have h2 : (cur.toList.take n)[j]? = some (encStr l[j]) := by rw [ht, List.getElem?_map, List.getElem?_eq_getElem hj]; rfl
  rw [List.getElem?_take, if_pos (by omega)] at h2
  simpa using h2
 have h3 : j < cur.size := by omega
 refine ⟨?_, ?_⟩
 ·simp only [World.cell?, hg, Nat.zero_add, h1]
  simp [hj]
 ·simp only [World.frozen?, hg, Nat.zero_add]
  rcases hfz with h | h <;> simp <;> omega
theorem obs_one {k : Nat} {o : Ob} {ρ : Nat → Value} {w : World} {X L : Nat → Prop} (h : ObOk (nmO [(k, o)]) ρ w X L (ρ k) o) : ObsOk [(k, o)] ρ w X L := by
 refine ⟨fun j o' hj => ?_, fun j o' j' o2 hj hj' hne _ _ b _ => ?_⟩
 ·by_cases e : k = j
  ·subst e; rw [zC1] at hj; cases hj; exact h
  ·rw [zB1 _ _ e] at hj; cases hj
 ·by_cases e : k = j
  ·by_cases e' : k = j'
   ·exact absurd (e.symm.trans e') hne
   ·rw [zB1 _ _ e'] at hj'; cases hj'
  ·rw [zB1 _ _ e] at hj; cases hj
theorem sortS_con {wg : World} (hw : WG wg) {l r : List Str} (h : sortS l = some r) : Con Tryz.prog wg gl 152 [.r 0] [(0, .row 9 1 (l.map eStr))] (.tup []) [(0, .row 9 1 (r.map eStr))] := by
 unfold sortS at h
 split at h
 case isFalse => cases h
 rename_i hlen
 cases h
 intro w ρ F L vals hlow hdis hext hglob hobs hargs
 obtain ⟨rows, h1, h2, h3, h4⟩ := hobs.obj 0 _ rfl
 simp only [VReps, VRep] at hargs
 obtain ⟨a0, _, rfl, ⟨_, rfl⟩, rfl⟩ := hargs
 have hrows := rows_strs2 h1
 have hrl : rows.length = l.length := by rw [hrows, List.length_map]
 rcases h3.2 with ⟨hv, hn⟩ | ⟨g, cap, cur, fz, hv, hg, hfz, hcap, hmax, hcs, htake⟩
 ·have hl : l = [] := List.eq_nil_of_length_eq_zero (by omega)
  subst hl
  rw [hv]
  refine (Tryz.slices_Sort_string_none none 0 w).mono ?_
  rintro e w' ⟨rfl, rfl⟩
  refine ⟨_, ρ, L, rfl, by simp only [VRep]; exact ⟨[], rfl, by simp [VReps]⟩, obs_one ⟨rows, by simpa using h1, h2, h3, h4⟩, Step.refl _ _, fun b hb => hlow b (.inr hb), fun k v hk _ => (pinsOf_get hk).1⟩
 ·rw [hrows, flat_strs] at htake
  rw [hv, hrl]
  have hsz : l.length ≤ cur.size := by omega
  have htk : cur.toList.take l.length = l.map encStr := by rw [← htake, hrl.symm, hrows]; simp
  have hlt := (Array.getElem?_eq_some_iff.1 hg).1
  refine (Tryz.slices_Sort_string g 0 cap l w (holds_of hg hfz rfl hsz htk) hlt hlen).mono ?_
  rintro e w' ⟨rfl, n, os, rfl⟩
  have hml : (l.mergeSort fun x y => decide (x ≤ y)).length = l.length := List.length_mergeSort _
  obtain ⟨cur', c1, c2, c3⟩ := put_take hg n (l.mergeSort fun x y => decide (x ≤ y)) (by omega)
  have hps := put_size w g n (l.mergeSort fun x y => decide (x ≤ y)).toArray
  have hheap : ∀ k, k < w.heap.size → (grow (putRow encStr (Sort.ahead w n) g 0 (l.mergeSort fun x y => decide (x ≤ y)).toArray) os).heap[k]? = (putRow encStr (Sort.ahead w n) g 0 (l.mergeSort fun x y => decide (x ≤ y)).toArray).heap[k]? := fun k hk => by
   show (_ ++ os)[k]? = _
   rw [Array.getElem?_append_left (by rw [hps]; exact hk)]
  have hgs : w.heap.size ≤ (grow (putRow encStr (Sort.ahead w n) g 0 (l.mergeSort fun x y => decide (x ≤ y)).toArray) os).heap.size := by rw [size_grow, hps]; omega
  refine ⟨_, ρ, L, rfl, by simp only [VRep]; exact ⟨[], rfl, by simp [VReps]⟩, obs_one ⟨_, reps_strs2 _, fun r hr => ?_, ⟨?_, .inr ⟨g, cap, cur', fz, ?_, (hheap g hlt).trans c1, ?_, ?_, hmax, ?_, ?_⟩⟩, h4⟩, ⟨rfl, rfl, rfl, hgs, fun b hb hL => ?_, fun b hb => .inl hb⟩, fun b hb => Nat.lt_of_lt_of_le (hlow b (.inr hb)) hgs, fun k v hk _ => (pinsOf_get hk).1⟩
  ·obtain ⟨s, _, rfl⟩ := List.mem_map.1 hr; rfl
  ·rw [flat_strs]; simp
  ·rw [hv, List.length_map, hml, hrl]
  ·rw [c2]; exact hfz
  ·rw [List.length_map, hml]; omega
  ·rw [c2]; exact hcs
  ·rw [flat_strs, List.length_map, Nat.mul_one]; exact c3
  ·rw [hheap b hb]; exact put_other n _ (fun e => hL (h4 b (by rw [hv, e]; rfl)))
theorem compactS_con {wg : World} (hw : WG wg) {l r : List Str} (h : compactS l = some r) : Con Tryz.prog wg gl 153 [.r 0] [(0, .row 9 1 (l.map eStr))] (.r 500) [(0, .dead), (500, .row 9 1 (r.map eStr))] := by
 unfold compactS at h
 split at h
 case isFalse => cases h
 rename_i hlen
 cases h
 intro w ρ F L vals hlow hdis hext hglob hobs hargs
 obtain ⟨rows, h1, h2, h3, h4⟩ := hobs.obj 0 _ rfl
 simp only [VReps, VRep] at hargs
 obtain ⟨a0, _, rfl, ⟨_, rfl⟩, rfl⟩ := hargs
 have hrows := rows_strs2 h1
 have hrl : rows.length = l.length := by rw [hrows, List.length_map]
 have hcell0 : isCell (ρ 0) = true := by
  rcases h3.2 with ⟨hv, _⟩ | ⟨g, cap, cur, fz, hv, _⟩ <;> rw [hv] <;> rfl
 have obs : ∀ {o : Ob} {ρ' : Nat → Value} {w' : World} {X L' : Nat → Prop}, isCell (ρ' 0) = true → ObOk (nmO [(0, Ob.dead), (500, o)]) ρ' w' X L' (ρ' 500) o → ObsOk [(0, .dead), (500, o)] ρ' w' X L' := fun {o ρ' w' X L'} hc ho => by
  refine ⟨fun j o' hj => ?_, fun j o' j' o2 hj hj' hne l1 l2 b _ => ?_⟩
  ·by_cases e : 0 = j
   ·subst e; rw [zC1] at hj; cases hj; exact hc
   ·rw [zB1 _ _ e] at hj
    by_cases e5 : 500 = j
    ·subst e5; rw [zC1] at hj; cases hj; exact ho
    ·rw [zB1 _ _ e5] at hj; cases hj
  ·by_cases e : 0 = j
   ·subst e; rw [zC1] at hj; cases hj; cases l1
   ·rw [zB1 _ _ e] at hj
    by_cases e' : 0 = j'
    ·subst e'; rw [zC1] at hj'; cases hj'; cases l2
    ·rw [zB1 _ _ e'] at hj'
     by_cases e5 : 500 = j
     ·by_cases e6 : 500 = j'
      ·exact absurd (e5.symm.trans e6) hne
      ·rw [zB1 _ _ e6] at hj'; cases hj'
     ·rw [zB1 _ _ e5] at hj; cases hj
 have pins : ∀ (u : Value) k v, get (pinsOf ρ [(0, Ob.row 9 1 (l.map eStr))]) k = some v → nmO [(0, Ob.dead), (500, Ob.row 9 1 ((Lib.compact l).map eStr))] k → upd ρ 500 u k = v := fun u k v hk _ => by
  have h5 : k ≠ 500 := fun e => by subst e; cases hk
  rw [upd_ne h5]; exact (pinsOf_get hk).1
 by_cases hl : l = []
 ·subst hl
  have hn : rows.length = 0 := hrl
  have hcase : ∃ a c, ρ 0 = .slice a 0 c := by
   rcases h3.2 with ⟨hv, _⟩ | ⟨g, cap, cur, fz, hv, _⟩
   ·exact ⟨_, _, hv⟩
   ·exact ⟨_, _, by rw [hv, hn]⟩
  obtain ⟨a, c, hv⟩ := hcase
  rw [hv]
  refine (Tryz.slices_Compact_string_empty a c w).mono ?_
  rintro e w' ⟨rfl, rfl⟩
  refine ⟨_, upd ρ 500 (ρ 0), L, rfl, by simp only [VRep]; exact ⟨nmO_cons nmO_self, by rw [upd_self, hv]⟩, obs (by rw [upd_ne (by decide)]; exact hcell0) ?_, Step.refl _ _, fun b hb => hlow b (.inr hb), pins _⟩
  rw [upd_self]
  exact ⟨rows, by rw [show Lib.compact ([] : List Str) = [] from rfl]; exact h1, h2, h3, h4⟩
 ·rcases h3.2 with ⟨hv, hn⟩ | ⟨g, cap, cur, fz, hv, hg, hfz, hcap, hmax, hcs, htake⟩
  ·exact absurd (List.eq_nil_of_length_eq_zero (by omega)) hl
  ·rw [hrows, flat_strs] at htake
   rw [hv, hrl]
   have hsz : l.length ≤ cur.size := by omega
   have htk : cur.toList.take l.length = l.map encStr := by rw [← htake, hrl.symm, hrows]; simp
   have hlt := (Array.getElem?_eq_some_iff.1 hg).1
   refine (Tryz.slices_Compact_string g 0 cap l w (holds_of hg hfz rfl hsz htk) hlen (by omega)).mono ?_
   rintro e w' ⟨rfl, q, rfl⟩
   have hml : (Lib.compact l).length ≤ l.length := by
    unfold Lib.compact Lib.compactUpTo
    rw [List.length_map]
    exact Nat.le_trans (List.length_filter_le _ _) (by simp)
   obtain ⟨cur', c1, c2, c3⟩ := put_take hg q (Lib.compact l ++ List.replicate (l.length - (Lib.compact l).length) []) (by simp only [List.length_append, List.length_replicate]; omega)
   have hps := put_size w g q (Lib.compact l ++ List.replicate (l.length - (Lib.compact l).length) []).toArray
   have c4 : cur'.toList.take (Lib.compact l).length = (Lib.compact l).map encStr := by
    have := congrArg (List.take (Lib.compact l).length) c3
    rw [List.take_take, Nat.min_eq_left (by simp)] at this
    rw [this, List.map_append, List.take_left' (by simp)]
   refine ⟨_, upd ρ 500 (.slice (some ⟨g, 0, none⟩) (Lib.compact l).length cap), L, rfl, by simp only [VRep]; exact ⟨nmO_cons nmO_self, by rw [upd_self]⟩, obs (by rw [upd_ne (by decide)]; exact hcell0) ?_, ⟨rfl, rfl, rfl, by rw [hps]; exact Nat.le_refl _, fun b hb hL => put_other q _ (fun e => hL (h4 b (by rw [hv, e]; rfl))), fun b hb => .inl hb⟩, fun b hb => by rw [hps]; exact hlow b (.inr hb), pins _⟩
   rw [upd_self]
   refine ⟨_, reps_strs2 _, fun r hr => ?_, ⟨?_, .inr ⟨g, cap, cur', fz, ?_, c1, ?_, ?_, hmax, ?_, ?_⟩⟩, fun b hb => h4 b (by rw [hv]; simpa [ob] using hb)⟩
   ·obtain ⟨s, _, rfl⟩ := List.mem_map.1 hr; rfl
   ·rw [flat_strs]; simp
   ·rw [List.length_map]
   ·rw [c2]; exact hfz
   ·rw [List.length_map]; omega
   ·rw [c2]; exact hcs
   ·rw [flat_strs, List.length_map, Nat.mul_one]; exact c4
end Go.Proofs.YtaeplfiaahkgpaaGreatDoor
end zSo
noncomputable section zCo
set_option linter.unusedVariables false
set_option linter.unusedSimpArgs false
set_option maxHeartbeats 4000000
set_option maxRecDepth 20000
namespace Go.Proofs.YtaeplfiaahkgpaaGreatDoor
open Go.V Go.C
theorem setOf_con {wg : World} (hw : WG wg) {l : (List Str)} {r : (List Str)} (h : setOf l = some r) : Con Tryz.prog wg gl 170 [.v (.sl 1 (l.map eStr))] [] (.v (.mp r)) [] := by
 unfold setOf at h;refine cw Tryz.func170 Tryz.ntmps170 ?_;intro F L w ρ0 R hR;try dsimp only [zI1]
 refine sr (lr1 rfl (ns ?_));refine WL.makeSet rfl rfl rfl rfl rfl ?_;refine lr1 rfl (nn (WC.seq (sr (lr1 rfl ?_))));refine WL.q [] rfl rfl rfl (q_ev tbOk (iv (l.length : Int)) rfl tr lenT) ?_;refine lr1 rfl (nn ?_);refine WC.thenCut (X := (List Str)) (fun gG => ⟨[(3, .r 6)], [(6, .set gG)]⟩) (fun gG => setOf_j1 gG = some r) ?_ ?_
 ·refine WC.block ?_;obtain ⟨eQ1, hl1, hk1⟩ := bnd h;clear h;refine WC.loop (σ := Int × (List Str)) (τ := ((List Str))) (fun sS => ⟨[(9, iv sS.1), (8, iv (l.length : Int)), (7, .v (.sl 1 (l.map eStr))), (3, .r 6)], [(6, .set sS.2)]⟩) (setOf_b1 l) [] ((0 : Int), []) hl1 sub ?_;rintro ⟨t9, keys2⟩ m hn1 he1 hx1;obtain ⟨o1, hf1⟩ := zJ1 hx1;have h := hf1;unfold setOf_b1 at h;try dsimp only
  refine sr (lr1 rfl (nn (WC.seq ?_)));revert h;refine ci (fun hc1 h => ?_) (fun hc1 h => ?_)
  ·refine kn (sb (sr ?_));obtain ⟨g1, h⟩ := grd h;revert h;refine zb fun x2 hxx2 h => ?_;refine WL.q [] rfl rfl rfl (q_idx tbOk rfl tr g1 (zF1 (f := eStr) hxx2)) ?_;refine lr2 rfl (nn (WC.region (lr2 rfl ?_)));refine WL.setPut Tryz.underlying184 Tryz.underlying9 rfl rfl rfl tr rfl ?_;refine WL.nil (bn (WC.region (lr2 rfl (WL.nil ?_))));cases h;exact WQ.next [] ((IntKind.i64.wrap (t9 + (1 : Int))), (addKey keys2 x2)) sub (hn1 _ hf1)
  ·refine WC.exit (WQ.thenExit ?_);cases h;obtain rfl := he1 _ hf1;replace h := hk1;try dsimp only at h
   refine eb ?_;exact WQ.cut [] keys2 sub h
 ·intro keys h;try dsimp only at h;unfold setOf_j1 at h;try dsimp only
  refine sr (lr2 rfl (nr ?_));refine WQ.pubSet 6 rfl rfl ?_;cases h;exact rt tbOk hR
theorem memberIn2_con {wg : World} (hw : WG wg) {s : Str} {a1 : (List Str)} {r : Bool} (h : memberIn2 s a1 = some r) : Con Tryz.prog wg gl 171 [tv s, .p 1 0] [(1, .blk 184 [.v (.mp a1)])] (ov r) [(1, .blk 184 [.v (.mp a1)])] := by
 unfold memberIn2 at h;refine cw Tryz.func171 Tryz.ntmps171 ?_;intro F L w ρ0 R hR;try dsimp only [zI1]
 refine sr (lr1 rfl (ns (lr2 rfl ?_)));refine WL.q [] rfl rfl rfl (q_look tbOk Tryz.underlying184 Tryz.underlying9 (et := 4) rfl rfl rfl tr) ?_;refine lr1 rfl (nr ?_);cases h;exact rt tbOk hR
theorem memberB_con {wg : World} (hw : WG wg) {l : (List Str)} {r : (List Str)} (h : memberB l = some r) : Con Tryz.prog wg gl 148 [.v (.sl 1 (l.map eStr))] [] (.fn 171 [.p 500 0]) [(500, .blk 184 [.v (.mp r)])] := by
 unfold memberB at h;refine cw Tryz.func148 Tryz.ntmps148 ?_;intro F L w ρ0 R hR;try dsimp only [zI1]
 refine sr (lr2 rfl (nn (WC.seq (sr (lr1 rfl ?_)))));refine WL.q [] rfl rfl rfl (q_ev tbOk (iv (l.length : Int)) rfl tr lenT) ?_;refine lr1 rfl (nn ?_);revert h;refine ci (fun hc1 h => ?_) (fun hc1 h => ?_)
 ·refine sr (lr2 rfl (nr (WQ.thenRet ?_)));cases h
 ·refine kn (sr (lr1 rfl ?_));revert h;refine zb fun v hvv h => ?_;refine WL.call0 fn170 rfl rfl rfl rfl tr rfl (setOf_con hw hvv) ?_;refine lr2 rfl (ns (lr2 rfl (nr ?_)));cases h;exact WQ.rets tbOk hR [(500, 3)] (.inl rfl) rfl rfl (Le.refl _) eqs rfl rfl rfl rfl
theorem commonS_con {wg : World} (hw : WG wg) {a : (List Str)} {b : (List Str)} {r : Int} (h : commonS a b = some r) : Con Tryz.prog wg gl 150 [.v (.sl 1 (a.map eStr)), .v (.sl 1 (b.map eStr))] [] (iv r) [] := by
 unfold commonS at h;refine cw Tryz.func150 Tryz.ntmps150 ?_;intro F L w ρ0 R hR;try dsimp only [zI1]
 refine sr (lr1 rfl (ns (lr1 rfl ?_)));revert h;refine zb fun v hvv h => ?_;refine WL.callO [] [(500, 9)] [9] fn148 rfl rfl rfl rfl tr (member_con hw hvv) rfl rfl tr rfl rfl rfl rfl rfl rfl ?_;refine lr1 rfl (ns (lr1 rfl (nn (WC.seq (sr (lr1 rfl ?_))))));revert h;refine zb fun v2 hvv2 h => ?_;refine WL.call0 fn170 rfl rfl rfl rfl tr rfl (setOf_con hw hvv2) ?_;refine WL.rangeSet Tryz.underlying184 rfl rfl rfl rfl tr rfl ?_;refine nn ?_;refine WC.thenCut (X := Int) (fun gG => ⟨[(6, iv gG)], []⟩) (fun gG => commonS_j1 gG = some r) ?_ ?_
 ·refine WC.block ?_;obtain ⟨eQ1, hl1, hk_1⟩ := bnd h;clear h;refine WC.loopM (σ := (List Str) × (Int)) (fun sS => ⟨[(12, .r 12), (6, iv sS.2), (5, .fn 169 [.p 9 0])], [(9, .blk 28 [.v (.sl 1 (v.map eStr))]), (12, .sit sS.1 none)]⟩) (fun sS => ∀ o : List Str, o.Perm sS.1 → foldO (commonS_b1 v) o sS.2 = some eQ1) (fun sS => sS.1.length) [] (v2, (0 : Int)) (setFold_all hl1) sub ?_;rintro ⟨left, count2⟩ hI1;try dsimp only
  refine sr ?_;refine WL.nextSet rfl rfl rfl rfl sideR rfl (fun kx1 hkx1 => ?_) (fun hkn1 => ?_)
  ·obtain ⟨o1, hf1, hI2_1⟩ := set_step hI1 hkx1;have h := hf1;unfold commonS_b1 at h;refine lr1 rfl (nn (WC.seq ?_));refine WC.cond (b := true) rfl (fun hc2 => ?_) (fun hc2 => by cases hc2);refine kn (WC.block (sr ?_));refine WL.q [12] rfl rfl rfl (q_entry rfl tr rfl) ?_;refine lr2 rfl (ns (lr2 rfl ?_));revert h;refine zb fun v4 hvv4 h => ?_;refine WL.callO [(1, 9)] [(1, 9)] [9] fn169 rfl rfl rfl rfl tr (memberIn_con hw hvv4) rfl rfl eqs rfl rfl rfl rfl rfl rfl ?_;refine nn ?_;revert h;refine ci (fun hc3 h => ?_) (fun hc3 h => ?_)
   ·refine WC.region (lr3 rfl (WL.nil (WQ.blockNormal ?_)));refine WQ.weakenO 12 (.sit (left.erase kx1) none) rfl LeO.sit rfl ?_;cases h;exact WQ.nextM [] (left.erase kx1, (IntKind.i64.wrap (count2 + (1 : Int)))) sub hI2_1 (erase_lt hkx1)
   ·refine WC.skip (WQ.blockNormal ?_);refine WQ.weakenO 12 (.sit (left.erase kx1) none) rfl LeO.sit rfl ?_;cases h;exact WQ.nextM [] (left.erase kx1, count2) sub hI2_1 (erase_lt hkx1)
  ·refine lr1 rfl (nn (WC.seq ?_));refine WC.cond (b := false) rfl (fun hc1 => by cases hc1) (fun hc1 => ?_);refine WC.exit (WQ.thenExit ?_);have he := (set_end hI1 hkn1).symm;subst he;have h := hk_1;try dsimp only at h
   refine eb ?_;exact WQ.cut [] count2 sub h
 ·intro count h;try dsimp only at h;unfold commonS_j1 at h;try dsimp only
  refine sr (lr2 rfl (nr ?_));cases h;exact rt tbOk hR
theorem commonB_con {wg : World} (hw : WG wg) {a : (List Str)} {b : (List Str)} {r : Int} (h : commonB a b = some r) : Con Tryz.prog wg gl 150 [.v (.sl 1 (a.map eStr)), .v (.sl 1 (b.map eStr))] [] (iv r) [] := by
 unfold commonB at h;refine cw Tryz.func150 Tryz.ntmps150 ?_;intro F L w ρ0 R hR;try dsimp only [zI1]
 refine sr (lr1 rfl (ns (lr1 rfl ?_)));revert h;refine zb fun v hvv h => ?_;refine WL.callO [] [(500, 9)] [9] fn148 rfl rfl rfl rfl tr (memberB_con hw hvv) rfl rfl tr rfl rfl rfl rfl rfl rfl ?_;refine lr1 rfl (ns (lr1 rfl (nn (WC.seq (sr (lr1 rfl ?_))))));revert h;refine zb fun v2 hvv2 h => ?_;refine WL.call0 fn170 rfl rfl rfl rfl tr rfl (setOf_con hw hvv2) ?_;refine WL.rangeSet Tryz.underlying184 rfl rfl rfl rfl tr rfl ?_;refine nn ?_;refine WC.thenCut (X := Int) (fun gG => ⟨[(6, iv gG)], []⟩) (fun gG => commonB_j1 gG = some r) ?_ ?_
 ·refine WC.block ?_;obtain ⟨eQ1, hl1, hk_1⟩ := bnd h;clear h;refine WC.loopM (σ := (List Str) × (Int)) (fun sS => ⟨[(12, .r 12), (6, iv sS.2), (5, .fn 171 [.p 9 0])], [(9, .blk 184 [.v (.mp v)]), (12, .sit sS.1 none)]⟩) (fun sS => ∀ o : List Str, o.Perm sS.1 → foldO (commonB_b1 v) o sS.2 = some eQ1) (fun sS => sS.1.length) [] (v2, (0 : Int)) (setFold_all hl1) sub ?_;rintro ⟨left, count2⟩ hI1;try dsimp only
  refine sr ?_;refine WL.nextSet rfl rfl rfl rfl sideR rfl (fun kx1 hkx1 => ?_) (fun hkn1 => ?_)
  ·obtain ⟨o1, hf1, hI2_1⟩ := set_step hI1 hkx1;have h := hf1;unfold commonB_b1 at h;refine lr1 rfl (nn (WC.seq ?_));refine WC.cond (b := true) rfl (fun hc2 => ?_) (fun hc2 => by cases hc2);refine kn (WC.block (sr ?_));refine WL.q [12] rfl rfl rfl (q_entry rfl tr rfl) ?_;refine lr2 rfl (ns (lr2 rfl ?_));revert h;refine zb fun v4 hvv4 h => ?_;refine WL.callO [(1, 9)] [(1, 9)] [9] fn171 rfl rfl rfl rfl tr (memberIn2_con hw hvv4) rfl rfl eqs rfl rfl rfl rfl rfl rfl ?_;refine nn ?_;revert h;refine ci (fun hc3 h => ?_) (fun hc3 h => ?_)
   ·refine WC.region (lr3 rfl (WL.nil (WQ.blockNormal ?_)));refine WQ.weakenO 12 (.sit (left.erase kx1) none) rfl LeO.sit rfl ?_;cases h;exact WQ.nextM [] (left.erase kx1, (IntKind.i64.wrap (count2 + (1 : Int)))) sub hI2_1 (erase_lt hkx1)
   ·refine WC.skip (WQ.blockNormal ?_);refine WQ.weakenO 12 (.sit (left.erase kx1) none) rfl LeO.sit rfl ?_;cases h;exact WQ.nextM [] (left.erase kx1, count2) sub hI2_1 (erase_lt hkx1)
  ·refine lr1 rfl (nn (WC.seq ?_));refine WC.cond (b := false) rfl (fun hc1 => by cases hc1) (fun hc1 => ?_);refine WC.exit (WQ.thenExit ?_);have he := (set_end hI1 hkn1).symm;subst he;have h := hk_1;try dsimp only at h
   refine eb ?_;exact WQ.cut [] count2 sub h
 ·intro count h;try dsimp only at h;unfold commonB_j1 at h;try dsimp only
  refine sr (lr2 rfl (nr ?_));cases h;exact rt tbOk hR
theorem growStr_con {wg : World} (hw : WG wg) {n1 : Int} {r : (List Str)} (h : growStr n1 = some r) : Con Tryz.prog wg gl 172 [.v (.raw (.slice none 0 0)), iv n1] [] (.r 500) [(500, .row 9 1 (r.map eStr))] := by
 unfold growStr at h;refine cw Tryz.func172 Tryz.ntmps172 ?_;intro F L w ρ0 R hR;try dsimp only [zI1]
 refine sr (lr1 rfl (nn (WC.seq (sr (lr2 rfl (nn ?_))))));revert h;refine ci (fun hc1 h => ?_) (fun hc1 h => ?_)
 ·cases h
 ·refine kn (WC.seq (sr (lr2 rfl ?_)));refine WL.q [] rfl rfl rfl (q_nil ap28 rfl tr) ?_;refine lr5 rfl (ns (lr2 rfl (nn ?_)));refine WC.thenCut (X := (List Str)) (fun gG => ⟨[(0, .r 1000)], [(1000, .row 9 1 (gG.map eStr))]⟩) (fun gG => growStr_j1 gG = some r) ?_ ?_
  ·revert h;refine ci (fun hc2 h => ?_) (fun hc2 h => ?_)
   ·refine WC.region (lr2 rfl ?_);refine WL.q [] rfl rfl rfl (q_nil ap28 rfl tr) ?_;refine WL.q [] rfl rfl rfl (q_nil ap28 rfl sideR) ?_;refine lr1 rfl ?_;obtain ⟨g1, h⟩ := grd h;refine WL.growRow tbOk (List.replicate (IntKind.i64.wrap (n1 - (IntKind.i64.wrap ((0 : Int) - (0 : Int))))).toNat [.raw (.string ⟨⟨[]⟩⟩)]) ap28 rfl rfl rfl rfl rfl sideR g1 rfl rfl ?_;refine lr2 rfl ?_;refine WL.rcut tbOk (([] : (List Str)).map eStr) rfl rfl rfl rfl sideR rfl ⟨Int.le_refl 0, Int.natCast_nonneg _⟩ rfl rfl ?_;refine lr1 rfl (WL.nil ?_);exact WQ.cut [(1000, 25)] [] sub h
   ·refine WC.skip ?_;refine WQ.rowNil 0 1000 9 1 rfl rfl ?_;exact WQ.cut [] [] sub h
  ·intro s h;try dsimp only at h;unfold growStr_j1 at h;try dsimp only
   refine sr (lr2 rfl (nr ?_));cases h;exact WQ.rets tbOk hR [(500, 1000)] (.inl rfl) rfl rfl (Le.refl _) eqs rfl rfl rfl rfl
theorem concatStr_con {wg : World} (hw : WG wg) {slices : (List (List Str))} {r : (List Str)} (h : concatStr slices = some r) : Con Tryz.prog wg gl 151 [.v (.sl 1 (slices.map zA1))] [] (.r 500) [(500, .row 9 1 (r.map eStr))] := by
 unfold concatStr at h;refine cw Tryz.func151 Tryz.ntmps151 ?_;intro F L w ρ0 R hR;try dsimp only [zI1]
 refine sr (lr1 rfl (ns (lr1 rfl (nn (WC.seq (sr (lr1 rfl ?_)))))));refine WL.q [] rfl rfl rfl (q_ev tbOk (iv (slices.length : Int)) rfl tr lenT) ?_;refine lr1 rfl (nn ?_);refine WC.thenCut (X := Int) (fun gG => ⟨[(3, iv gG), (0, .v (.sl 1 (slices.map zA1)))], []⟩) (fun gG => concatStr_j1 slices gG = some r) ?_ ?_
 ·refine WC.block ?_;obtain ⟨eQ2, hl2, hk2⟩ := bnd h;clear h;refine WC.loop (σ := Int × Int) (τ := (Int)) (fun sS => ⟨[(11, iv sS.1), (10, iv (slices.length : Int)), (9, .v (.sl 1 (slices.map zA1))), (3, iv sS.2), (0, .v (.sl 1 (slices.map zA1)))], []⟩) (concatStr_b2 slices) [] ((0 : Int), (0 : Int)) hl2 sub ?_;rintro ⟨t11, size2⟩ m hn2 he2 hx2;obtain ⟨o2, hf2⟩ := zJ1 hx2;have h := hf2;unfold concatStr_b2 at h;try dsimp only
  refine sr (lr1 rfl (nn (WC.seq ?_)));revert h;refine ci (fun hc2 h => ?_) (fun hc2 h => ?_)
  ·refine kn (sb (sr ?_));obtain ⟨g3, h⟩ := grd h;revert h;refine zb fun x4 hxx4 h => ?_;refine WL.q [] rfl rfl rfl (q_idx tbOk rfl tr g3 (zF1 (f := zA1) hxx4)) ?_;refine lr2 rfl (ns (lr2 rfl ?_));refine WL.q [] rfl rfl rfl (q_ev tbOk (iv (x4.length : Int)) rfl tr lenT) ?_;refine lr2 rfl (ns (lr2 rfl (nn ?_)));revert h;refine ci (fun hc3 h => ?_) (fun hc3 h => ?_)
   ·cases h
   ·refine WC.skip (bn (WC.region (lr2 rfl (WL.nil ?_))));cases h;exact WQ.next [] ((IntKind.i64.wrap (t11 + (1 : Int))), (IntKind.i64.wrap (size2 + (x4.length : Int)))) sub (hn2 _ hf2)
  ·refine WC.exit (WQ.thenExit ?_);cases h;obtain rfl := he2 _ hf2;replace h := hk2;try dsimp only at h
   refine eb ?_;exact WQ.cut [] size2 sub h
 ·intro size h;try dsimp only at h;unfold concatStr_j1 at h;try dsimp only
  refine sr (lr1 rfl ?_);revert h;refine zb fun v hvv h => ?_;refine WL.callO [] [(500, 24)] [24] fn172 rfl rfl rfl rfl tr (growStr_con hw hvv) rfl rfl tr rfl rfl rfl rfl rfl rfl ?_;refine lr1 rfl (nn (WC.seq (sr (lr1 rfl ?_))));refine WL.q [] rfl rfl rfl (q_ev tbOk (iv (slices.length : Int)) rfl tr lenT) ?_;refine lr1 rfl (nn ?_);refine WC.thenCut (X := (List Str)) (fun gG => ⟨[(6, .r 1006)], [(1006, .row 9 1 (gG.map eStr))]⟩) (fun gG => concatStr_j2 gG = some r) ?_ ?_
  ·refine WC.block ?_;obtain ⟨eQ1, hl1, hk1⟩ := bnd h;clear h;refine WC.loop (σ := Int × (List Str)) (τ := ((List Str))) (fun sS => ⟨[(27, iv sS.1), (26, iv (slices.length : Int)), (25, .v (.sl 1 (slices.map zA1))), (6, .r 1006)], [(1006, .row 9 1 (sS.2.map eStr))]⟩) (concatStr_b1 slices) [(1006, 24)] ((0 : Int), v) hl1 sub ?_;rintro ⟨t27, newslice2⟩ m hn1 he1 hx1;obtain ⟨o1, hf1⟩ := zJ1 hx1;have h := hf1;unfold concatStr_b1 at h;try dsimp only
   refine sr (lr1 rfl (nn (WC.seq ?_)));revert h;refine ci (fun hc1 h => ?_) (fun hc1 h => ?_)
   ·refine kn (sb (sr ?_));obtain ⟨g1, h⟩ := grd h;revert h;refine zb fun x2 hxx2 h => ?_;refine WL.q [] rfl rfl rfl (q_idx tbOk rfl tr g1 (zF1 (f := zA1) hxx2)) ?_;refine lr2 rfl (nn (WC.region (lr2 rfl ?_)));obtain ⟨g2, h⟩ := grd h;refine WL.append tbOk ((newslice2 ++ x2).map eStr) [33, 1006] ap28 rfl rfl rfl rfl ce tr (zE1 (f := eStr) (xs := x2) fun _ => rfl) (al g2) rfl rfl ma rfl ?_;refine lr1 rfl (WL.nil (bn (WC.region (lr2 rfl (WL.nil ?_)))));cases h;exact WQ.next [(1006, 33)] ((IntKind.i64.wrap (t27 + (1 : Int))), (newslice2 ++ x2)) sub (hn1 _ hf1)
   ·refine WC.exit (WQ.thenExit ?_);cases h;obtain rfl := he1 _ hf1;replace h := hk1;try dsimp only at h
    refine eb ?_;exact WQ.cut [] newslice2 sub h
  ·intro newslice h;try dsimp only at h;unfold concatStr_j2 at h;try dsimp only
   refine sr (lr2 rfl (nr ?_));cases h;exact WQ.rets tbOk hR [(500, 1006)] (.inl rfl) rfl rfl (Le.refl _) eqs rfl rfl rfl rfl
theorem union_con {wg : World} (hw : WG wg) {a : (List Str)} {b : (List Str)} {r : (List Str)} (h : union a b = some r) : Con Tryz.prog wg gl 120 [.v (.sl 1 (a.map eStr)), .v (.sl 1 (b.map eStr))] [] (.v (.sl 1 (r.map eStr))) [] := by
 unfold union at h;refine cw Tryz.func120 Tryz.ntmps120 ?_;intro F L w ρ0 R hR;try dsimp only [zI1]
 refine sr (lr1 rfl (ns (lr3 rfl ?_)));revert h;refine zb fun v hvv h => ?_;refine WL.callO [] [(500, 9)] [9] fn151 rfl rfl rfl rfl tr (concatStr_con hw hvv) rfl rfl tr rfl rfl rfl rfl rfl rfl ?_;refine lr1 rfl (ns (lr1 rfl ?_));revert h;refine zb fun v2 hvv2 h => ?_;refine WL.callO [(0, 9)] [(0, 9)] [9] fn152 rfl rfl rfl rfl tr (sortS_con hw hvv2) rfl rfl eqs rfl rfl rfl rfl rfl rfl ?_;refine ns (lr1 rfl ?_);revert h;refine zb fun v3 hvv3 h => ?_;refine WL.callO [(0, 9)] [(0, 9), (500, 13)] [9, 13] fn153 rfl rfl rfl rfl tr (compactS_con hw hvv3) rfl rfl eqs rfl rfl rfl rfl rfl rfl ?_;refine lr1 rfl (nr ?_);refine WQ.publish 13 rfl rfl ?_;cases h;exact rt tbOk hR
end Go.Proofs.YtaeplfiaahkgpaaGreatDoor
end zCo
noncomputable section zHo
set_option linter.unusedVariables false
set_option linter.unusedSimpArgs false
namespace Go.Proofs.YtaeplfiaahkgpaaGreatDoor
open Go.V Go.C Go.RowKit
theorem commonP_con {wg : World} (hw : WG wg) {a b : List Str} {r : Int} (h : commonP a b = some r) : Con Tryz.prog wg gl 150 [.v (.sl 1 (a.map eStr)), .v (.sl 1 (b.map eStr))] [] (.v (.int .i64 r)) [] := by
 unfold commonP at h
 split at h
 ·exact commonS_con hw h
 ·exact commonB_con hw h
theorem cloneR_con {wg : World} (hw : WG wg) {l r : List Str} (h : cloneR l = some r) : Con Tryz.prog wg gl 119 [.v (.sl 1 (l.map eStr))] [] (.r 500) [(500, .row 9 1 (r.map eStr))] := by
 unfold cloneR at h
 split at h
 case isFalse => cases h
 rename_i hn
 cases h
 intro w ρ F L vals hlow hdis hext hglob hobs hargs
 simp only [VReps, VRep, Rep] at hargs
 obtain ⟨_, _, rfl, ⟨base, cap, rfl, h2, h3, h4⟩, rfl⟩ := hargs
 have fin : ∀ (v' : Value) (w' : World), w'.ownsRow w.heap.size 9 1 v' l.length (l.map fun s => Value.string ⟨⟨s⟩⟩) → Below w.heap.size w w' →
   ∃ v ρ' L', Ending.returned v' = .returned v ∧ VRep (nmO [(500, Ob.row 9 1 (l.map eStr))]) ρ' w' (un F L') (.r 500) v ∧ ObsOk [(500, Ob.row 9 1 (l.map eStr))] ρ' w' (un F L') L' ∧ Step L w L' w' ∧ (∀ b, L' b → b < w'.heap.size) ∧ ∀ k v, get (pinsOf ρ []) k = some v → nmO [(500, Ob.row 9 1 (l.map eStr))] k → ρ' k = v := fun v' w' ho hb => by
  refine ⟨v', upd ρ 500 v', fun b => L b ∨ ob v' = some b, rfl, by simp only [VRep]; exact ⟨nmO_self, by rw [upd_self]⟩, obs_one ?_, ⟨hb.os, hb.tape, hb.output, hb.size, fun b h1 _ => hb.block b h1, fun b h => ?_⟩, fun b h => ?_, fun k v h => by cases h⟩
  ·rw [upd_self]
   refine ⟨_, reps_strs2 l, fun r hr => ?_, ?_, fun b h => .inr h⟩
   ·obtain ⟨s, _, rfl⟩ := List.mem_map.1 hr; rfl
   ·rw [flat_strs, List.length_map]; exact OwnsR.of ho
  ·rcases h with h | h
   ·exact .inl h
   ·rcases ho.2 with ⟨e, _⟩ | ⟨g, cap, cur, e, hge, _⟩
    ·rw [e] at h; simp [ob] at h
    ·rw [e] at h; simp only [ob, Option.some.injEq] at h; subst h; exact .inr hge
  ·rcases h with h | h
   ·exact Nat.lt_of_lt_of_le (hlow b (.inr h)) hb.size
   ·rcases ho.2 with ⟨e, _⟩ | ⟨g, cap, cur, e, _, hg, _⟩
    ·rw [e] at h; simp [ob] at h
    ·rw [e] at h; simp only [ob, Option.some.injEq] at h; subst h; exact (Array.getElem?_eq_some_iff.1 hg).1
 cases hb : base with
 | none =>
  have := h3 hb
  simp only [List.map_eq_nil_iff] at this
  subst this
  refine (Tryz.slices_Clone_string_nil 0 cap w).mono ?_
  rintro e w' ⟨rfl, rfl⟩
  exact fin _ _ ⟨by simp, .inl ⟨rfl, rfl⟩⟩ (Below.refl _ _)
 | some ad =>
  by_cases hl : l = []
  ·subst hl
   refine (Tryz.slices_Clone_string_zero ad cap w).mono ?_
   rintro e w' ⟨v', rfl, ho, _, hbel⟩
   exact fin _ _ ho hbel
  ·obtain ⟨h5, h6, h7, h8⟩ := h4 ad hb (by simpa using hl)
   obtain ⟨b, o, q⟩ := ad
   simp only at h5; subst h5
   have hcells := reps_strs h8
   rw [List.length_map]
   refine (Tryz.slices_Clone_string b o l.length cap (l.map fun s => (⟨⟨s⟩⟩ : ByteArray)) w (by simp) hn (fun j hj => by
    have := hcells j ((l.map fun s => (⟨⟨s⟩⟩ : ByteArray))[j]) (by simp)
    rw [this]; simp [List.getD_eq_getElem?_getD, List.getElem?_eq_getElem hj])).mono ?_
   rintro e w' ⟨v', rfl, ho, _, hbel⟩
   have e1 : ((l.map fun s => (⟨⟨s⟩⟩ : ByteArray)).take l.length).map Value.string = l.map fun s => Value.string ⟨⟨s⟩⟩ := by rw [List.take_of_length_le (by simp), List.map_map]; rfl
   rw [e1] at ho
   exact fin _ _ ho hbel
end Go.Proofs.YtaeplfiaahkgpaaGreatDoor
end zHo
