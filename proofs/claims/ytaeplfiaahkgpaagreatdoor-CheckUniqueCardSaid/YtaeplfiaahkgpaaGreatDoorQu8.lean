/- Packed by pack.py. -/
import Derived.Test.YtaeplfiaahkgpaaGreatDoorQu3
import Derived.Test.YtaeplfiaahkgpaaGreatDoorQu4
import Derived.Test.YtaeplfiaahkgpaaGreatDoorQu7
import Derived.Test.YtaeplfiaahkgpaaGreatDoorQu5
import Derived.Test.YtaeplfiaahkgpaaGreatDoorQu6
import Derived.Shelf.Strings.BuilderK
import Derived.Lib.SmallJoins
noncomputable section zCq
set_option linter.unusedVariables false
set_option linter.unusedSimpArgs false
set_option maxHeartbeats 4000000
set_option maxRecDepth 20000
namespace Go.Proofs.YtaeplfiaahkgpaaGreatDoor
open Go.V Go.C
theorem incompleteWords_con {wg : World} (hw : WG wg) {g : YR} {r : (List Str)} (h : incompleteWords g = some r) : Con Tryz.prog wg gl 69 [.v (.agg (eS g))] [] (.v (.sl 1 (r.map eStr))) [] := by
 unfold incompleteWords at h;refine cw Tryz.func69 Tryz.ntmps69 ?_;intro F L w ρ0 R hR;try dsimp only [zP1]
 refine sr (lr2 rfl (ns (lr3 rfl ?_)));revert h;refine zb fun v hvv h => ?_;refine WL.call0 fn120 rfl rfl rfl rfl tr rfl (union_con hw hvv) ?_;refine lr1 rfl (nr ?_);cases h;exact rt tbOk hR
theorem likeness_con {wg : World} (hw : WG wg) {b : YE} {e1 : YB} {g : YR} {r : Int} (h : likeness b e1 g = some r) : Con Tryz.prog wg gl 117 [.v (.agg (eF b)), .v (.agg (eC e1)), .v (.agg (eS g))] [] (iv r) [] := by
 unfold likeness at h;refine cw Tryz.func117 Tryz.ntmps117 ?_;intro F L w ρ0 R hR;try dsimp only [zP1]
 refine sr (lr4 rfl (nn (WC.seq (sr (lr5 rfl ?_)))));revert h;refine zb fun v hvv h => ?_;refine WL.call0 fn88 rfl rfl rfl rfl tr rfl (nomExcluded_con hw hvv) ?_;refine nn ?_;revert h;refine ci (fun hc1 h => ?_) (fun hc1 h => ?_)
 ·refine sr (lr1 rfl (nr (WQ.thenRet ?_)));cases h;exact rt tbOk hR
 ·refine kn (sr (lr2 rfl ?_));revert h;refine zb fun v2 hvv2 h => ?_;refine WL.callO [] [(500, 23)] [23] fn119 rfl rfl rfl rfl tr (cloneR_con hw hvv2) rfl rfl tr rfl rfl rfl rfl rfl rfl ?_;refine lr1 rfl (nn (WC.seq (sr (lr2 rfl ?_))));refine WL.q [] rfl rfl rfl (q_ev tbOk (iv (g.Materials.length : Int)) rfl tr lenT) ?_;refine lr1 rfl (nn ?_);refine WC.thenCut (X := (List Str)) (fun gG => ⟨[(7, .r 1007), (5, .p 5 0), (4, .p 4 0), (3, .p 3 0)], [(1007, .row 9 1 (gG.map eStr)), (3, .blk 26 (kv (eF b))), (4, .blk 53 (kv (eC e1))), (5, .blk 32 (kv (eS g)))]⟩) (fun gG => likeness_j1 b e1 g gG = some r) ?_ ?_
  ·refine WC.block ?_;obtain ⟨eQ3, hl3, hk3⟩ := bnd h;clear h;refine WC.loop (σ := Int × (List Str)) (τ := ((List Str))) (fun sS => ⟨[(27, iv sS.1), (26, iv (g.Materials.length : Int)), (25, .v (.sl 2 (g.Materials.map eA1))), (7, .r 1007), (5, .p 5 0), (4, .p 4 0), (3, .p 3 0)], [(1007, .row 9 1 (sS.2.map eStr)), (3, .blk 26 (kv (eF b))), (4, .blk 53 (kv (eC e1))), (5, .blk 32 (kv (eS g)))]⟩) (likeness_b3 b e1 g) [(1007, 23)] ((0 : Int), v2) hl3 sub ?_;rintro ⟨t27, words8⟩ m hn3 he3 hx3;obtain ⟨o3, hf3⟩ := zQ1 hx3;have h := hf3;unfold likeness_b3 at h;try dsimp only
   refine sr (lr1 rfl (nn (WC.seq ?_)));revert h;refine ci (fun hc4 h => ?_) (fun hc4 h => ?_)
   ·refine kn (sb (sr ?_));obtain ⟨g4, h⟩ := grd h;revert h;refine zb fun x7 hxx7 h => ?_;refine WL.q [] rfl rfl rfl (q_idx tbOk rfl tr g4 (zM1 (f := eA1) hxx7)) ?_;refine lr3 rfl (nn (WC.region (lr4 rfl ?_)));obtain ⟨g5, h⟩ := grd h;refine WL.append tbOk ((words8 ++ [x7.Name]).map eStr) [35, 1007] ap28 rfl rfl rfl rfl ce tr (zL1 (f := eStr) (xs := [x7.Name]) fun _ => rfl) (al g5) rfl rfl ma rfl ?_;refine lr1 rfl (WL.nil (bn (WC.region (lr2 rfl (WL.nil ?_)))));cases h;exact WQ.next [(1007, 35)] ((IntKind.i64.wrap (t27 + (1 : Int))), (words8 ++ [x7.Name])) sub (hn3 _ hf3)
   ·refine WC.exit (WQ.thenExit ?_);cases h;obtain rfl := he3 _ hf3;replace h := hk3;try dsimp only at h
    refine eb ?_;exact WQ.cut [] words8 sub h
  ·intro words h;try dsimp only at h;unfold likeness_j1 at h;try dsimp only
   refine WC.seq (sr (lr2 rfl ?_));refine WL.q [] rfl rfl rfl (q_ev tbOk (iv (g.Parts.length : Int)) rfl tr lenT) ?_;refine lr1 rfl (nn ?_);refine WC.thenCut (X := (List Str)) (fun gG => ⟨[(7, .r 1007), (4, .p 4 0), (3, .p 3 0)], [(1007, .row 9 1 (gG.map eStr)), (3, .blk 26 (kv (eF b))), (4, .blk 53 (kv (eC e1)))]⟩) (fun gG => likeness_j2 b e1 gG = some r) ?_ ?_
   ·refine WC.block ?_;obtain ⟨eQ2, hl2, hk2⟩ := bnd h;clear h;refine WC.loop (σ := Int × (List Str)) (τ := ((List Str))) (fun sS => ⟨[(40, iv sS.1), (39, iv (g.Parts.length : Int)), (38, .v (.sl 2 (g.Parts.map eJ))), (7, .r 1007), (4, .p 4 0), (3, .p 3 0)], [(1007, .row 9 1 (sS.2.map eStr)), (3, .blk 26 (kv (eF b))), (4, .blk 53 (kv (eC e1)))]⟩) (likeness_b2 b e1 g) [] ((0 : Int), words) hl2 sub ?_;rintro ⟨t40, words5⟩ m hn2 he2 hx2;obtain ⟨o2, hf2⟩ := zQ1 hx2;have h := hf2;unfold likeness_b2 at h;try dsimp only
    refine sr (lr1 rfl (nn (WC.seq ?_)));revert h;refine ci (fun hc3 h => ?_) (fun hc3 h => ?_)
    ·refine kn (sb (sr ?_));obtain ⟨g2, h⟩ := grd h;revert h;refine zb fun x5 hxx5 h => ?_;refine WL.q [] rfl rfl rfl (q_idx tbOk rfl tr g2 (zM1 (f := eJ) hxx5)) ?_;refine lr3 rfl (nn (WC.region (lr3 rfl ?_)));obtain ⟨g3, h⟩ := grd h;refine WL.append tbOk ((words5 ++ x5.Words).map eStr) [47, 1007] ap28 rfl rfl rfl rfl ce tr (zL1 (f := eStr) (xs := x5.Words) fun _ => rfl) (al g3) rfl rfl ma rfl ?_;refine lr1 rfl (WL.nil (bn (WC.region (lr2 rfl (WL.nil ?_)))));cases h;exact WQ.next [(1007, 47)] ((IntKind.i64.wrap (t40 + (1 : Int))), (words5 ++ x5.Words)) sub (hn2 _ hf2)
    ·refine WC.exit (WQ.thenExit ?_);cases h;obtain rfl := he2 _ hf2;replace h := hk2;try dsimp only at h
     refine eb ?_;exact WQ.cut [] words5 sub h
   ·intro words2 h;try dsimp only at h;unfold likeness_j2 at h;try dsimp only
    refine sr (lr1 rfl (nn (WC.seq (sr (lr2 rfl ?_)))));revert h;refine zb fun v3 hvv3 h => ?_;refine WL.call0 fn111 rfl rfl rfl rfl tr rfl (nomAlts_con hw hvv3) ?_;refine WL.q [] rfl rfl rfl (q_ev tbOk (iv (v3.length : Int)) rfl tr lenT) ?_;refine lr1 rfl (nn ?_);refine WC.thenCut (X := Int) (fun gG => ⟨[(12, iv gG)], []⟩) (fun gG => likeness_j3 gG = some r) ?_ ?_
    ·refine WC.block ?_;obtain ⟨eQ1, hl1, hk1⟩ := bnd h;clear h;refine WC.publish 1007 rfl rfl ?_;refine WC.loop (σ := Int × Int × (List Str)) (τ := (Int)) (fun sS => ⟨[(53, iv sS.1), (52, iv (v3.length : Int)), (51, .v (.sl 1 (v3.map zH1))), (12, iv sS.2.1), (7, .v (.sl 1 (sS.2.2.map eStr)))], []⟩) (likeness_b1 v3) [] ((0 : Int), (0 : Int), words2) hl1 sub ?_;rintro ⟨t532, most3, words4⟩ m hn1 he1 hx1;obtain ⟨o1, hf1⟩ := zQ1 hx1;have h := hf1;unfold likeness_b1 at h;try dsimp only
     refine sr (lr1 rfl (nn (WC.seq ?_)));revert h;refine ci (fun hc2 h => ?_) (fun hc2 h => ?_)
     ·refine kn (sb (sr ?_));obtain ⟨g1, h⟩ := grd h;revert h;refine zb fun x3 hxx3 h => ?_;refine WL.q [] rfl rfl rfl (q_idx tbOk rfl tr g1 (zM1 (f := zH1) hxx3)) ?_;refine lr2 rfl (nn (WC.region (lr3 rfl ?_)));revert h;refine zb fun v6 hvv6 h => ?_;refine WL.call0 fn150 rfl rfl rfl rfl tr rfl (commonP_con hw hvv6) ?_;refine lr2 rfl (WL.nil (bn (WC.region (lr2 rfl (WL.nil ?_)))));cases h;exact WQ.next [] ((IntKind.i64.wrap (t532 + (1 : Int))), (if v6 > most3 then v6 else most3), words4) sub (hn1 _ hf1)
     ·refine WC.exit (WQ.thenExit ?_);cases h;obtain rfl := he1 _ hf1;replace h := hk1;try dsimp only at h
      refine eb ?_;exact WQ.cut [] most3 sub h
    ·intro most h;try dsimp only at h;unfold likeness_j3 at h;try dsimp only
     refine sr (lr2 rfl (nr ?_));cases h;exact rt tbOk hR
theorem scoredIn_con {wg : World} (hw : WG wg) {e1 : YB} {a1 : YE} {a2 : (List Str)} {r : Bool} (h : scoredIn e1 a1 a2 = some r) : Con Tryz.prog wg gl 125 [.v (.agg (eC e1)), .p 1 0, .p 2 0] [(1, .blk 26 (kv (eF a1))), (2, .blk 28 [.v (.sl 1 (a2.map eStr))])] (ov r) [(1, .blk 26 (kv (eF a1))), (2, .blk 28 [.v (.sl 1 (a2.map eStr))])] := by
 unfold scoredIn at h;refine cw Tryz.func125 Tryz.ntmps125 ?_;intro F L w ρ0 R hR;try dsimp only [zP1]
 refine sr (lr2 rfl (ns (lr3 rfl ?_)));revert h;refine zb fun v hvv h => ?_;refine WL.call0 fn95 rfl rfl rfl rfl tr rfl (nomScore_con hw hvv) ?_;refine lr2 rfl (nr ?_);cases h;exact rt tbOk hR
theorem keepScored_con {wg : World} (hw : WG wg) {l : (List YB)} {test0 : YE} {test1 : (List Str)} {r : (List YB)} (h : keepScored l test0 test1 = some r) : Con Tryz.prog wg gl 109 [.v (.sl 5 (l.map eC)), .fn 125 [.p 810 0, .p 811 0]] [(810, .blk 26 (kv (eF test0))), (811, .blk 28 [.v (.sl 1 (test1.map eStr))])] (.v (.sl 5 (r.map eC))) [(810, .blk 26 (kv (eF test0))), (811, .blk 28 [.v (.sl 1 (test1.map eStr))])] := by
 unfold keepScored at h;refine cw Tryz.func109 Tryz.ntmps109 ?_;intro F L w ρ0 R hR;try dsimp only [zP1]
 refine sr (lr1 rfl (ns (lr1 rfl (nn (WC.seq (sr (lr1 rfl ?_)))))));refine WL.q [] rfl rfl rfl (q_ev tbOk (iv (l.length : Int)) rfl tr lenT) ?_;refine lr1 rfl (nn ?_);refine WC.thenCut (X := (List YB)) (fun gG => ⟨[(5, .r 1005)], [(1005, .row 53 5 (gG.map eC)), (810, .blk 26 (kv (eF test0))), (811, .blk 28 [.v (.sl 1 (test1.map eStr))])]⟩) (fun gG => keepScored_j1 test0 test1 gG = some r) ?_ ?_
 ·refine WC.block ?_;obtain ⟨eQ1, hl1, hk1⟩ := bnd h;clear h;refine WC.rowNil 5 1005 53 5 rfl rfl ?_;refine WC.loop (σ := Int × (List YB)) (τ := ((List YB))) (fun sS => ⟨[(10, iv sS.1), (9, iv (l.length : Int)), (8, .v (.sl 5 (l.map eC))), (5, .r 1005), (1, .fn 125 [.p 810 0, .p 811 0])], [(1005, .row 53 5 (sS.2.map eC)), (810, .blk 26 (kv (eF test0))), (811, .blk 28 [.v (.sl 1 (test1.map eStr))])]⟩) (keepScored_b1 l test0 test1) [] ((0 : Int), []) hl1 sub ?_;rintro ⟨t102, kept3⟩ m hn1 he1 hx1;obtain ⟨o1, hf1⟩ := zQ1 hx1;have h := hf1;unfold keepScored_b1 at h;try dsimp only
  refine sr (lr1 rfl (nn (WC.seq ?_)));revert h;refine ci (fun hc1 h => ?_) (fun hc1 h => ?_)
  ·refine kn (WC.seq ?_);refine WC.thenCut (X := (List YB)) (fun gG => ⟨[(5, .r 1005), (10, iv t102), (9, iv (l.length : Int)), (8, .v (.sl 5 (l.map eC))), (1, .fn 125 [.p 810 0, .p 811 0])], [(1005, .row 53 5 (gG.map eC)), (810, .blk 26 (kv (eF test0))), (811, .blk 28 [.v (.sl 1 (test1.map eStr))])]⟩) (fun gG => keepScored_j2 l test0 test1 t102 gG = some o1) ?_ ?_
   ·refine WC.block (sr ?_);obtain ⟨g1, h⟩ := grd h;revert h;refine zb fun x3 hxx3 h => ?_;refine WL.q [] rfl rfl rfl (q_idx tbOk rfl tr g1 (zM1 (f := eC) hxx3)) ?_;refine lr3 rfl (ns (lr2 rfl ?_));revert h;refine zb fun v3 hvv3 h => ?_;refine WL.callO [(1, 810), (2, 811)] [(1, 810), (2, 811)] [810, 811] fn125 rfl rfl rfl rfl tr (scoredIn_con hw hvv3) rfl rfl eqs rfl rfl rfl rfl rfl rfl ?_;refine nn ?_;revert h;refine ci (fun hc2 h => ?_) (fun hc2 h => ?_)
    ·refine WC.region (lr3 rfl ?_);obtain ⟨g2, h⟩ := grd h;refine WL.append tbOk ((kept3 ++ [x3]).map eC) [20, 1005] ap23 rfl rfl rfl rfl ce tr (zL1 (f := eC) (xs := [x3]) fun _ => rfl) (al g2) rfl rfl ma rfl ?_;refine lr1 rfl (WL.nil (WQ.blockNormal ?_));exact WQ.cut [(1005, 20)] (kept3 ++ [x3]) sub h
    ·refine WC.skip (WQ.blockNormal ?_);exact WQ.cut [] kept3 sub h
   ·intro kept6 h;try dsimp only at h;unfold keepScored_j2 at h;try dsimp only
    refine WC.region (lr2 rfl (WL.nil ?_));cases h;exact WQ.next [] ((IntKind.i64.wrap (t102 + (1 : Int))), kept6) sub (hn1 _ hf1)
  ·refine WC.exit (WQ.thenExit ?_);cases h;obtain rfl := he1 _ hf1;replace h := hk1;try dsimp only at h
   refine eb ?_;exact WQ.cut [] kept3 sub h
 ·intro kept h;try dsimp only at h;unfold keepScored_j1 at h;try dsimp only
  refine sr (lr2 rfl (nr ?_));refine WQ.publish 1005 rfl rfl ?_;cases h;exact rt tbOk hR
theorem scored_con {wg : World} (hw : WG wg) {b : YE} {l : (List YB)} {words : (List Str)} {r : (List YB)} (h : scored b l words = some r) : Con Tryz.prog wg gl 72 [.v (.agg (eF b)), .v (.sl 5 (l.map eC)), .v (.sl 1 (words.map eStr))] [] (.v (.sl 5 (r.map eC))) [] := by
 unfold scored at h;refine cw Tryz.func72 Tryz.ntmps72 ?_;intro F L w ρ0 R hR;try dsimp only [zP1]
 refine sr (lr3 rfl (ns (lr2 rfl ?_)));revert h;refine zb fun v hvv h => ?_;refine WL.callO [(810, 3), (811, 5)] [(810, 3), (811, 5)] [3, 5] fn109 rfl rfl rfl rfl tr (keepScored_con hw hvv) rfl rfl eqs rfl rfl rfl rfl rfl rfl ?_;refine lr1 rfl (nr ?_);cases h;exact rt tbOk hR
theorem byTermsIn_con {wg : World} (hw : WG wg) {e1 : YB} {a1 : YU} {a2 : (List Str)} {r : Bool} (h : byTermsIn e1 a1 a2 = some r) : Con Tryz.prog wg gl 110 [.v (.agg (eC e1)), .p 1 0, .p 2 0] [(1, .blk 107 (kv (eV a1))), (2, .blk 28 [.v (.sl 1 (a2.map eStr))])] (ov r) [(1, .blk 107 (kv (eV a1))), (2, .blk 28 [.v (.sl 1 (a2.map eStr))])] := by
 unfold byTermsIn at h;refine cw Tryz.func110 Tryz.ntmps110 ?_;intro F L w ρ0 R hR;try dsimp only [zP1]
 refine sr (lr2 rfl (nn (WC.seq (sr (lr5 rfl ?_)))));revert h;refine zb fun v hvv h => ?_;refine WL.call0 fn88 rfl rfl rfl rfl tr rfl (nomExcluded_con hw hvv) ?_;refine nn ?_;revert h;refine ci (fun hc1 h => ?_) (fun hc1 h => ?_)
 ·refine sr (lr1 rfl (nr (WQ.thenRet ?_)));cases h;exact rt tbOk hR
 ·refine kn (WC.seq (sr (lr3 rfl ?_)));revert h;refine zb fun v2 hvv2 h => ?_;refine WL.call0 fn111 rfl rfl rfl rfl tr rfl (nomAlts_con hw hvv2) ?_;refine WL.q [] rfl rfl rfl (q_ev tbOk (iv (v2.length : Int)) rfl tr lenT) ?_;refine lr1 rfl (nn ?_);refine WC.thenCut (X := Unit) (fun gG => ⟨[(1, .p 1 0), (2, .p 2 0)], [(1, .blk 107 (kv (eV a1))), (2, .blk 28 [.v (.sl 1 (a2.map eStr))])]⟩) (fun gG => byTermsIn_j1 a1 a2 = some r) ?_ ?_
  ·refine WC.block ?_;obtain ⟨eQ1, hl1, hk1⟩ := bnd h;clear h;refine WC.loop (σ := Int) (τ := ((Bool) ⊕ (Unit))) (fun sS => ⟨[(18, iv sS), (17, iv (v2.length : Int)), (16, .v (.sl 1 (v2.map zH1))), (1, .p 1 0), (2, .p 2 0)], [(1, .blk 107 (kv (eV a1))), (2, .blk 28 [.v (.sl 1 (a2.map eStr))])]⟩) (byTermsIn_b1 a1 a2 v2) [] (0 : Int) hl1 sub ?_;intro t18 m hn1 he1 hx1;obtain ⟨o1, hf1⟩ := zQ1 hx1;have h := hf1;unfold byTermsIn_b1 at h;try dsimp only
   refine sr (lr1 rfl (nn (WC.seq ?_)));revert h;refine ci (fun hc2 h => ?_) (fun hc2 h => ?_)
   ·refine kn (sb (sr ?_));obtain ⟨g1, h⟩ := grd h;revert h;refine zb fun x2 hxx2 h => ?_;refine WL.q [] rfl rfl rfl (q_idx tbOk rfl tr g1 (zM1 (f := zH1) hxx2)) ?_;refine lr2 rfl (ns (lr1 rfl ?_));revert h;refine zb fun v5 hvv5 h => ?_;refine WL.call0 fn89 rfl rfl rfl rfl tr rfl (sContains_con hw hvv5) ?_;refine lr 3 rfl sideR ?_;revert h;refine zb fun v6 hvv6 h => ?_;refine WL.gcall0 fn112 rfl rfl rfl rfl rfl (fun _ => sideR) rfl (fun hg => (subset_con hw (ite_t hg hvv6))) ?_;refine lr 1 rfl sideR ?_;refine nn ?_;revert h;refine ci (fun hc3 h => ?_) (fun hc3 h => ?_)
    ·refine sr (lr1 rfl (nr (rb ?_)));cases h;obtain rfl := he1 _ hf1;have h : some true = some _ := hk1;refine WQ.thenRet (rb ?_);cases h;exact rt tbOk hR
    ·refine WC.skip (bn (WC.region (lr2 rfl (WL.nil ?_))));cases h;exact WQ.next [] (IntKind.i64.wrap (t18 + (1 : Int))) sub (hn1 _ hf1)
   ·refine WC.exit (WQ.thenExit ?_);cases h;obtain rfl := he1 _ hf1;replace h := hk1;try dsimp only at h
    refine eb ?_;exact WQ.cut [] () sub h
  ·intro _ h;try dsimp only at h;unfold byTermsIn_j1 at h;try dsimp only
   refine sr (lr1 rfl (nr ?_));cases h;exact rt tbOk hR
theorem keepTerms_con {wg : World} (hw : WG wg) {l : (List YB)} {test0 : YU} {test1 : (List Str)} {r : (List YB)} (h : keepTerms l test0 test1 = some r) : Con Tryz.prog wg gl 109 [.v (.sl 5 (l.map eC)), .fn 110 [.p 810 0, .p 811 0]] [(810, .blk 107 (kv (eV test0))), (811, .blk 28 [.v (.sl 1 (test1.map eStr))])] (.v (.sl 5 (r.map eC))) [(810, .blk 107 (kv (eV test0))), (811, .blk 28 [.v (.sl 1 (test1.map eStr))])] := by
 unfold keepTerms at h;refine cw Tryz.func109 Tryz.ntmps109 ?_;intro F L w ρ0 R hR;try dsimp only [zP1]
 refine sr (lr1 rfl (ns (lr1 rfl (nn (WC.seq (sr (lr1 rfl ?_)))))));refine WL.q [] rfl rfl rfl (q_ev tbOk (iv (l.length : Int)) rfl tr lenT) ?_;refine lr1 rfl (nn ?_);refine WC.thenCut (X := (List YB)) (fun gG => ⟨[(5, .r 1005)], [(1005, .row 53 5 (gG.map eC)), (810, .blk 107 (kv (eV test0))), (811, .blk 28 [.v (.sl 1 (test1.map eStr))])]⟩) (fun gG => keepTerms_j1 test0 test1 gG = some r) ?_ ?_
 ·refine WC.block ?_;obtain ⟨eQ1, hl1, hk1⟩ := bnd h;clear h;refine WC.rowNil 5 1005 53 5 rfl rfl ?_;refine WC.loop (σ := Int × (List YB)) (τ := ((List YB))) (fun sS => ⟨[(10, iv sS.1), (9, iv (l.length : Int)), (8, .v (.sl 5 (l.map eC))), (5, .r 1005), (1, .fn 110 [.p 810 0, .p 811 0])], [(1005, .row 53 5 (sS.2.map eC)), (810, .blk 107 (kv (eV test0))), (811, .blk 28 [.v (.sl 1 (test1.map eStr))])]⟩) (keepTerms_b1 l test0 test1) [] ((0 : Int), []) hl1 sub ?_;rintro ⟨t102, kept3⟩ m hn1 he1 hx1;obtain ⟨o1, hf1⟩ := zQ1 hx1;have h := hf1;unfold keepTerms_b1 at h;try dsimp only
  refine sr (lr1 rfl (nn (WC.seq ?_)));revert h;refine ci (fun hc1 h => ?_) (fun hc1 h => ?_)
  ·refine kn (WC.seq ?_);refine WC.thenCut (X := (List YB)) (fun gG => ⟨[(5, .r 1005), (10, iv t102), (9, iv (l.length : Int)), (8, .v (.sl 5 (l.map eC))), (1, .fn 110 [.p 810 0, .p 811 0])], [(1005, .row 53 5 (gG.map eC)), (810, .blk 107 (kv (eV test0))), (811, .blk 28 [.v (.sl 1 (test1.map eStr))])]⟩) (fun gG => keepTerms_j2 l test0 test1 t102 gG = some o1) ?_ ?_
   ·refine WC.block (sr ?_);obtain ⟨g1, h⟩ := grd h;revert h;refine zb fun x3 hxx3 h => ?_;refine WL.q [] rfl rfl rfl (q_idx tbOk rfl tr g1 (zM1 (f := eC) hxx3)) ?_;refine lr3 rfl (ns (lr2 rfl ?_));revert h;refine zb fun v3 hvv3 h => ?_;refine WL.callO [(1, 810), (2, 811)] [(1, 810), (2, 811)] [810, 811] fn110 rfl rfl rfl rfl tr (byTermsIn_con hw hvv3) rfl rfl eqs rfl rfl rfl rfl rfl rfl ?_;refine nn ?_;revert h;refine ci (fun hc2 h => ?_) (fun hc2 h => ?_)
    ·refine WC.region (lr3 rfl ?_);obtain ⟨g2, h⟩ := grd h;refine WL.append tbOk ((kept3 ++ [x3]).map eC) [20, 1005] ap23 rfl rfl rfl rfl ce tr (zL1 (f := eC) (xs := [x3]) fun _ => rfl) (al g2) rfl rfl ma rfl ?_;refine lr1 rfl (WL.nil (WQ.blockNormal ?_));exact WQ.cut [(1005, 20)] (kept3 ++ [x3]) sub h
    ·refine WC.skip (WQ.blockNormal ?_);exact WQ.cut [] kept3 sub h
   ·intro kept6 h;try dsimp only at h;unfold keepTerms_j2 at h;try dsimp only
    refine WC.region (lr2 rfl (WL.nil ?_));cases h;exact WQ.next [] ((IntKind.i64.wrap (t102 + (1 : Int))), kept6) sub (hn1 _ hf1)
  ·refine WC.exit (WQ.thenExit ?_);cases h;obtain rfl := he1 _ hf1;replace h := hk1;try dsimp only at h
   refine eb ?_;exact WQ.cut [] kept3 sub h
 ·intro kept h;try dsimp only at h;unfold keepTerms_j1 at h;try dsimp only
  refine sr (lr2 rfl (nr ?_));refine WQ.publish 1005 rfl rfl ?_;cases h;exact rt tbOk hR
theorem byTerms_con {wg : World} (hw : WG wg) {v : YU} {r : (List YB)} (h : byTerms v = some r) : Con Tryz.prog wg gl 62 [.v (.agg (eV v))] [] (.v (.sl 5 (r.map eC))) [] := by
 unfold byTerms at h;refine cw Tryz.func62 Tryz.ntmps62 ?_;intro F L w ρ0 R hR;try dsimp only [zP1]
 refine sr (lr2 rfl (nn (WC.seq (sr (lr4 rfl (nn ?_))))));revert h;refine ci (fun hc1 h => ?_) (fun hc1 h => ?_)
 ·refine sr (lr 7 rfl trivial ?_);revert h;refine zb fun v2 hvv2 h => ?_;refine WL.call0 fn72 rfl rfl rfl rfl tr rfl (scored_con hw hvv2) ?_;refine lr1 rfl (nr (WQ.thenRet ?_));cases h;exact rt tbOk hR
 ·refine kn (sr (lr2 rfl ?_));revert h;refine zb fun v3 hvv3 h => ?_;refine WL.call0 fn69 rfl rfl rfl rfl tr rfl (incompleteWords_con hw hvv3) ?_;refine lr2 rfl (ns (lr3 rfl ?_));revert h;refine zb fun v4 hvv4 h => ?_;refine WL.callO [(810, 1), (811, 3)] [(810, 1), (811, 3)] [1, 3] fn109 rfl rfl rfl rfl tr (keepTerms_con hw hvv4) rfl rfl eqs rfl rfl rfl rfl rfl rfl ?_;refine lr1 rfl (nr ?_);cases h;exact rt tbOk hR
theorem asComplete_con {wg : World} (hw : WG wg) {v : YU} {r : (List YB)} (h : asComplete v = some r) : Con Tryz.prog wg gl 63 [.v (.agg (eV v))] [] (.v (.sl 5 (r.map eC))) [] := by
 unfold asComplete at h;refine cw Tryz.func63 Tryz.ntmps63 ?_;intro F L w ρ0 R hR;try dsimp only [zP1]
 refine sr (lr2 rfl (nn (WC.seq (sr (lr4 rfl (nn ?_))))));revert h;refine ci (fun hc1 h => ?_) (fun hc1 h => ?_)
 ·refine sr (lr1 rfl (nr (WQ.thenRet ?_)));cases h;exact WQ.rets tbOk (r := .v (.sl 5 ([].map eC))) hR [] (.inl rfl) rfl rfl (Le.nil 5) tr rfl rfl rfl rfl
 ·refine kn (sr (lr 7 rfl trivial ?_));revert h;refine zb fun v2 hvv2 h => ?_;refine WL.call0 fn72 rfl rfl rfl rfl tr rfl (scored_con hw hvv2) ?_;refine lr1 rfl (nr ?_);cases h;exact rt tbOk hR
theorem byCharIn2_con {wg : World} (hw : WG wg) {x : YI} {a1 : YU} {a2 : YB} {r : Bool} (h : byCharIn2 x a1 a2 = some r) : Con Tryz.prog wg gl 115 [.v (.agg (eJ x)), .p 1 0, .p 2 0] [(1, .blk 107 (kv (eV a1))), (2, .blk 53 (kv (eC a2)))] (ov r) [(1, .blk 107 (kv (eV a1))), (2, .blk 53 (kv (eC a2)))] := by
 unfold byCharIn2 at h;refine cw Tryz.func115 Tryz.ntmps115 ?_;intro F L w ρ0 R hR;try dsimp only [zP1]
 refine sr (lr2 rfl (ns (lr5 rfl ?_)));revert h;refine zb fun v hvv h => ?_;refine WL.call0 fn95 rfl rfl rfl rfl tr rfl (nomScore_con hw hvv) ?_;refine lr2 rfl (nr ?_);cases h;exact rt tbOk hR
theorem charIndex_con {wg : World} (hw : WG wg) {s : (List YI)} {f0 : YU} {f1 : YB} {r : Int} (h : charIndex s f0 f1 = some r) : Con Tryz.prog wg gl 149 [.v (.sl 2 (s.map eJ)), .fn 115 [.p 810 0, .p 811 0]] [(810, .blk 107 (kv (eV f0))), (811, .blk 53 (kv (eC f1)))] (iv r) [(810, .blk 107 (kv (eV f0))), (811, .blk 53 (kv (eC f1)))] := by
 unfold charIndex at h;refine cw Tryz.func149 Tryz.ntmps149 ?_;intro F L w ρ0 R hR;try dsimp only [zP1]
 refine sr (lr1 rfl (nn (WC.seq (sr (lr1 rfl ?_)))));refine WL.q [] rfl rfl rfl (q_ev tbOk (iv (s.length : Int)) rfl tr lenT) ?_;refine lr1 rfl (nn ?_);refine WC.thenCut (X := Unit) (fun gG => ⟨[], [(810, .blk 107 (kv (eV f0))), (811, .blk 53 (kv (eC f1)))]⟩) (fun gG => charIndex_j1 f0 f1 = some r) ?_ ?_
 ·refine WC.block ?_;obtain ⟨eQ1, hl1, hk1⟩ := bnd h;clear h;refine WC.loop (σ := Int) (τ := ((Int) ⊕ (Unit))) (fun sS => ⟨[(8, iv sS), (7, iv (s.length : Int)), (0, .v (.sl 2 (s.map eJ))), (1, .fn 115 [.p 810 0, .p 811 0])], [(810, .blk 107 (kv (eV f0))), (811, .blk 53 (kv (eC f1)))]⟩) (charIndex_b1 s f0 f1) [] (0 : Int) hl1 sub ?_;intro t8 m hn1 he1 hx1;obtain ⟨o1, hf1⟩ := zQ1 hx1;have h := hf1;unfold charIndex_b1 at h;try dsimp only
  refine sr (lr1 rfl (nn (WC.seq ?_)));revert h;refine ci (fun hc1 h => ?_) (fun hc1 h => ?_)
  ·refine kn (sb (sr (lr2 rfl (ns (lr3 rfl ?_)))));obtain ⟨g1, h⟩ := grd h;revert h;refine zb fun x2 hxx2 h => ?_;refine WL.q [] rfl rfl rfl (q_idx tbOk rfl tr g1 (zM1 (f := eJ) hxx2)) ?_;refine lr1 rfl ?_;revert h;refine zb fun v2 hvv2 h => ?_;refine WL.callO [(1, 810), (2, 811)] [(1, 810), (2, 811)] [810, 811] fn115 rfl rfl rfl rfl tr (byCharIn2_con hw hvv2) rfl rfl eqs rfl rfl rfl rfl rfl rfl ?_;refine nn ?_;revert h;refine ci (fun hc2 h => ?_) (fun hc2 h => ?_)
   ·refine sr (lr2 rfl (nr (rb ?_)));cases h;obtain rfl := he1 _ hf1;have h : some t8 = some _ := hk1;refine WQ.thenRet (rb ?_);cases h;exact rt tbOk hR
   ·refine WC.skip (bn (WC.region (lr2 rfl (WL.nil ?_))));cases h;exact WQ.next [] (IntKind.i64.wrap (t8 + (1 : Int))) sub (hn1 _ hf1)
  ·refine WC.exit (WQ.thenExit ?_);cases h;obtain rfl := he1 _ hf1;replace h := hk1;try dsimp only at h
   refine eb ?_;exact WQ.cut [] () sub h
 ·intro _ h;try dsimp only at h;unfold charIndex_j1 at h;try dsimp only
  refine sr (lr1 rfl (nr ?_));cases h;exact rt tbOk hR
theorem charContains_con {wg : World} (hw : WG wg) {s : (List YI)} {f0 : YU} {f1 : YB} {r : Bool} (h : charContains s f0 f1 = some r) : Con Tryz.prog wg gl 114 [.v (.sl 2 (s.map eJ)), .fn 115 [.p 810 0, .p 811 0]] [(810, .blk 107 (kv (eV f0))), (811, .blk 53 (kv (eC f1)))] (ov r) [(810, .blk 107 (kv (eV f0))), (811, .blk 53 (kv (eC f1)))] := by
 unfold charContains at h;refine cw Tryz.func114 Tryz.ntmps114 ?_;intro F L w ρ0 R hR;try dsimp only [zP1]
 refine sr (lr1 rfl (ns (lr2 rfl ?_)));revert h;refine zb fun v hvv h => ?_;refine WL.callO [(810, 810), (811, 811)] [(810, 810), (811, 811)] [810, 811] fn149 rfl rfl rfl rfl tr (charIndex_con hw hvv) rfl rfl eqs rfl rfl rfl rfl rfl rfl ?_;refine lr2 rfl (nr ?_);cases h;exact rt tbOk hR
theorem byCharIn_con {wg : World} (hw : WG wg) {e1 : YB} {a1 : (List YI)} {a2 : YU} {r : Bool} (h : byCharIn e1 a1 a2 = some r) : Con Tryz.prog wg gl 113 [.v (.agg (eC e1)), .p 1 0, .p 2 0] [(1, .blk 30 [.v (.sl 2 (a1.map eJ))]), (2, .blk 107 (kv (eV a2)))] (ov r) [(1, .blk 30 [.v (.sl 2 (a1.map eJ))]), (2, .blk 107 (kv (eV a2)))] := by
 unfold byCharIn at h;refine cw Tryz.func113 Tryz.ntmps113 ?_;intro F L w ρ0 R hR;try dsimp only [zP1]
 refine sr (lr2 rfl (ns (lr2 rfl ?_)));revert h;refine zb fun v hvv h => ?_;refine WL.callO [(810, 2), (811, 3)] [(810, 2), (811, 3)] [2, 3] fn114 rfl rfl rfl rfl tr (charContains_con hw hvv) rfl rfl eqs rfl rfl rfl rfl rfl rfl ?_;refine lr1 rfl (nr ?_);cases h;exact rt tbOk hR
theorem keepChar_con {wg : World} (hw : WG wg) {l : (List YB)} {test0 : (List YI)} {test1 : YU} {r : (List YB)} (h : keepChar l test0 test1 = some r) : Con Tryz.prog wg gl 109 [.v (.sl 5 (l.map eC)), .fn 113 [.p 810 0, .p 811 0]] [(810, .blk 30 [.v (.sl 2 (test0.map eJ))]), (811, .blk 107 (kv (eV test1)))] (.v (.sl 5 (r.map eC))) [(810, .blk 30 [.v (.sl 2 (test0.map eJ))]), (811, .blk 107 (kv (eV test1)))] := by
 unfold keepChar at h;refine cw Tryz.func109 Tryz.ntmps109 ?_;intro F L w ρ0 R hR;try dsimp only [zP1]
 refine sr (lr1 rfl (ns (lr1 rfl (nn (WC.seq (sr (lr1 rfl ?_)))))));refine WL.q [] rfl rfl rfl (q_ev tbOk (iv (l.length : Int)) rfl tr lenT) ?_;refine lr1 rfl (nn ?_);refine WC.thenCut (X := (List YB)) (fun gG => ⟨[(5, .r 1005)], [(1005, .row 53 5 (gG.map eC)), (810, .blk 30 [.v (.sl 2 (test0.map eJ))]), (811, .blk 107 (kv (eV test1)))]⟩) (fun gG => keepChar_j1 test0 test1 gG = some r) ?_ ?_
 ·refine WC.block ?_;obtain ⟨eQ1, hl1, hk1⟩ := bnd h;clear h;refine WC.rowNil 5 1005 53 5 rfl rfl ?_;refine WC.loop (σ := Int × (List YB)) (τ := ((List YB))) (fun sS => ⟨[(10, iv sS.1), (9, iv (l.length : Int)), (8, .v (.sl 5 (l.map eC))), (5, .r 1005), (1, .fn 113 [.p 810 0, .p 811 0])], [(1005, .row 53 5 (sS.2.map eC)), (810, .blk 30 [.v (.sl 2 (test0.map eJ))]), (811, .blk 107 (kv (eV test1)))]⟩) (keepChar_b1 l test0 test1) [] ((0 : Int), []) hl1 sub ?_;rintro ⟨t102, kept3⟩ m hn1 he1 hx1;obtain ⟨o1, hf1⟩ := zQ1 hx1;have h := hf1;unfold keepChar_b1 at h;try dsimp only
  refine sr (lr1 rfl (nn (WC.seq ?_)));revert h;refine ci (fun hc1 h => ?_) (fun hc1 h => ?_)
  ·refine kn (WC.seq ?_);refine WC.thenCut (X := (List YB)) (fun gG => ⟨[(5, .r 1005), (10, iv t102), (9, iv (l.length : Int)), (8, .v (.sl 5 (l.map eC))), (1, .fn 113 [.p 810 0, .p 811 0])], [(1005, .row 53 5 (gG.map eC)), (810, .blk 30 [.v (.sl 2 (test0.map eJ))]), (811, .blk 107 (kv (eV test1)))]⟩) (fun gG => keepChar_j2 l test0 test1 t102 gG = some o1) ?_ ?_
   ·refine WC.block (sr ?_);obtain ⟨g1, h⟩ := grd h;revert h;refine zb fun x3 hxx3 h => ?_;refine WL.q [] rfl rfl rfl (q_idx tbOk rfl tr g1 (zM1 (f := eC) hxx3)) ?_;refine lr3 rfl (ns (lr2 rfl ?_));revert h;refine zb fun v3 hvv3 h => ?_;refine WL.callO [(1, 810), (2, 811)] [(1, 810), (2, 811)] [810, 811] fn113 rfl rfl rfl rfl tr (byCharIn_con hw hvv3) rfl rfl eqs rfl rfl rfl rfl rfl rfl ?_;refine nn ?_;revert h;refine ci (fun hc2 h => ?_) (fun hc2 h => ?_)
    ·refine WC.region (lr3 rfl ?_);obtain ⟨g2, h⟩ := grd h;refine WL.append tbOk ((kept3 ++ [x3]).map eC) [20, 1005] ap23 rfl rfl rfl rfl ce tr (zL1 (f := eC) (xs := [x3]) fun _ => rfl) (al g2) rfl rfl ma rfl ?_;refine lr1 rfl (WL.nil (WQ.blockNormal ?_));exact WQ.cut [(1005, 20)] (kept3 ++ [x3]) sub h
    ·refine WC.skip (WQ.blockNormal ?_);exact WQ.cut [] kept3 sub h
   ·intro kept6 h;try dsimp only at h;unfold keepChar_j2 at h;try dsimp only
    refine WC.region (lr2 rfl (WL.nil ?_));cases h;exact WQ.next [] ((IntKind.i64.wrap (t102 + (1 : Int))), kept6) sub (hn1 _ hf1)
  ·refine WC.exit (WQ.thenExit ?_);cases h;obtain rfl := he1 _ hf1;replace h := hk1;try dsimp only at h
   refine eb ?_;exact WQ.cut [] kept3 sub h
 ·intro kept h;try dsimp only at h;unfold keepChar_j1 at h;try dsimp only
  refine sr (lr2 rfl (nr ?_));refine WQ.publish 1005 rfl rfl ?_;cases h;exact rt tbOk hR
theorem byCharacter_con {wg : World} (hw : WG wg) {v : YU} {r : (List YB)} (h : byCharacter v = some r) : Con Tryz.prog wg gl 64 [.v (.agg (eV v))] [] (.v (.sl 5 (r.map eC))) [] := by
 unfold byCharacter at h;refine cw Tryz.func64 Tryz.ntmps64 ?_;intro F L w ρ0 R hR;try dsimp only [zP1]
 refine sr (lr2 rfl (ns (lr2 rfl ?_)));revert h;refine zb fun v2 hvv2 h => ?_;refine WL.call0 fn71 rfl rfl rfl rfl tr rfl (goodsCharacters_con hw hvv2) ?_;refine lr2 rfl (ns (lr3 rfl ?_));revert h;refine zb fun v3 hvv3 h => ?_;refine WL.callO [(810, 3), (811, 1)] [(810, 3), (811, 1)] [3, 1] fn109 rfl rfl rfl rfl tr (keepChar_con hw hvv3) rfl rfl eqs rfl rfl rfl rfl rfl rfl ?_;refine lr1 rfl (nr ?_);cases h;exact rt tbOk hR
theorem residualIn_con {wg : World} (hw : WG wg) {e1 : YB} {r : Bool} (h : residualIn e1 = some r) : Con Tryz.prog wg gl 116 [.v (.agg (eC e1))] [] (ov r) [] := by
 unfold residualIn at h;refine cw Tryz.func116 Tryz.ntmps116 ?_;intro F L w ρ0 R hR;try dsimp only [zP1]
 refine sr (lr2 rfl (ns (lr3 rfl (nr ?_))));cases h;exact rt tbOk hR
theorem keepResidual_con {wg : World} (hw : WG wg) {l : (List YB)} {r : (List YB)} (h : keepResidual l = some r) : Con Tryz.prog wg gl 109 [.v (.sl 5 (l.map eC)), .fn 116 []] [] (.v (.sl 5 (r.map eC))) [] := by
 unfold keepResidual at h;refine cw Tryz.func109 Tryz.ntmps109 ?_;intro F L w ρ0 R hR;try dsimp only [zP1]
 refine sr (lr1 rfl (ns (lr1 rfl (nn (WC.seq (sr (lr1 rfl ?_)))))));refine WL.q [] rfl rfl rfl (q_ev tbOk (iv (l.length : Int)) rfl tr lenT) ?_;refine lr1 rfl (nn ?_);refine WC.thenCut (X := (List YB)) (fun gG => ⟨[(5, .r 1005)], [(1005, .row 53 5 (gG.map eC))]⟩) (fun gG => keepResidual_j1 gG = some r) ?_ ?_
 ·refine WC.block ?_;obtain ⟨eQ1, hl1, hk1⟩ := bnd h;clear h;refine WC.rowNil 5 1005 53 5 rfl rfl ?_;refine WC.loop (σ := Int × (List YB)) (τ := ((List YB))) (fun sS => ⟨[(10, iv sS.1), (9, iv (l.length : Int)), (8, .v (.sl 5 (l.map eC))), (5, .r 1005), (1, .fn 116 [])], [(1005, .row 53 5 (sS.2.map eC))]⟩) (keepResidual_b1 l) [] ((0 : Int), []) hl1 sub ?_;rintro ⟨t102, kept3⟩ m hn1 he1 hx1;obtain ⟨o1, hf1⟩ := zQ1 hx1;have h := hf1;unfold keepResidual_b1 at h;try dsimp only
  refine sr (lr1 rfl (nn (WC.seq ?_)));revert h;refine ci (fun hc1 h => ?_) (fun hc1 h => ?_)
  ·refine kn (WC.seq ?_);refine WC.thenCut (X := (List YB)) (fun gG => ⟨[(5, .r 1005), (10, iv t102), (9, iv (l.length : Int)), (8, .v (.sl 5 (l.map eC))), (1, .fn 116 [])], [(1005, .row 53 5 (gG.map eC))]⟩) (fun gG => keepResidual_j2 l t102 gG = some o1) ?_ ?_
   ·refine WC.block (sr ?_);obtain ⟨g1, h⟩ := grd h;revert h;refine zb fun x3 hxx3 h => ?_;refine WL.q [] rfl rfl rfl (q_idx tbOk rfl tr g1 (zM1 (f := eC) hxx3)) ?_;refine lr3 rfl (ns (lr2 rfl ?_));revert h;refine zb fun v3 hvv3 h => ?_;refine WL.call0 fn116 rfl rfl rfl rfl tr rfl (residualIn_con hw hvv3) ?_;refine nn ?_;revert h;refine ci (fun hc2 h => ?_) (fun hc2 h => ?_)
    ·refine WC.region (lr3 rfl ?_);obtain ⟨g2, h⟩ := grd h;refine WL.append tbOk ((kept3 ++ [x3]).map eC) [20, 1005] ap23 rfl rfl rfl rfl ce tr (zL1 (f := eC) (xs := [x3]) fun _ => rfl) (al g2) rfl rfl ma rfl ?_;refine lr1 rfl (WL.nil (WQ.blockNormal ?_));exact WQ.cut [(1005, 20)] (kept3 ++ [x3]) sub h
    ·refine WC.skip (WQ.blockNormal ?_);exact WQ.cut [] kept3 sub h
   ·intro kept6 h;try dsimp only at h;unfold keepResidual_j2 at h;try dsimp only
    refine WC.region (lr2 rfl (WL.nil ?_));cases h;exact WQ.next [] ((IntKind.i64.wrap (t102 + (1 : Int))), kept6) sub (hn1 _ hf1)
  ·refine WC.exit (WQ.thenExit ?_);cases h;obtain rfl := he1 _ hf1;replace h := hk1;try dsimp only at h
   refine eb ?_;exact WQ.cut [] kept3 sub h
 ·intro kept h;try dsimp only at h;unfold keepResidual_j1 at h;try dsimp only
  refine sr (lr2 rfl (nr ?_));refine WQ.publish 1005 rfl rfl ?_;cases h;exact rt tbOk hR
theorem residual_con {wg : World} (hw : WG wg) {v : YU} {r : (List YB)} (h : residual v = some r) : Con Tryz.prog wg gl 65 [.v (.agg (eV v))] [] (.v (.sl 5 (r.map eC))) [] := by
 unfold residual at h;refine cw Tryz.func65 Tryz.ntmps65 ?_;intro F L w ρ0 R hR;try dsimp only [zP1]
 refine sr (lr2 rfl (nn (WC.seq (sr (lr3 rfl (nn ?_))))));revert h;refine ci (fun hc1 h => ?_) (fun hc1 h => ?_)
 ·refine sr (lr1 rfl (nr (WQ.thenRet ?_)));cases h;exact WQ.rets tbOk (r := .v (.sl 5 ([].map eC))) hR [] (.inl rfl) rfl rfl (Le.nil 5) tr rfl rfl rfl rfl
 ·refine kn (sr (lr2 rfl ?_));revert h;refine zb fun v2 hvv2 h => ?_;refine WL.call0 fn109 rfl rfl rfl rfl tr rfl (keepResidual_con hw hvv2) ?_;refine lr1 rfl (nr ?_);cases h;exact rt tbOk hR
theorem akinIn_con {wg : World} (hw : WG wg) {e1 : YB} {a1 : YU} {a2 : Int} {r : Bool} (h : akinIn e1 a1 a2 = some r) : Con Tryz.prog wg gl 118 [.v (.agg (eC e1)), .p 1 0, .p 2 0] [(1, .blk 107 (kv (eV a1))), (2, .blk 3 [iv a2])] (ov r) [(1, .blk 107 (kv (eV a1))), (2, .blk 3 [iv a2])] := by
 unfold akinIn at h;refine cw Tryz.func118 Tryz.ntmps118 ?_;intro F L w ρ0 R hR;try dsimp only [zP1]
 refine sr (lr2 rfl (nn (WC.seq (WC.order mixed ?_))));refine wr 5 rfl trivial ?_;revert h;refine zb fun v hvv h => ?_;refine WR.call0 fn117 rfl rfl rfl rfl tr rfl (likeness_con hw hvv) ?_;refine wr 3 rfl trivial ?_;refine WR.nil (by kernel_rfl) (WQ.thenNormal (WC.ret ?_));cases h;exact rt tbOk hR
theorem keepAkin_con {wg : World} (hw : WG wg) {l : (List YB)} {test0 : YU} {test1 : Int} {r : (List YB)} (h : keepAkin l test0 test1 = some r) : Con Tryz.prog wg gl 109 [.v (.sl 5 (l.map eC)), .fn 118 [.p 810 0, .p 811 0]] [(810, .blk 107 (kv (eV test0))), (811, .blk 3 [iv test1])] (.v (.sl 5 (r.map eC))) [(810, .blk 107 (kv (eV test0))), (811, .blk 3 [iv test1])] := by
 unfold keepAkin at h;refine cw Tryz.func109 Tryz.ntmps109 ?_;intro F L w ρ0 R hR;try dsimp only [zP1]
 refine sr (lr1 rfl (ns (lr1 rfl (nn (WC.seq (sr (lr1 rfl ?_)))))));refine WL.q [] rfl rfl rfl (q_ev tbOk (iv (l.length : Int)) rfl tr lenT) ?_;refine lr1 rfl (nn ?_);refine WC.thenCut (X := (List YB)) (fun gG => ⟨[(5, .r 1005)], [(1005, .row 53 5 (gG.map eC)), (810, .blk 107 (kv (eV test0))), (811, .blk 3 [iv test1])]⟩) (fun gG => keepAkin_j1 test0 test1 gG = some r) ?_ ?_
 ·refine WC.block ?_;obtain ⟨eQ1, hl1, hk1⟩ := bnd h;clear h;refine WC.rowNil 5 1005 53 5 rfl rfl ?_;refine WC.loop (σ := Int × (List YB)) (τ := ((List YB))) (fun sS => ⟨[(10, iv sS.1), (9, iv (l.length : Int)), (8, .v (.sl 5 (l.map eC))), (5, .r 1005), (1, .fn 118 [.p 810 0, .p 811 0])], [(1005, .row 53 5 (sS.2.map eC)), (810, .blk 107 (kv (eV test0))), (811, .blk 3 [iv test1])]⟩) (keepAkin_b1 l test0 test1) [] ((0 : Int), []) hl1 sub ?_;rintro ⟨t102, kept3⟩ m hn1 he1 hx1;obtain ⟨o1, hf1⟩ := zQ1 hx1;have h := hf1;unfold keepAkin_b1 at h;try dsimp only
  refine sr (lr1 rfl (nn (WC.seq ?_)));revert h;refine ci (fun hc1 h => ?_) (fun hc1 h => ?_)
  ·refine kn (WC.seq ?_);refine WC.thenCut (X := (List YB)) (fun gG => ⟨[(5, .r 1005), (10, iv t102), (9, iv (l.length : Int)), (8, .v (.sl 5 (l.map eC))), (1, .fn 118 [.p 810 0, .p 811 0])], [(1005, .row 53 5 (gG.map eC)), (810, .blk 107 (kv (eV test0))), (811, .blk 3 [iv test1])]⟩) (fun gG => keepAkin_j2 l test0 test1 t102 gG = some o1) ?_ ?_
   ·refine WC.block (sr ?_);obtain ⟨g1, h⟩ := grd h;revert h;refine zb fun x3 hxx3 h => ?_;refine WL.q [] rfl rfl rfl (q_idx tbOk rfl tr g1 (zM1 (f := eC) hxx3)) ?_;refine lr3 rfl (ns (lr2 rfl ?_));revert h;refine zb fun v3 hvv3 h => ?_;refine WL.callO [(1, 810), (2, 811)] [(1, 810), (2, 811)] [810, 811] fn118 rfl rfl rfl rfl tr (akinIn_con hw hvv3) rfl rfl eqs rfl rfl rfl rfl rfl rfl ?_;refine nn ?_;revert h;refine ci (fun hc2 h => ?_) (fun hc2 h => ?_)
    ·refine WC.region (lr3 rfl ?_);obtain ⟨g2, h⟩ := grd h;refine WL.append tbOk ((kept3 ++ [x3]).map eC) [20, 1005] ap23 rfl rfl rfl rfl ce tr (zL1 (f := eC) (xs := [x3]) fun _ => rfl) (al g2) rfl rfl ma rfl ?_;refine lr1 rfl (WL.nil (WQ.blockNormal ?_));exact WQ.cut [(1005, 20)] (kept3 ++ [x3]) sub h
    ·refine WC.skip (WQ.blockNormal ?_);exact WQ.cut [] kept3 sub h
   ·intro kept6 h;try dsimp only at h;unfold keepAkin_j2 at h;try dsimp only
    refine WC.region (lr2 rfl (WL.nil ?_));cases h;exact WQ.next [] ((IntKind.i64.wrap (t102 + (1 : Int))), kept6) sub (hn1 _ hf1)
  ·refine WC.exit (WQ.thenExit ?_);cases h;obtain rfl := he1 _ hf1;replace h := hk1;try dsimp only at h
   refine eb ?_;exact WQ.cut [] kept3 sub h
 ·intro kept h;try dsimp only at h;unfold keepAkin_j1 at h;try dsimp only
  refine sr (lr2 rfl (nr ?_));refine WQ.publish 1005 rfl rfl ?_;cases h;exact rt tbOk hR
theorem akin_con {wg : World} (hw : WG wg) {v : YU} {r : (List YB)} (h : akin v = some r) : Con Tryz.prog wg gl 66 [.v (.agg (eV v))] [] (.v (.sl 5 (r.map eC))) [] := by
 unfold akin at h;refine cw Tryz.func66 Tryz.ntmps66 ?_;intro F L w ρ0 R hR;try dsimp only [zP1]
 refine sr (lr2 rfl (ns (lr2 rfl (nn (WC.seq (sr (lr2 rfl ?_)))))));refine WL.q [] rfl rfl rfl (q_ev tbOk (iv (v.entries.length : Int)) rfl tr lenT) ?_;refine lr1 rfl (nn ?_);refine WC.thenCut (X := Int) (fun gG => ⟨[(3, .p 3 0), (1, .p 1 0)], [(1, .blk 107 (kv (eV v))), (3, .blk 3 [iv gG])]⟩) (fun gG => akin_j1 v gG = some r) ?_ ?_
 ·refine WC.block ?_;obtain ⟨eQ1, hl1, hk1⟩ := bnd h;clear h;refine WC.loop (σ := Int × Int) (τ := (Int)) (fun sS => ⟨[(9, iv sS.1), (8, iv (v.entries.length : Int)), (7, .v (.sl 5 (v.entries.map eC))), (3, .p 3 0), (1, .p 1 0)], [(1, .blk 107 (kv (eV v))), (3, .blk 3 [iv sS.2])]⟩) (akin_b1 v) [] ((0 : Int), (0 : Int)) hl1 sub ?_;rintro ⟨t9, c3_02⟩ m hn1 he1 hx1;obtain ⟨o1, hf1⟩ := zQ1 hx1;have h := hf1;unfold akin_b1 at h;try dsimp only
  refine sr (lr1 rfl (nn (WC.seq ?_)));revert h;refine ci (fun hc2 h => ?_) (fun hc2 h => ?_)
  ·refine kn (sb (sr ?_));obtain ⟨g1, h⟩ := grd h;revert h;refine zb fun x2 hxx2 h => ?_;refine WL.q [] rfl rfl rfl (q_idx tbOk rfl tr g1 (zM1 (f := eC) hxx2)) ?_;refine lr3 rfl (nn (WC.order mixed ?_));refine wr 6 rfl trivial ?_;revert h;refine zb fun v4 hvv4 h => ?_;refine WR.call0 fn117 rfl rfl rfl rfl tr rfl (likeness_con hw hvv4) ?_;refine wr 2 rfl trivial ?_;refine WR.nil (by kernel_rfl) (bn (WC.region (lr2 rfl (WL.nil ?_))));cases h;exact WQ.next [] ((IntKind.i64.wrap (t9 + (1 : Int))), (if v4 > c3_02 then v4 else c3_02)) sub (hn1 _ hf1)
  ·refine WC.exit (WQ.thenExit ?_);cases h;obtain rfl := he1 _ hf1;replace h := hk1;try dsimp only at h
   refine eb ?_;exact WQ.cut [] c3_02 sub h
 ·intro c3_0 h;try dsimp only at h;unfold akin_j1 at h;try dsimp only
  refine WC.seq (sr (lr2 rfl (nn ?_)));revert h;refine ci (fun hc1 h => ?_) (fun hc1 h => ?_)
  ·refine sr (lr1 rfl (nr (WQ.thenRet ?_)));cases h;exact WQ.rets tbOk (r := .v (.sl 5 ([].map eC))) hR [] (.inl rfl) rfl rfl (Le.nil 5) tr rfl rfl rfl rfl
  ·refine kn (sr (lr3 rfl ?_));revert h;refine zb fun v2 hvv2 h => ?_;refine WL.callO [(810, 1), (811, 3)] [(810, 1), (811, 3)] [1, 3] fn109 rfl rfl rfl rfl tr (keepAkin_con hw hvv2) rfl rfl eqs rfl rfl rfl rfl rfl rfl ?_;refine lr1 rfl (nr ?_);cases h;exact rt tbOk hR
theorem allBelow_con {wg : World} (hw : WG wg) {v : YU} {r : (List YB)} (h : allBelow v = some r) : Con Tryz.prog wg gl 67 [.v (.agg (eV v))] [] (.v (.sl 5 (r.map eC))) [] := by
 unfold allBelow at h;refine cw Tryz.func67 Tryz.ntmps67 ?_;intro F L w ρ0 R hR;try dsimp only [zP1]
 refine sr (lr2 rfl (nn (WC.seq (sr (lr3 rfl (nn ?_))))));revert h;refine ci (fun hc1 h => ?_) (fun hc1 h => ?_)
 ·refine sr (lr1 rfl (nr (WQ.thenRet ?_)));cases h;exact WQ.rets tbOk (r := .v (.sl 5 ([].map eC))) hR [] (.inl rfl) rfl rfl (Le.nil 5) tr rfl rfl rfl rfl
 ·refine kn (sr (lr3 rfl (nr ?_)));cases h;exact rt tbOk hR
theorem basis_con {wg : World} (hw : WG wg) {b : YE} {day : Int} {g : YR} {parent : Str} {r : Int × (List YB)} (h : basis b day g parent = some r) : Con Tryz.prog wg gl 31 [.v (.agg (eF b)), iv day, .v (.agg (eS g)), tv parent] [] (.tup [iv r.1, .v (.sl 5 (r.2.map eC))]) [] := by
 unfold basis at h;refine cw Tryz.func31 Tryz.ntmps31 ?_;intro F L w ρ0 R hR;try dsimp only [zP1]
 refine sr (lr4 rfl (nn (WC.seq (WC.order mixed ?_))));refine wr 6 rfl trivial ?_;revert h;refine zb fun v hvv h => ?_;refine WR.call0 fn61 rfl rfl rfl rfl tr rfl (nomBelow_con hw hvv) ?_;refine wr 3 rfl trivial ?_;refine WR.nil (by kernel_rfl) (WQ.thenNormal (sr (lr 8 rfl trivial (nn (WC.seq (sr (lr1 rfl ?_)))))));refine WL.q [] rfl rfl rfl (q_ev tbOk (iv (6 : Int)) rfl tr (by rfl)) ?_;refine lr1 rfl (nn ?_);refine WC.thenCut (X := Unit) (fun gG => ⟨[], []⟩) (fun gG => basis_j1  = some r) ?_ ?_
 ·refine WC.block ?_;refine WC.rounds 7 ?_;refine sr (lr1 rfl (nn (WC.seq ?_)));refine WC.cond (b := true) rfl (fun hc1 => ?_) (fun hc1 => by cases hc1);refine kn (sb (sr ?_));refine WL.q [] rfl rfl rfl (q_idx tbOk rfl tr (by decide) (by rfl)) ?_;refine lr3 rfl (ns (lr3 rfl ?_));revert h;refine zb fun v2 hvv2 h => ?_;refine WL.call0 fn62 rfl rfl rfl rfl tr rfl (byTerms_con hw hvv2) ?_;refine lr1 rfl (ns (lr1 rfl ?_));refine WL.q [] rfl rfl rfl (q_ev tbOk (iv (v2.length : Int)) rfl tr lenT) ?_;refine lr1 rfl (nn ?_);revert h;refine ci (fun hc2 h => ?_) (fun hc2 h => ?_)
  ·refine sr (lr5 rfl (nr (rb (WQ.thenRet (rb ?_)))));cases h;exact WQ.rets tbOk (r := .tup [iv (1 : Int), .v (.sl 5 (v2.map eC))]) hR [] (.inl rfl) rfl rfl (Le.tup (.cons (Le.refl _) (.cons (Le.refl _) .nil))) tr rfl rfl rfl rfl
  ·refine WC.skip (bn (WC.region (lr2 rfl (WL.nil ?_))));refine WQ.round ?_;refine WC.sub (st' := ⟨[(32, iv (1 : Int)), (31, iv (6 : Int)), (30, .v (.sl 2 [[.int .i64 (1 : Int), .raw (.func (.func 62) #[] #[])], [.int .i64 (2 : Int), .raw (.func (.func 63) #[] #[])], [.int .i64 (3 : Int), .raw (.func (.func 64) #[] #[])], [.int .i64 (8 : Int), .raw (.func (.func 65) #[] #[])], [.int .i64 (7 : Int), .raw (.func (.func 66) #[] #[])], [.int .i64 (7 : Int), .raw (.func (.func 67) #[] #[])]])), (10, .p 10 0)], [(10, .blk 107 [.v (.sl 5 (b.Entries.map eC)), .v (.sl 3 (b.Notes.map eX)), .v (.sl 1 (g.Words.map eStr)), .v (.sl 2 (g.Materials.map eA1)), .v (.sl 2 (g.Parts.map eJ)), ov g.Incomplete, tv parent, .v (.sl 5 (v.map eC))])]⟩) [] sub ?_;refine sr (lr1 rfl (nn (WC.seq ?_)));refine WC.cond (b := true) rfl (fun hc3 => ?_) (fun hc3 => by cases hc3);refine kn (sb (sr ?_));refine WL.q [] rfl rfl rfl (q_idx tbOk rfl tr (by decide) (by rfl)) ?_;refine lr3 rfl (ns (lr3 rfl ?_));revert h;refine zb fun v3 hvv3 h => ?_;refine WL.call0 fn63 rfl rfl rfl rfl tr rfl (asComplete_con hw hvv3) ?_;refine lr1 rfl (ns (lr1 rfl ?_));refine WL.q [] rfl rfl rfl (q_ev tbOk (iv (v3.length : Int)) rfl tr lenT) ?_;refine lr1 rfl (nn ?_);revert h;refine ci (fun hc4 h => ?_) (fun hc4 h => ?_)
   ·refine sr (lr5 rfl (nr (rb (WQ.thenRet (rb ?_)))));cases h;exact WQ.rets tbOk (r := .tup [iv (2 : Int), .v (.sl 5 (v3.map eC))]) hR [] (.inl rfl) rfl rfl (Le.tup (.cons (Le.refl _) (.cons (Le.refl _) .nil))) tr rfl rfl rfl rfl
   ·refine WC.skip (bn (WC.region (lr2 rfl (WL.nil ?_))));refine WQ.round ?_;refine WC.sub (st' := ⟨[(32, iv (2 : Int)), (31, iv (6 : Int)), (30, .v (.sl 2 [[.int .i64 (1 : Int), .raw (.func (.func 62) #[] #[])], [.int .i64 (2 : Int), .raw (.func (.func 63) #[] #[])], [.int .i64 (3 : Int), .raw (.func (.func 64) #[] #[])], [.int .i64 (8 : Int), .raw (.func (.func 65) #[] #[])], [.int .i64 (7 : Int), .raw (.func (.func 66) #[] #[])], [.int .i64 (7 : Int), .raw (.func (.func 67) #[] #[])]])), (10, .p 10 0)], [(10, .blk 107 [.v (.sl 5 (b.Entries.map eC)), .v (.sl 3 (b.Notes.map eX)), .v (.sl 1 (g.Words.map eStr)), .v (.sl 2 (g.Materials.map eA1)), .v (.sl 2 (g.Parts.map eJ)), ov g.Incomplete, tv parent, .v (.sl 5 (v.map eC))])]⟩) [] sub ?_;refine sr (lr1 rfl (nn (WC.seq ?_)));refine WC.cond (b := true) rfl (fun hc5 => ?_) (fun hc5 => by cases hc5);refine kn (sb (sr ?_));refine WL.q [] rfl rfl rfl (q_idx tbOk rfl tr (by decide) (by rfl)) ?_;refine lr3 rfl (ns (lr3 rfl ?_));revert h;refine zb fun v4 hvv4 h => ?_;refine WL.call0 fn64 rfl rfl rfl rfl tr rfl (byCharacter_con hw hvv4) ?_;refine lr1 rfl (ns (lr1 rfl ?_));refine WL.q [] rfl rfl rfl (q_ev tbOk (iv (v4.length : Int)) rfl tr lenT) ?_;refine lr1 rfl (nn ?_);revert h;refine ci (fun hc6 h => ?_) (fun hc6 h => ?_)
    ·refine sr (lr5 rfl (nr (rb (WQ.thenRet (rb ?_)))));cases h;exact WQ.rets tbOk (r := .tup [iv (3 : Int), .v (.sl 5 (v4.map eC))]) hR [] (.inl rfl) rfl rfl (Le.tup (.cons (Le.refl _) (.cons (Le.refl _) .nil))) tr rfl rfl rfl rfl
    ·refine WC.skip (bn (WC.region (lr2 rfl (WL.nil ?_))));refine WQ.round ?_;refine WC.sub (st' := ⟨[(32, iv (3 : Int)), (31, iv (6 : Int)), (30, .v (.sl 2 [[.int .i64 (1 : Int), .raw (.func (.func 62) #[] #[])], [.int .i64 (2 : Int), .raw (.func (.func 63) #[] #[])], [.int .i64 (3 : Int), .raw (.func (.func 64) #[] #[])], [.int .i64 (8 : Int), .raw (.func (.func 65) #[] #[])], [.int .i64 (7 : Int), .raw (.func (.func 66) #[] #[])], [.int .i64 (7 : Int), .raw (.func (.func 67) #[] #[])]])), (10, .p 10 0)], [(10, .blk 107 [.v (.sl 5 (b.Entries.map eC)), .v (.sl 3 (b.Notes.map eX)), .v (.sl 1 (g.Words.map eStr)), .v (.sl 2 (g.Materials.map eA1)), .v (.sl 2 (g.Parts.map eJ)), ov g.Incomplete, tv parent, .v (.sl 5 (v.map eC))])]⟩) [] sub ?_;refine sr (lr1 rfl (nn (WC.seq ?_)));refine WC.cond (b := true) rfl (fun hc7 => ?_) (fun hc7 => by cases hc7);refine kn (sb (sr ?_));refine WL.q [] rfl rfl rfl (q_idx tbOk rfl tr (by decide) (by rfl)) ?_;refine lr3 rfl (ns (lr3 rfl ?_));revert h;refine zb fun v5 hvv5 h => ?_;refine WL.call0 fn65 rfl rfl rfl rfl tr rfl (residual_con hw hvv5) ?_;refine lr1 rfl (ns (lr1 rfl ?_));refine WL.q [] rfl rfl rfl (q_ev tbOk (iv (v5.length : Int)) rfl tr lenT) ?_;refine lr1 rfl (nn ?_);revert h;refine ci (fun hc8 h => ?_) (fun hc8 h => ?_)
     ·refine sr (lr5 rfl (nr (rb (WQ.thenRet (rb ?_)))));cases h;exact WQ.rets tbOk (r := .tup [iv (8 : Int), .v (.sl 5 (v5.map eC))]) hR [] (.inl rfl) rfl rfl (Le.tup (.cons (Le.refl _) (.cons (Le.refl _) .nil))) tr rfl rfl rfl rfl
     ·refine WC.skip (bn (WC.region (lr2 rfl (WL.nil ?_))));refine WQ.round ?_;refine WC.sub (st' := ⟨[(32, iv (4 : Int)), (31, iv (6 : Int)), (30, .v (.sl 2 [[.int .i64 (1 : Int), .raw (.func (.func 62) #[] #[])], [.int .i64 (2 : Int), .raw (.func (.func 63) #[] #[])], [.int .i64 (3 : Int), .raw (.func (.func 64) #[] #[])], [.int .i64 (8 : Int), .raw (.func (.func 65) #[] #[])], [.int .i64 (7 : Int), .raw (.func (.func 66) #[] #[])], [.int .i64 (7 : Int), .raw (.func (.func 67) #[] #[])]])), (10, .p 10 0)], [(10, .blk 107 [.v (.sl 5 (b.Entries.map eC)), .v (.sl 3 (b.Notes.map eX)), .v (.sl 1 (g.Words.map eStr)), .v (.sl 2 (g.Materials.map eA1)), .v (.sl 2 (g.Parts.map eJ)), ov g.Incomplete, tv parent, .v (.sl 5 (v.map eC))])]⟩) [] sub ?_;refine sr (lr1 rfl (nn (WC.seq ?_)));refine WC.cond (b := true) rfl (fun hc9 => ?_) (fun hc9 => by cases hc9);refine kn (sb (sr ?_));refine WL.q [] rfl rfl rfl (q_idx tbOk rfl tr (by decide) (by rfl)) ?_;refine lr3 rfl (ns (lr3 rfl ?_));revert h;refine zb fun v6 hvv6 h => ?_;refine WL.call0 fn66 rfl rfl rfl rfl tr rfl (akin_con hw hvv6) ?_;refine lr1 rfl (ns (lr1 rfl ?_));refine WL.q [] rfl rfl rfl (q_ev tbOk (iv (v6.length : Int)) rfl tr lenT) ?_;refine lr1 rfl (nn ?_);revert h;refine ci (fun hc10 h => ?_) (fun hc10 h => ?_)
      ·refine sr (lr5 rfl (nr (rb (WQ.thenRet (rb ?_)))));cases h;exact WQ.rets tbOk (r := .tup [iv (7 : Int), .v (.sl 5 (v6.map eC))]) hR [] (.inl rfl) rfl rfl (Le.tup (.cons (Le.refl _) (.cons (Le.refl _) .nil))) tr rfl rfl rfl rfl
      ·refine WC.skip (bn (WC.region (lr2 rfl (WL.nil ?_))));refine WQ.round ?_;refine WC.sub (st' := ⟨[(32, iv (5 : Int)), (31, iv (6 : Int)), (30, .v (.sl 2 [[.int .i64 (1 : Int), .raw (.func (.func 62) #[] #[])], [.int .i64 (2 : Int), .raw (.func (.func 63) #[] #[])], [.int .i64 (3 : Int), .raw (.func (.func 64) #[] #[])], [.int .i64 (8 : Int), .raw (.func (.func 65) #[] #[])], [.int .i64 (7 : Int), .raw (.func (.func 66) #[] #[])], [.int .i64 (7 : Int), .raw (.func (.func 67) #[] #[])]])), (10, .p 10 0)], [(10, .blk 107 [.v (.sl 5 (b.Entries.map eC)), .v (.sl 3 (b.Notes.map eX)), .v (.sl 1 (g.Words.map eStr)), .v (.sl 2 (g.Materials.map eA1)), .v (.sl 2 (g.Parts.map eJ)), ov g.Incomplete, tv parent, .v (.sl 5 (v.map eC))])]⟩) [] sub ?_;refine sr (lr1 rfl (nn (WC.seq ?_)));refine WC.cond (b := true) rfl (fun hc11 => ?_) (fun hc11 => by cases hc11);refine kn (sb (sr ?_));refine WL.q [] rfl rfl rfl (q_idx tbOk rfl tr (by decide) (by rfl)) ?_;refine lr3 rfl (ns (lr3 rfl ?_));revert h;refine zb fun v7 hvv7 h => ?_;refine WL.call0 fn67 rfl rfl rfl rfl tr rfl (allBelow_con hw hvv7) ?_;refine lr1 rfl (ns (lr1 rfl ?_));refine WL.q [] rfl rfl rfl (q_ev tbOk (iv (v7.length : Int)) rfl tr lenT) ?_;refine lr1 rfl (nn ?_);revert h;refine ci (fun hc12 h => ?_) (fun hc12 h => ?_)
       ·refine sr (lr5 rfl (nr (rb (WQ.thenRet (rb ?_)))));cases h;exact WQ.rets tbOk (r := .tup [iv (7 : Int), .v (.sl 5 (v7.map eC))]) hR [] (.inl rfl) rfl rfl (Le.tup (.cons (Le.refl _) (.cons (Le.refl _) .nil))) tr rfl rfl rfl rfl
       ·refine WC.skip (bn (WC.region (lr2 rfl (WL.nil ?_))));refine WQ.round ?_;refine WC.sub (st' := ⟨[(32, iv (6 : Int)), (31, iv (6 : Int)), (30, .v (.sl 2 [[.int .i64 (1 : Int), .raw (.func (.func 62) #[] #[])], [.int .i64 (2 : Int), .raw (.func (.func 63) #[] #[])], [.int .i64 (3 : Int), .raw (.func (.func 64) #[] #[])], [.int .i64 (8 : Int), .raw (.func (.func 65) #[] #[])], [.int .i64 (7 : Int), .raw (.func (.func 66) #[] #[])], [.int .i64 (7 : Int), .raw (.func (.func 67) #[] #[])]])), (10, .p 10 0)], [(10, .blk 107 [.v (.sl 5 (b.Entries.map eC)), .v (.sl 3 (b.Notes.map eX)), .v (.sl 1 (g.Words.map eStr)), .v (.sl 2 (g.Materials.map eA1)), .v (.sl 2 (g.Parts.map eJ)), ov g.Incomplete, tv parent, .v (.sl 5 (v.map eC))])]⟩) [] sub ?_;refine sr (lr1 rfl (nn (WC.seq ?_)));refine WC.cond (b := false) rfl (fun hc13 => by cases hc13) (fun hc13 => ?_);refine WC.exit (WQ.thenExit (eb ?_));exact WQ.cut [] () sub h
 ·intro _ h;try dsimp only at h;unfold basis_j1 at h;try dsimp only
  refine sr (lr2 rfl (nr ?_));cases h;exact WQ.rets tbOk (r := .tup [iv (0 : Int), .v (.sl 5 ([].map eC))]) hR [] (.inl rfl) rfl rfl (Le.tup (.cons (Le.refl _) (.cons (Le.nil 5) .nil))) tr rfl rfl rfl rfl
theorem specificIn_con {wg : World} (hw : WG wg) {e1 : YB} {a1 : YE} {a2 : (List Str)} {a3 : Int} {r : Bool} (h : specificIn e1 a1 a2 a3 = some r) : Con Tryz.prog wg gl 121 [.v (.agg (eC e1)), .p 1 0, .p 2 0, .p 3 0] [(1, .blk 26 (kv (eF a1))), (2, .blk 28 [.v (.sl 1 (a2.map eStr))]), (3, .blk 3 [iv a3])] (ov r) [(1, .blk 26 (kv (eF a1))), (2, .blk 28 [.v (.sl 1 (a2.map eStr))]), (3, .blk 3 [iv a3])] := by
 unfold specificIn at h;refine cw Tryz.func121 Tryz.ntmps121 ?_;intro F L w ρ0 R hR;try dsimp only [zP1]
 refine sr (lr2 rfl (nn (WC.seq (WC.order mixed ?_))));refine wr 3 rfl trivial ?_;revert h;refine zb fun v hvv h => ?_;refine WR.call0 fn95 rfl rfl rfl rfl tr rfl (nomScore_con hw hvv) ?_;refine wr 3 rfl trivial ?_;refine WR.nil (by kernel_rfl) (WQ.thenNormal (WC.ret ?_));cases h;exact rt tbOk hR
theorem keepSpecific_con {wg : World} (hw : WG wg) {l : (List YB)} {test0 : YE} {test1 : (List Str)} {test2 : Int} {r : (List YB)} (h : keepSpecific l test0 test1 test2 = some r) : Con Tryz.prog wg gl 109 [.v (.sl 5 (l.map eC)), .fn 121 [.p 810 0, .p 811 0, .p 812 0]] [(810, .blk 26 (kv (eF test0))), (811, .blk 28 [.v (.sl 1 (test1.map eStr))]), (812, .blk 3 [iv test2])] (.v (.sl 5 (r.map eC))) [(810, .blk 26 (kv (eF test0))), (811, .blk 28 [.v (.sl 1 (test1.map eStr))]), (812, .blk 3 [iv test2])] := by
 unfold keepSpecific at h;refine cw Tryz.func109 Tryz.ntmps109 ?_;intro F L w ρ0 R hR;try dsimp only [zP1]
 refine sr (lr1 rfl (ns (lr1 rfl (nn (WC.seq (sr (lr1 rfl ?_)))))));refine WL.q [] rfl rfl rfl (q_ev tbOk (iv (l.length : Int)) rfl tr lenT) ?_;refine lr1 rfl (nn ?_);refine WC.thenCut (X := (List YB)) (fun gG => ⟨[(5, .r 1005)], [(1005, .row 53 5 (gG.map eC)), (810, .blk 26 (kv (eF test0))), (811, .blk 28 [.v (.sl 1 (test1.map eStr))]), (812, .blk 3 [iv test2])]⟩) (fun gG => keepSpecific_j1 test0 test1 test2 gG = some r) ?_ ?_
 ·refine WC.block ?_;obtain ⟨eQ1, hl1, hk1⟩ := bnd h;clear h;refine WC.rowNil 5 1005 53 5 rfl rfl ?_;refine WC.loop (σ := Int × (List YB)) (τ := ((List YB))) (fun sS => ⟨[(10, iv sS.1), (9, iv (l.length : Int)), (8, .v (.sl 5 (l.map eC))), (5, .r 1005), (1, .fn 121 [.p 810 0, .p 811 0, .p 812 0])], [(1005, .row 53 5 (sS.2.map eC)), (810, .blk 26 (kv (eF test0))), (811, .blk 28 [.v (.sl 1 (test1.map eStr))]), (812, .blk 3 [iv test2])]⟩) (keepSpecific_b1 l test0 test1 test2) [] ((0 : Int), []) hl1 sub ?_;rintro ⟨t102, kept3⟩ m hn1 he1 hx1;obtain ⟨o1, hf1⟩ := zQ1 hx1;have h := hf1;unfold keepSpecific_b1 at h;try dsimp only
  refine sr (lr1 rfl (nn (WC.seq ?_)));revert h;refine ci (fun hc1 h => ?_) (fun hc1 h => ?_)
  ·refine kn (WC.seq ?_);refine WC.thenCut (X := (List YB)) (fun gG => ⟨[(5, .r 1005), (10, iv t102), (9, iv (l.length : Int)), (8, .v (.sl 5 (l.map eC))), (1, .fn 121 [.p 810 0, .p 811 0, .p 812 0])], [(1005, .row 53 5 (gG.map eC)), (810, .blk 26 (kv (eF test0))), (811, .blk 28 [.v (.sl 1 (test1.map eStr))]), (812, .blk 3 [iv test2])]⟩) (fun gG => keepSpecific_j2 l test0 test1 test2 t102 gG = some o1) ?_ ?_
   ·refine WC.block (sr ?_);obtain ⟨g1, h⟩ := grd h;revert h;refine zb fun x3 hxx3 h => ?_;refine WL.q [] rfl rfl rfl (q_idx tbOk rfl tr g1 (zM1 (f := eC) hxx3)) ?_;refine lr3 rfl (ns (lr2 rfl ?_));revert h;refine zb fun v3 hvv3 h => ?_;refine WL.callO [(1, 810), (2, 811), (3, 812)] [(1, 810), (2, 811), (3, 812)] [810, 811, 812] fn121 rfl rfl rfl rfl tr (specificIn_con hw hvv3) rfl rfl eqs rfl rfl rfl rfl rfl rfl ?_;refine nn ?_;revert h;refine ci (fun hc2 h => ?_) (fun hc2 h => ?_)
    ·refine WC.region (lr3 rfl ?_);obtain ⟨g2, h⟩ := grd h;refine WL.append tbOk ((kept3 ++ [x3]).map eC) [20, 1005] ap23 rfl rfl rfl rfl ce tr (zL1 (f := eC) (xs := [x3]) fun _ => rfl) (al g2) rfl rfl ma rfl ?_;refine lr1 rfl (WL.nil (WQ.blockNormal ?_));exact WQ.cut [(1005, 20)] (kept3 ++ [x3]) sub h
    ·refine WC.skip (WQ.blockNormal ?_);exact WQ.cut [] kept3 sub h
   ·intro kept6 h;try dsimp only at h;unfold keepSpecific_j2 at h;try dsimp only
    refine WC.region (lr2 rfl (WL.nil ?_));cases h;exact WQ.next [] ((IntKind.i64.wrap (t102 + (1 : Int))), kept6) sub (hn1 _ hf1)
  ·refine WC.exit (WQ.thenExit ?_);cases h;obtain rfl := he1 _ hf1;replace h := hk1;try dsimp only at h
   refine eb ?_;exact WQ.cut [] kept3 sub h
 ·intro kept h;try dsimp only at h;unfold keepSpecific_j1 at h;try dsimp only
  refine sr (lr2 rfl (nr ?_));refine WQ.publish 1005 rfl rfl ?_;cases h;exact rt tbOk hR
theorem mostSpecific_con {wg : World} (hw : WG wg) {b : YE} {l : (List YB)} {words : (List Str)} {r : (List YB)} (h : mostSpecific b l words = some r) : Con Tryz.prog wg gl 70 [.v (.agg (eF b)), .v (.sl 5 (l.map eC)), .v (.sl 1 (words.map eStr))] [] (.v (.sl 5 (r.map eC))) [] := by
 unfold mostSpecific at h;refine cw Tryz.func70 Tryz.ntmps70 ?_;intro F L w ρ0 R hR;try dsimp only [zP1]
 refine sr (lr3 rfl (ns (lr2 rfl (nn (WC.seq (sr (lr1 rfl ?_)))))));refine WL.q [] rfl rfl rfl (q_ev tbOk (iv (l.length : Int)) rfl tr lenT) ?_;refine lr1 rfl (nn ?_);refine WC.thenCut (X := Int) (fun gG => ⟨[(7, .p 7 0), (5, .p 5 0), (3, .p 3 0), (1, .v (.sl 5 (l.map eC)))], [(3, .blk 26 (kv (eF b))), (5, .blk 28 [.v (.sl 1 (words.map eStr))]), (7, .blk 3 [iv gG])]⟩) (fun gG => mostSpecific_j1 b l words gG = some r) ?_ ?_
 ·refine WC.block ?_;obtain ⟨eQ1, hl1, hk1⟩ := bnd h;clear h;refine WC.loop (σ := Int × Int) (τ := (Int)) (fun sS => ⟨[(12, iv sS.1), (11, iv (l.length : Int)), (10, .v (.sl 5 (l.map eC))), (7, .p 7 0), (5, .p 5 0), (3, .p 3 0), (1, .v (.sl 5 (l.map eC)))], [(3, .blk 26 (kv (eF b))), (5, .blk 28 [.v (.sl 1 (words.map eStr))]), (7, .blk 3 [iv sS.2])]⟩) (mostSpecific_b1 b l words) [] ((0 : Int), (0 : Int)) hl1 sub ?_;rintro ⟨t12, c7_02⟩ m hn1 he1 hx1;obtain ⟨o1, hf1⟩ := zQ1 hx1;have h := hf1;unfold mostSpecific_b1 at h;try dsimp only
  refine sr (lr1 rfl (nn (WC.seq ?_)));revert h;refine ci (fun hc1 h => ?_) (fun hc1 h => ?_)
  ·refine kn (sb (sr ?_));obtain ⟨g1, h⟩ := grd h;revert h;refine zb fun x2 hxx2 h => ?_;refine WL.q [] rfl rfl rfl (q_idx tbOk rfl tr g1 (zM1 (f := eC) hxx2)) ?_;refine lr3 rfl (nn (WC.order mixed ?_));refine wr 4 rfl trivial ?_;revert h;refine zb fun v3 hvv3 h => ?_;refine WR.call0 fn95 rfl rfl rfl rfl tr rfl (nomScore_con hw hvv3) ?_;refine wr 2 rfl trivial ?_;refine WR.nil (by kernel_rfl) (bn (WC.region (lr2 rfl (WL.nil ?_))));cases h;exact WQ.next [] ((IntKind.i64.wrap (t12 + (1 : Int))), (if v3 > c7_02 then v3 else c7_02)) sub (hn1 _ hf1)
  ·refine WC.exit (WQ.thenExit ?_);cases h;obtain rfl := he1 _ hf1;replace h := hk1;try dsimp only at h
   refine eb ?_;exact WQ.cut [] c7_02 sub h
 ·intro c7_0 h;try dsimp only at h;unfold mostSpecific_j1 at h;try dsimp only
  refine sr (lr2 rfl ?_);revert h;refine zb fun v hvv h => ?_;refine WL.callO [(810, 3), (811, 5), (812, 7)] [(810, 3), (811, 5), (812, 7)] [3, 5, 7] fn109 rfl rfl rfl rfl tr (keepSpecific_con hw hvv) rfl rfl eqs rfl rfl rfl rfl rfl rfl ?_;refine lr1 rfl (nr ?_);cases h;exact rt tbOk hR
theorem cloneEntry_con {wg : World} (hw : WG wg) {e1 : YB} {r : YB} (h : cloneEntry e1 = some r) : Con Tryz.prog wg gl 68 [.v (.agg (eC e1))] [] (.v (.agg (eC r))) [] := by
 unfold cloneEntry at h;refine cw Tryz.func68 Tryz.ntmps68 ?_;intro F L w ρ0 R hR;try dsimp only [zP1]
 refine sr (lr2 rfl (ns (lr3 rfl (ns (lr2 rfl (nn (WC.seq (sr (lr1 rfl ?_)))))))));refine WL.q [] rfl rfl rfl (q_ev tbOk (iv (e1.Terms.length : Int)) rfl tr lenT) ?_;refine lr1 rfl (nn ?_);refine WC.thenCut (X := (List (List Str))) (fun gG => ⟨[(2, .p 2 0), (1, .p 1 0)], [(2053, .row 28 1 (gG.map zH1)), (1, .blk 53 [tv e1.Code, iv e1.From, iv e1.To, .r 2053, ov e1.Other]), (2, .blk 53 [tv [], iv 0, iv 0, .v (.raw (.slice none 0 0)), ov false])]⟩) (fun gG => cloneEntry_j1 e1 gG = some r) ?_ ?_
 ·refine WC.block ?_;obtain ⟨eQ1, hl1, hk1⟩ := bnd h;clear h;refine WC.rowNilB 1 3 2053 28 1 rfl rfl rfl (cs2 := [tv e1.Code, iv e1.From, iv e1.To, .r 2053, ov e1.Other]) rfl ?_;refine WC.loop (σ := Int × (List (List Str))) (τ := ((List (List Str)))) (fun sS => ⟨[(11, iv sS.1), (10, iv (e1.Terms.length : Int)), (9, .v (.sl 1 (e1.Terms.map zH1))), (2, .p 2 0), (1, .p 1 0)], [(2053, .row 28 1 (sS.2.map zH1)), (1, .blk 53 [tv e1.Code, iv e1.From, iv e1.To, .r 2053, ov e1.Other]), (2, .blk 53 [tv [], iv 0, iv 0, .v (.raw (.slice none 0 0)), ov false])]⟩) (cloneEntry_b1 e1) [] ((0 : Int), []) hl1 sub ?_;rintro ⟨t112, c1_32⟩ m hn1 he1 hx1;obtain ⟨o1, hf1⟩ := zQ1 hx1;have h := hf1;unfold cloneEntry_b1 at h;try dsimp only
  refine sr (lr1 rfl (nn (WC.seq ?_)));revert h;refine ci (fun hc1 h => ?_) (fun hc1 h => ?_)
  ·refine kn (sb (sr ?_));obtain ⟨g1, h⟩ := grd h;revert h;refine zb fun x3 hxx3 h => ?_;refine WL.q [] rfl rfl rfl (q_idx tbOk rfl tr g1 (zM1 (f := zH1) hxx3)) ?_;refine lr2 rfl (nn (WC.order mixed ?_));refine wr 3 rfl trivial ?_;revert h;refine zb fun v3 hvv3 h => ?_;refine WR.call0 fn119 rfl rfl rfl rfl tr rfl (cloneS_con hw hvv3) ?_;refine wr 1 rfl trivial ?_;obtain ⟨g2, h⟩ := grd h;refine WR.append tbOk ((c1_32 ++ [v3]).map zH1) [20, 2053] ap51 rfl rfl rfl rfl ce tr (zL1 (f := zH1) (xs := [v3]) fun _ => rfl) (al g2) rfl rfl ma rfl rfl ?_;refine wr 2 rfl trivial ?_;refine WR.nil (by kernel_rfl) (bn (WC.region (lr2 rfl (WL.nil ?_))));cases h;exact WQ.next [(2053, 20)] ((IntKind.i64.wrap (t112 + (1 : Int))), (c1_32 ++ [v3])) sub (hn1 _ hf1)
  ·refine WC.exit (WQ.thenExit ?_);cases h;obtain rfl := he1 _ hf1;replace h := hk1;try dsimp only at h
   refine eb ?_;exact WQ.cut [] c1_32 sub h
 ·intro c1_3 h;try dsimp only at h;unfold cloneEntry_j1 at h;try dsimp only
  refine WC.seq ?_;refine WC.publish 2053 rfl rfl ?_;refine WC.region (lr2 rfl (nr ?_));cases h;exact rt tbOk hR
theorem reduce_con {wg : World} (hw : WG wg) {b : YE} {g : YR} {basis : Int} {c : (List YB)} {r : Int × YB} (h : reduce b g basis c = some r) : Con Tryz.prog wg gl 32 [.v (.agg (eF b)), .v (.agg (eS g)), iv basis, .v (.sl 5 (c.map eC))] [] (.tup [iv r.1, .v (.agg (eC r.2))]) [] := by
 unfold reduce at h;refine cw Tryz.func32 Tryz.ntmps32 ?_;intro F L w ρ0 R hR;try dsimp only [zP1]
 refine sr (lr4 rfl (nn (WC.seq (sr (lr1 rfl ?_)))));refine WL.q [] rfl rfl rfl (q_ev tbOk (iv (c.length : Int)) rfl tr lenT) ?_;refine lr1 rfl (nn ?_);revert h;refine ci (fun hc1 h => ?_) (fun hc1 h => ?_)
 ·refine sr (lr3 rfl (nr (WQ.thenRet ?_)));cases h;exact WQ.rets tbOk (r := .tup [iv (0 : Int), .v (.agg [.str ((⟨[], 0, 0, [], false⟩ : YB).Code), .int .i64 ((⟨[], 0, 0, [], false⟩ : YB).From), .int .i64 ((⟨[], 0, 0, [], false⟩ : YB).To), .sl 1 (((⟨[], 0, 0, [], false⟩ : YB).Terms).map zH1), .bool ((⟨[], 0, 0, [], false⟩ : YB).Other)])]) hR [] (.inl rfl) rfl rfl (Le.tup (.cons (Le.refl _) (.cons (Le.agg (.same (.same (.same (.sl 1 (.same .nil)))))) .nil))) tr rfl rfl rfl rfl
 ·refine kn (WC.seq (sr (lr1 rfl ?_)));refine WL.q [] rfl rfl rfl (q_ev tbOk (iv (c.length : Int)) rfl tr lenT) ?_;refine lr 9 rfl sideR ?_;refine nn ?_;revert h;refine ci (fun hc2 h => ?_) (fun hc2 h => ?_)
  ·refine sr (lr3 rfl ?_);refine WL.q [] rfl rfl rfl (q_ev tbOk (iv (c.length : Int)) rfl tr lenT) ?_;refine lr1 rfl ?_;obtain ⟨g1, h⟩ := grd h;revert h;refine zb fun x hxx h => ?_;refine WL.q [] rfl rfl rfl (q_idx tbOk rfl tr g1 (zM1 (f := eC) hxx)) ?_;refine lr1 rfl ?_;revert h;refine zb fun v hvv h => ?_;refine WL.call0 fn68 rfl rfl rfl rfl tr rfl (cloneEntry_con hw hvv) ?_;refine lr2 rfl (nr (WQ.thenRet ?_));cases h;exact WQ.rets tbOk (r := .tup [iv basis, .v (.agg (eC v))]) hR [] (.inl rfl) rfl rfl (Le.tup (.cons (Le.refl _) (.cons (Le.refl _) .nil))) tr rfl rfl rfl rfl
  ·refine kn (WC.seq (sr ?_));refine lr 6 rfl sideR ?_;refine nn ?_;refine WC.thenCut (X := (List YB)) (fun gG => ⟨[(3, .v (.sl 5 (gG.map eC))), (9, .p 9 0), (5, .p 5 0), (4, .p 4 0)], [(9, .blk 53 [tv [], iv 0, iv 0, .v (.raw (.slice none 0 0)), ov false]), (4, .blk 26 (kv (eF b))), (5, .blk 32 (kv (eS g)))]⟩) (fun gG => reduce_j1 b g gG = some r) ?_ ?_
   ·revert h;refine ci (fun hc6 h => ?_) (fun hc6 h => ?_)
    ·refine sr (lr3 rfl (nn (WC.seq (sr ?_))));refine lr 6 rfl sideR ?_;refine nn ?_;refine WC.thenCut (X := (List Str)) (fun gG => ⟨[(10, .v (.sl 1 (gG.map eStr))), (9, .p 9 0), (5, .p 5 0), (4, .p 4 0), (3, .v (.sl 5 (c.map eC)))], [(9, .blk 53 [tv [], iv 0, iv 0, .v (.raw (.slice none 0 0)), ov false]), (4, .blk 26 (kv (eF b))), (5, .blk 32 (kv (eS g)))]⟩) (fun gG => reduce_j3 b g c gG = some r) ?_ ?_
     ·revert h;refine ci (fun hc8 h => ?_) (fun hc8 h => ?_)
      ·refine WC.region (lr1 rfl ?_);revert h;refine zb fun v10 hvv10 h => ?_;refine WL.call0 fn69 rfl rfl rfl rfl tr rfl (incompleteWords_con hw hvv10) ?_;refine lr1 rfl (WL.nil ?_);exact WQ.cut [] v10 sub h
      ·refine WC.skip ?_;exact WQ.cut [] g.Words sub h
     ·intro words h;try dsimp only at h;unfold reduce_j3 at h;try dsimp only
      refine sr (lr3 rfl ?_);revert h;refine zb fun v8 hvv8 h => ?_;refine WL.call0 fn70 rfl rfl rfl rfl tr rfl (mostSpecific_con hw hvv8) ?_;refine lr1 rfl (ns (lr1 rfl ?_));refine WL.q [] rfl rfl rfl (q_ev tbOk (iv (v8.length : Int)) rfl tr lenT) ?_;refine lr1 rfl (nn ?_);revert h;refine ci (fun hc7 h => ?_) (fun hc7 h => ?_)
      ·refine sr (lr1 rfl ?_);revert h;refine zb fun x7 hxx7 h => ?_;refine WL.q [] rfl rfl rfl (q_idx tbOk rfl tr (by decide) (zM1 (f := eC) hxx7)) ?_;refine lr1 rfl ?_;revert h;refine zb fun v9 hvv9 h => ?_;refine WL.call0 fn68 rfl rfl rfl rfl tr rfl (cloneEntry_con hw hvv9) ?_;refine lr2 rfl (nr (WQ.thenRet ?_));cases h;exact WQ.rets tbOk (r := .tup [iv (4 : Int), .v (.agg (eC v9))]) hR [] (.inl rfl) rfl rfl (Le.tup (.cons (Le.refl _) (.cons (Le.refl _) .nil))) tr rfl rfl rfl rfl
      ·refine WC.skip ?_;exact WQ.cut [] v8 sub h
    ·refine WC.skip ?_;exact WQ.cut [] c sub h
   ·intro c2 h;try dsimp only at h;unfold reduce_j1 at h;try dsimp only
    refine WC.seq (sr (lr1 rfl ?_));revert h;refine zb fun v2 hvv2 h => ?_;refine WL.call0 fn71 rfl rfl rfl rfl tr rfl (goodsCharacters_con hw hvv2) ?_;refine WL.q [] rfl rfl rfl (q_ev tbOk (iv (v2.length : Int)) rfl tr lenT) ?_;refine lr1 rfl (nn ?_);refine WC.thenCut (X := (List YB)) (fun gG => ⟨[(3, .v (.sl 5 (gG.map eC))), (9, .p 9 0)], [(9, .blk 53 [tv [], iv 0, iv 0, .v (.raw (.slice none 0 0)), ov false])]⟩) (fun gG => reduce_j2 gG = some r) ?_ ?_
    ·refine WC.block ?_;obtain ⟨eQ1, hl1, hk1⟩ := bnd h;clear h;refine WC.loop (σ := Int × (List YB)) (τ := ((Int × YB) ⊕ ((List YB)))) (fun sS => ⟨[(67, iv sS.1), (66, iv (v2.length : Int)), (65, .v (.sl 2 (v2.map eJ))), (3, .v (.sl 5 (sS.2.map eC))), (9, .p 9 0), (4, .p 4 0)], [(9, .blk 53 [tv [], iv 0, iv 0, .v (.raw (.slice none 0 0)), ov false]), (4, .blk 26 (kv (eF b)))]⟩) (reduce_b1 b v2) [] ((0 : Int), c2) hl1 sub ?_;rintro ⟨t67, c4⟩ m hn1 he1 hx1;obtain ⟨o1, hf1⟩ := zQ1 hx1;have h := hf1;unfold reduce_b1 at h;try dsimp only
     refine sr (lr1 rfl (nn (WC.seq ?_)));revert h;refine ci (fun hc3 h => ?_) (fun hc3 h => ?_)
     ·refine kn (sb (sr ?_));obtain ⟨g3, h⟩ := grd h;revert h;refine zb fun x5 hxx5 h => ?_;refine WL.q [] rfl rfl rfl (q_idx tbOk rfl tr g3 (zM1 (f := eJ) hxx5)) ?_;refine lr3 rfl (ns (lr4 rfl ?_));revert h;refine zb fun v6 hvv6 h => ?_;refine WL.call0 fn72 rfl rfl rfl rfl tr rfl (scored_con hw hvv6) ?_;refine lr1 rfl (nn (WC.seq (sr (lr1 rfl ?_))));refine WL.q [] rfl rfl rfl (q_ev tbOk (iv (v6.length : Int)) rfl tr lenT) ?_;refine lr1 rfl (nn ?_);revert h;refine ci (fun hc4 h => ?_) (fun hc4 h => ?_)
      ·refine sr (lr1 rfl ?_);revert h;refine zb fun x6 hxx6 h => ?_;refine WL.q [] rfl rfl rfl (q_idx tbOk rfl tr (by decide) (zM1 (f := eC) hxx6)) ?_;refine lr1 rfl ?_;revert h;refine zb fun v7 hvv7 h => ?_;refine WL.call0 fn68 rfl rfl rfl rfl tr rfl (cloneEntry_con hw hvv7) ?_;refine lr2 rfl (nr (WQ.thenRet (rb ?_)));cases h;obtain rfl := he1 _ hf1;have h : some ((5 : Int), v7) = some _ := hk1;refine WQ.thenRet (rb ?_);cases h;exact WQ.rets tbOk (r := .tup [iv (5 : Int), .v (.agg (eC v7))]) hR [] (.inl rfl) rfl rfl (Le.tup (.cons (Le.refl _) (.cons (Le.refl _) .nil))) tr rfl rfl rfl rfl
      ·refine kn (sr (lr1 rfl ?_));refine WL.q [] rfl rfl rfl (q_ev tbOk (iv (v6.length : Int)) rfl tr lenT) ?_;refine lr1 rfl (nn ?_);revert h;refine ci (fun hc5 h => ?_) (fun hc5 h => ?_)
       ·refine sr (lr2 rfl (nn (WC.exit ?_)));refine WQ.blockPass rfl ?_;refine WQ.thenExit ?_;cases h;obtain rfl := he1 _ hf1;replace h := hk1;try dsimp only at h
        refine eb ?_;exact WQ.cut [] v6 sub h
       ·refine WC.skip (bn (WC.region (lr2 rfl (WL.nil ?_))));cases h;exact WQ.next [] ((IntKind.i64.wrap (t67 + (1 : Int))), c4) sub (hn1 _ hf1)
     ·refine WC.exit (WQ.thenExit ?_);cases h;obtain rfl := he1 _ hf1;replace h := hk1;try dsimp only at h
      refine eb ?_;exact WQ.cut [] c4 sub h
    ·intro c3 h;try dsimp only at h;unfold reduce_j2 at h;try dsimp only
     refine sr (lr2 rfl ?_);refine WL.q [] rfl rfl rfl (q_ev tbOk (iv (c3.length : Int)) rfl tr lenT) ?_;refine lr1 rfl ?_;obtain ⟨g2, h⟩ := grd h;revert h;refine zb fun x2 hxx2 h => ?_;refine WL.q [] rfl rfl rfl (q_idx tbOk rfl tr g2 (zM1 (f := eC) hxx2)) ?_;refine lr1 rfl ?_;revert h;refine zb fun v3 hvv3 h => ?_;refine WL.call0 fn68 rfl rfl rfl rfl tr rfl (cloneEntry_con hw hvv3) ?_;refine lr2 rfl (nr ?_);cases h;exact WQ.rets tbOk (r := .tup [iv (6 : Int), .v (.agg (eC v3))]) hR [] (.inl rfl) rfl rfl (Le.tup (.cons (Le.refl _) (.cons (Le.refl _) .nil))) tr rfl rfl rfl rfl
theorem classify_con {wg : World} (hw : WG wg) {b : YE} {day : Int} {g : YR} {r : Str × (List YL) × Int} (h : classify b day g = some r) : Con Tryz.prog wg gl 12 [.v (.agg (eF b)), iv day, .v (.agg (eS g))] [] (.tup [tv r.1, .v (.sl 5 (r.2.1.map eM)), iv r.2.2]) [] := by
 unfold classify at h;refine cw Tryz.func12 Tryz.ntmps12 ?_;intro F L w ρ0 R hR;try dsimp only [zP1]
 refine sr (lr5 rfl (nn (WC.seq (sr (lr1 rfl ?_)))));revert h;refine zb fun v hvv h => ?_;refine WL.call0 fn29 rfl rfl rfl rfl tr rfl (nomValidate_con hw hvv) ?_;refine lr1 rfl (ns (lr2 rfl (nn ?_)));revert h;refine ci (fun hc1 h => ?_) (fun hc1 h => ?_)
 ·refine sr (lr4 rfl (nr (WQ.thenRet ?_)));cases h;exact WQ.rets tbOk (r := .tup [tv ([] : Str), .v (.sl 5 ([].map eM)), iv v]) hR [] (.inl rfl) rfl rfl (Le.tup (.cons (Le.refl _) (.cons (Le.nil 5) (.cons (Le.refl _) .nil)))) tr rfl rfl rfl rfl
 ·refine kn (WC.seq (sr (lr1 rfl ?_)));revert h;refine zb fun v2 hvv2 h => ?_;refine WL.call0 fn30 rfl rfl rfl rfl tr rfl (goodsValidate_con hw hvv2) ?_;refine lr1 rfl (ns (lr2 rfl (nn ?_)));revert h;refine ci (fun hc2 h => ?_) (fun hc2 h => ?_)
  ·refine sr (lr4 rfl (nr (WQ.thenRet ?_)));cases h;exact WQ.rets tbOk (r := .tup [tv ([] : Str), .v (.sl 5 ([].map eM)), iv v2]) hR [] (.inl rfl) rfl rfl (Le.tup (.cons (Le.refl _) (.cons (Le.nil 5) (.cons (Le.refl _) .nil)))) tr rfl rfl rfl rfl
  ·refine kn (WC.seq (sr ?_));refine lr 6 rfl sideR ?_;refine nn ?_;revert h;refine ci (fun hc3 h => ?_) (fun hc3 h => ?_)
   ·refine sr (lr3 rfl (nr (WQ.thenRet ?_)));cases h;exact WQ.rets tbOk (r := .tup [tv ([] : Str), .v (.sl 5 ([].map eM)), iv (2 : Int)]) hR [] (.inl rfl) rfl rfl (Le.tup (.cons (Le.refl _) (.cons (Le.nil 5) (.cons (Le.refl _) .nil)))) tr rfl rfl rfl rfl
   ·refine kn (sr (lr1 rfl (ns (lr1 rfl (nn (WC.seq ?_))))));refine WC.thenCut (X := Str × (List YL)) (fun gG => ⟨[(12, tv gG.1), (11, .r 1011)], [(1011, .row 45 5 (gG.2.map eM))]⟩) (fun gG => classify_j1 gG.1 gG.2 = some r) ?_ ?_
    ·refine WC.block ?_;obtain ⟨eQ1, hl1, hk1⟩ := bnd h;clear h;refine WC.rowNil 11 1011 45 5 rfl rfl ?_;refine WC.loop (σ := Str × (List YL)) (τ := (Str × (List YL))) (fun sS => ⟨[(12, tv sS.1), (11, .r 1011), (5, .p 5 0), (3, .p 3 0), (1, iv day)], [(1011, .row 45 5 (sS.2.map eM)), (3, .blk 26 (kv (eF b))), (5, .blk 32 (kv (eS g)))]⟩) (classify_b1 b day g) [] (([] : Str), []) hl1 sub ?_;rintro ⟨code3, steps2⟩ m hn1 he1 hx1;obtain ⟨o1, hf1⟩ := zQ1 hx1;have h := hf1;unfold classify_b1 at h;try dsimp only
     refine WC.block (sr (lr4 rfl ?_));revert h;refine zb fun v7 hvv7 h => ?_;refine WL.call0 fn31 rfl rfl rfl rfl tr rfl (basis_con hw hvv7) ?_;refine lr5 rfl (nn (WC.seq (sr (lr1 rfl ?_))));refine WL.q [] rfl rfl rfl (q_ev tbOk (iv (v7.2.length : Int)) rfl tr lenT) ?_;refine lr1 rfl (nn ?_);revert h;refine ci (fun hc5 h => ?_) (fun hc5 h => ?_)
     ·refine WC.exit (WQ.thenExit ?_);refine WQ.blockPass rfl ?_;cases h;obtain rfl := he1 _ hf1;replace h := hk1;try dsimp only at h
      refine eb ?_;exact WQ.cut [] (code3, steps2) sub h
     ·refine kn (sr (lr4 rfl ?_));revert h;refine zb fun v8 hvv8 h => ?_;refine WL.call0 fn32 rfl rfl rfl rfl tr rfl (reduce_con hw hvv8) ?_;refine lr6 rfl (ns (lr 8 rfl trivial (nn (WC.seq (sr (lr1 rfl ?_))))));refine WL.q [] rfl rfl rfl (q_ev tbOk (iv (v7.2.length : Int)) rfl tr lenT) ?_;refine lr1 rfl (nn ?_);refine WC.thenCut (X := (List YL) × (List Str)) (fun gG => ⟨[(17, .p 17 0), (16, .p 16 0), (11, .r 1011), (5, .p 5 0), (3, .p 3 0), (1, iv day)], [(1011, .row 45 5 (gG.1.map eM)), (16, .blk 53 (kv (eC v8.2))), (2852, .row 9 1 (gG.2.map eStr)), (17, .blk 45 [tv code3, iv v7.1, .r 2852, iv v8.1, tv v8.2.Code]), (3, .blk 26 (kv (eF b))), (5, .blk 32 (kv (eS g)))]⟩) (fun gG => classify_j2 b day g code3 v7 v8 gG.1 gG.2 = some o1) ?_ ?_
      ·refine WC.block ?_;obtain ⟨eQ2, hl2, hk2⟩ := bnd h;clear h;refine WC.rowNilB 17 2 2852 9 1 rfl rfl rfl (cs2 := [tv code3, iv v7.1, .r 2852, iv v8.1, tv v8.2.Code]) rfl ?_;refine WC.loop (σ := Int × (List YL) × (List Str)) (τ := ((List YL) × (List Str))) (fun sS => ⟨[(63, iv sS.1), (62, iv (v7.2.length : Int)), (61, .v (.sl 5 (v7.2.map eC))), (17, .p 17 0), (16, .p 16 0), (11, .r 1011), (5, .p 5 0), (3, .p 3 0), (1, iv day)], [(1011, .row 45 5 (sS.2.1.map eM)), (16, .blk 53 (kv (eC v8.2))), (2852, .row 9 1 (sS.2.2.map eStr)), (17, .blk 45 [tv code3, iv v7.1, .r 2852, iv v8.1, tv v8.2.Code]), (3, .blk 26 (kv (eF b))), (5, .blk 32 (kv (eS g)))]⟩) (classify_b2 b day g code3 v7 v8) [] ((0 : Int), steps2, []) hl2 sub ?_;rintro ⟨t636, steps10, c17_28⟩ m hn2 he2 hx2;obtain ⟨o2, hf2⟩ := zQ1 hx2;have h := hf2;unfold classify_b2 at h;try dsimp only
       refine sr (lr1 rfl (nn (WC.seq ?_)));revert h;refine ci (fun hc6 h => ?_) (fun hc6 h => ?_)
       ·refine kn (sb (sr ?_));obtain ⟨g2, h⟩ := grd h;revert h;refine zb fun x9 hxx9 h => ?_;refine WL.q [] rfl rfl rfl (q_idx tbOk rfl tr g2 (zM1 (f := eC) hxx9)) ?_;refine lr3 rfl (nn (WC.region (lr5 rfl ?_)));obtain ⟨g3, h⟩ := grd h;refine WL.append tbOk ((c17_28 ++ [x9.Code]).map eStr) [72, 2852] ap28 rfl rfl rfl rfl ce tr (zL1 (f := eStr) (xs := [x9.Code]) fun _ => rfl) (al g3) rfl rfl ma rfl ?_;refine lr2 rfl (WL.nil (bn (WC.region (lr2 rfl (WL.nil ?_)))));cases h;exact WQ.next [(2852, 72)] ((IntKind.i64.wrap (t636 + (1 : Int))), steps10, (c17_28 ++ [x9.Code])) sub (hn2 _ hf2)
       ·refine WC.exit (WQ.thenExit ?_);cases h;obtain rfl := he2 _ hf2;replace h := hk2;try dsimp only at h
        refine eb ?_;exact WQ.cut [] (steps10, c17_28) sub h
      ·rintro ⟨steps8, c17_27⟩ h;try dsimp only at h;unfold classify_j2 at h;try dsimp only
       refine WC.seq ?_;refine WC.publish 2852 rfl rfl ?_;refine WC.region (lr3 rfl ?_);obtain ⟨g1, h⟩ := grd h;refine WL.append tbOk ((steps8 ++ [(⟨code3, v7.1, c17_27, v8.1, v8.2.Code⟩ : YL)]).map eM) [78, 1011] ap34 rfl rfl rfl rfl ce tr (zL1 (f := eM) (xs := [(⟨code3, v7.1, c17_27, v8.1, v8.2.Code⟩ : YL)]) fun _ => rfl) (al g1) rfl rfl ma rfl ?_;refine lr1 rfl (nn (WC.region (lr3 rfl (WL.nil (WQ.blockNormal ?_)))));cases h;exact WQ.next [(1011, 78)] (v8.2.Code, (steps8 ++ [(⟨code3, v7.1, c17_27, v8.1, v8.2.Code⟩ : YL)])) sub (hn1 _ hf1)
    ·rintro ⟨code, steps⟩ h;try dsimp only at h;unfold classify_j1 at h;try dsimp only
     refine WC.seq (sr (lr1 rfl ?_));refine WL.q [1011] rfl rfl rfl (q_ev tbOk (iv (steps.length : Int)) rfl tr lenT) ?_;refine lr1 rfl (nn ?_);revert h;refine ci (fun hc4 h => ?_) (fun hc4 h => ?_)
     ·refine sr (lr3 rfl (nr (WQ.thenRet ?_)));cases h;exact WQ.rets tbOk (r := .tup [tv ([] : Str), .v (.sl 5 ([].map eM)), iv (7 : Int)]) hR [] (.inl rfl) rfl rfl (Le.tup (.cons (Le.refl _) (.cons (Le.nil 5) (.cons (Le.refl _) .nil)))) tr rfl rfl rfl rfl
     ·refine kn (sr (lr5 rfl (nr ?_)));refine WQ.publish 1011 rfl rfl ?_;cases h;exact WQ.rets tbOk (r := .tup [tv code, .v (.sl 5 (steps.map eM)), iv (0 : Int)]) hR [] (.inl rfl) rfl rfl (Le.tup (.cons (Le.refl _) (.cons (Le.refl _) (.cons (Le.refl _) .nil)))) tr rfl rfl rfl rfl
end Go.Proofs.YtaeplfiaahkgpaaGreatDoor
end zCq
noncomputable section zBl
set_option linter.unusedVariables false
set_option linter.unusedSimpArgs false
namespace Go.Proofs
open Go.Shelf Go.RowKit
variable {P : Program} {ρ : Ren}
theorem World.grownBy.drew' (w : World) (r : Option Nat) : w.grownBy w.drew r := ⟨rfl, rfl, rfl, Nat.le_refl _, fun _ _ _ => rfl⟩
theorem World.grownBy.freeze' (w : World) (g n : Nat) : w.grownBy (w.drew.freeze ⟨g, 0, none⟩ n) (some g) := by
 unfold World.freeze
 split
 ·exact ⟨rfl, rfl, rfl, Nat.le_refl _, fun _ _ _ => rfl⟩
 ·refine ⟨rfl, rfl, rfl, by show w.heap.size ≤ (Array.modify _ _ _).size; rw [Array.size_modify]; exact Nat.le_refl _, fun k hk hne => ?_⟩
  simp only [Array.getElem?_modify]
  rw [if_neg (fun e => hne (by rw [← e]))]
  rfl
theorem World.grownBy.alloc' (w : World) (o : Obj) (r : Option Nat) : w.grownBy (w.drew.alloc o) r := ⟨rfl, rfl, rfl, by simp, fun k hk _ => Go.heap_alloc_old w.drew _ hk⟩
set_option maxHeartbeats 1000000 in
set_option maxRecDepth 100000 in
theorem string_some (L : Lays.n169 P ρ) (X : Builder.Extra P ρ) (b : Nat) (l : List UInt8) (w : World) (h0 : l ≠ []) (p : Value) (g cap : Nat) (cur : Array Value) (fz : Nat × Nat)
  (hbk : w.heap[b]? = some (.cells #[p, .slice (some ⟨g, 0, none⟩) l.length cap] (ρ.t 72) (0, 0))) (hbg : w.heap[g]? = some (.cells cur (ρ.t 5) fz)) (hnc : l.length ≤ cap) (hcm : cap ≤ maxLen) (hcs : cur.size = cap * 1) (htake : cur.toList.take (l.length * 1) = Lib.byteCells l) :
  Calls P (ρ.f 169) #[.pointer (some ⟨b, 0, none⟩)] w fun e w' => e = .returned (.string ⟨l.toArray⟩) ∧ w.grownBy w' (some g) := by
 have hl0 : l.length ≠ 0 := by simpa using h0
 have c1 : w.drew.cell? ⟨b, 1, none⟩ = some (.slice (some ⟨g, 0, none⟩) l.length cap) := by
  have : w.drew.heap[b]? = some (.cells #[p, .slice (some ⟨g, 0, none⟩) l.length cap] (ρ.t 72) (0, 0)) := hbk
  rw [Lib.cell_of_heap this]; rfl
 have hSD : (Builtin.unsafeSliceData_ #[(ρ.t 37)] (ρ.t 127) #[.slice (some ⟨g, 0, none⟩) l.length cap]).run P w.drew = .ok (.pointer (some ⟨g, 0, none⟩)) w.drew :=
  Lib.run_unsafeSliceData_row _ _ _ _ _ _ (by omega)
 have hUS : (Builtin.unsafeString_ #[(ρ.t 127), (ρ.t 3)] (ρ.t 9) #[.pointer (some ⟨g, 0, none⟩), .int .i64 l.length]).run P w.drew = .ok (.string ⟨l.toArray⟩) (w.drew.freeze ⟨g, 0, none⟩ l.length) := by
  refine Lib.run_unsafeString_row w.drew (ρ.t 127) (ρ.t 3) (ρ.t 9) (ρ.t 5) L.t127 X.cellsByte g cur.size (by have hg' : w.drew.heap[g]? = some (.cells cur (ρ.t 5) fz) := hbg; simp [World.shape?, hg']) l h0 (by omega) (by unfold maxLen at hcm; omega) ?_
  intro j x hx
  have hj : (Lib.byteCells l)[j]? = some (.int .u8 x.toNat) := by simp [Lib.byteCells, hx]
  rw [← htake, List.getElem?_take] at hj
  split at hj
  ·rw [Addr.add_lit, cell_of_row w.drew g (0 + j) cur (ρ.t 5) fz hbg]
   simpa using hj
  ·cases hj
 have hfin : w.grownBy (w.drew.freeze ⟨g, 0, none⟩ l.length) (some g) := World.grownBy.freeze' w g _
 have mixed := L.mixed
 have t72 := L.t72; have a72 := L.a72; have z72 := L.z72; have v72 := L.v72; have u72 := run_underlying L.t72
 have t70 := L.t70; have a70 := L.a70; have z70 := L.z70; have v70 := L.v70; have u70 := run_underlying L.t70
 have t37 := L.t37; have a37 := L.a37; have z37 := L.z37; have v37 := L.v37; have u37 := run_underlying L.t37
 have t127 := L.t127; have a127 := L.a127; have z127 := L.z127; have v127 := L.v127; have u127 := run_underlying L.t127
 have t3 := L.t3; have a3 := L.a3; have z3 := L.z3; have v3 := L.v3; have u3 := run_underlying L.t3
 have t9 := L.t9; have a9 := L.a9; have z9 := L.z9; have v9 := L.v9; have u9 := run_underlying L.t9
 have t5 := X.t5; have a5 := X.a5; have z5 := X.z5; have v5 := X.v5; have u5 := run_underlying X.t5
 go_enter L.f169, Body.n169_ntmps ρ
 go_wp2
 go_region_o
 all_goals (go_wp2; go_ret; exact ⟨rfl, hfin⟩)
set_option maxHeartbeats 2000000 in
set_option maxRecDepth 100000 in
theorem string_nil (L : Lays.n169 P ρ) (X : Builder.Extra P ρ) (b : Nat) (p : Value) (w : World) (r : Option Nat) (hbk : w.heap[b]? = some (.cells #[p, .slice none 0 0] (ρ.t 72) (0, 0))) :
  Calls P (ρ.f 169) #[.pointer (some ⟨b, 0, none⟩)] w fun e w' => e = .returned (.string ⟨#[]⟩) ∧ w.grownBy w' r := by
 have hUS := Any.unsafeString_none L X
 have c1 : w.drew.cell? ⟨b, 1, none⟩ = some (.slice none 0 0) := by
  have : w.drew.heap[b]? = some (.cells #[p, .slice none 0 0] (ρ.t 72) (0, 0)) := hbk
  rw [Lib.cell_of_heap this]; rfl
 have hSD : (Builtin.unsafeSliceData_ #[(ρ.t 37)] (ρ.t 127) #[.slice none 0 0]).run P w.drew = .ok (.pointer none) w.drew := rfl
 have mixed := L.mixed
 have t72 := L.t72; have a72 := L.a72; have z72 := L.z72; have v72 := L.v72; have u72 := run_underlying L.t72
 have t70 := L.t70; have a70 := L.a70; have z70 := L.z70; have v70 := L.v70; have u70 := run_underlying L.t70
 have t37 := L.t37; have a37 := L.a37; have z37 := L.z37; have v37 := L.v37; have u37 := run_underlying L.t37
 have t127 := L.t127; have a127 := L.a127; have z127 := L.z127; have v127 := L.v127; have u127 := run_underlying L.t127
 have t3 := L.t3; have a3 := L.a3; have z3 := L.z3; have v3 := L.v3; have u3 := run_underlying L.t3
 have t9 := L.t9; have a9 := L.a9; have z9 := L.z9; have v9 := L.v9; have u9 := run_underlying L.t9
 have t5 := X.t5; have a5 := X.a5; have z5 := X.z5; have v5 := X.v5; have u5 := run_underlying X.t5
 have hfin : w.grownBy w.drew r := World.grownBy.drew' w r
 go_enter L.f169, Body.n169_ntmps ρ
 go_wp2
 go_region_o
 all_goals (go_wp2; go_ret; exact ⟨rfl, hfin⟩)
set_option maxHeartbeats 2000000 in
set_option maxRecDepth 100000 in
theorem string_noroom (L : Lays.n169 P ρ) (X : Builder.Extra P ρ) (b g : Nat) (p : Value) (cur : Array Value) (w : World) (r : Option Nat) (hbk : w.heap[b]? = some (.cells #[p, .slice (some ⟨g, 0, none⟩) 0 0] (ρ.t 72) (0, 0))) (fz : Nat × Nat) (hg : w.heap[g]? = some (.cells cur (ρ.t 5) fz)) :
  Calls P (ρ.f 169) #[.pointer (some ⟨b, 0, none⟩)] w fun e w' => e = .returned (.string ⟨#[]⟩) ∧ w.grownBy w' r := by
 have hUS := Any.unsafeString_none L X
 have hlt : b < w.heap.size := by
  rcases Nat.lt_or_ge b w.heap.size with h' | h'
  ·exact h'
  ·simp [Array.getElem?_eq_none h'] at hbk
 have c1 : w.drew.cell? ⟨b, 1, none⟩ = some (.slice (some ⟨g, 0, none⟩) 0 0) := by
  have : w.drew.heap[b]? = some (.cells #[p, .slice (some ⟨g, 0, none⟩) 0 0] (ρ.t 72) (0, 0)) := hbk
  rw [Lib.cell_of_heap this]; rfl
 have hSD : (Builtin.unsafeSliceData_ #[(ρ.t 37)] (ρ.t 127) #[.slice (some ⟨g, 0, none⟩) 0 0]).run P w.drew = .ok (.pointer (some ⟨w.drew.heap.size, 0, none⟩)) (w.drew.alloc (.view ⟨g, 0, none⟩ (ρ.t 5))) :=
  Lib.run_unsafeSliceData_zero w.drew _ _ (ρ.t 5) L.t127 ⟨g, 0, none⟩ 0 ((ρ.t 5), cur.size) (by have hg' : w.drew.heap[g]? = some (.cells cur (ρ.t 5) fz) := hg; simp [World.shape?, hg'])
 have c2 : (w.drew.alloc (.view ⟨g, 0, none⟩ (ρ.t 5))).cell? ⟨b, 1, none⟩ = some (.slice (some ⟨g, 0, none⟩) 0 0) := by
  have : (w.drew.alloc (.view ⟨g, 0, none⟩ (ρ.t 5))).heap[b]? = _ := (Lib.alloc_old w.drew _ b hlt).trans hbk
  rw [Lib.cell_of_heap this]; rfl
 have c3 : (w.alloc (.view ⟨g, 0, none⟩ (ρ.t 5))).drew.cell? ⟨b, 1, none⟩ = some (.slice (some ⟨g, 0, none⟩) 0 0) := c2
 have c0 : w.cell? ⟨b, 1, none⟩ = some (.slice (some ⟨g, 0, none⟩) 0 0) := c1
 have mixed := L.mixed
 have t72 := L.t72; have a72 := L.a72; have z72 := L.z72; have v72 := L.v72; have u72 := run_underlying L.t72
 have t70 := L.t70; have a70 := L.a70; have z70 := L.z70; have v70 := L.v70; have u70 := run_underlying L.t70
 have t37 := L.t37; have a37 := L.a37; have z37 := L.z37; have v37 := L.v37; have u37 := run_underlying L.t37
 have t127 := L.t127; have a127 := L.a127; have z127 := L.z127; have v127 := L.v127; have u127 := run_underlying L.t127
 have t3 := L.t3; have a3 := L.a3; have z3 := L.z3; have v3 := L.v3; have u3 := run_underlying L.t3
 have t9 := L.t9; have a9 := L.a9; have z9 := L.z9; have v9 := L.v9; have u9 := run_underlying L.t9
 have t5 := X.t5; have a5 := X.a5; have z5 := X.z5; have v5 := X.v5; have u5 := run_underlying X.t5
 have hfin : w.grownBy (w.drew.alloc (.view ⟨g, 0, none⟩ (ρ.t 5))) r := World.grownBy.alloc' w _ r
 have hfin2 : w.grownBy ((w.alloc (.view ⟨g, 0, none⟩ (ρ.t 5))).drew) r := hfin
 go_enter L.f169, Body.n169_ntmps ρ
 go_wp2
 go_region_o
 all_goals (go_wp2; go_ret; first | exact ⟨rfl, hfin⟩ | exact ⟨rfl, hfin2⟩)
set_option maxHeartbeats 2000000 in
set_option maxRecDepth 100000 in
theorem string_room (L : Lays.n169 P ρ) (X : Builder.Extra P ρ) (b g cap : Nat) (p : Value) (w : World) (r : Option Nat) (hc0 : cap ≠ 0) (hbk : w.heap[b]? = some (.cells #[p, .slice (some ⟨g, 0, none⟩) 0 cap] (ρ.t 72) (0, 0))) :
  Calls P (ρ.f 169) #[.pointer (some ⟨b, 0, none⟩)] w fun e w' => e = .returned (.string ⟨#[]⟩) ∧ w.grownBy w' r := by
 have hUS := Any.unsafeString_none L X
 have c1 : w.drew.cell? ⟨b, 1, none⟩ = some (.slice (some ⟨g, 0, none⟩) 0 cap) := by
  have : w.drew.heap[b]? = some (.cells #[p, .slice (some ⟨g, 0, none⟩) 0 cap] (ρ.t 72) (0, 0)) := hbk
  rw [Lib.cell_of_heap this]; rfl
 have hSD : (Builtin.unsafeSliceData_ #[(ρ.t 37)] (ρ.t 127) #[.slice (some ⟨g, 0, none⟩) 0 cap]).run P w.drew = .ok (.pointer (some ⟨g, 0, none⟩)) w.drew :=
  Lib.run_unsafeSliceData_row _ _ _ _ _ _ hc0
 clear hc0
 have mixed := L.mixed
 have t72 := L.t72; have a72 := L.a72; have z72 := L.z72; have v72 := L.v72; have u72 := run_underlying L.t72
 have t70 := L.t70; have a70 := L.a70; have z70 := L.z70; have v70 := L.v70; have u70 := run_underlying L.t70
 have t37 := L.t37; have a37 := L.a37; have z37 := L.z37; have v37 := L.v37; have u37 := run_underlying L.t37
 have t127 := L.t127; have a127 := L.a127; have z127 := L.z127; have v127 := L.v127; have u127 := run_underlying L.t127
 have t3 := L.t3; have a3 := L.a3; have z3 := L.z3; have v3 := L.v3; have u3 := run_underlying L.t3
 have t9 := L.t9; have a9 := L.a9; have z9 := L.z9; have v9 := L.v9; have u9 := run_underlying L.t9
 have t5 := X.t5; have a5 := X.a5; have z5 := X.z5; have v5 := X.v5; have u5 := run_underlying X.t5
 have hfin : w.grownBy w.drew r := World.grownBy.drew' w r
 go_enter L.f169, Body.n169_ntmps ρ
 go_wp2
 go_region_o
 all_goals (go_wp2; go_ret; exact ⟨rfl, hfin⟩)
end Go.Proofs
namespace Go.Proofs.YtaeplfiaahkgpaaGreatDoor
open Go.V Go.C Go.RowKit
theorem rows_ints {w : World} {X : Nat → Prop} : ∀ {xs : List Int} {rows : List (List Value)}, RepRows w X (xs.map eInt_u8) rows → rows.flatten = xs.map (Value.int .u8)
 | [], rows, h => by simp only [List.map_nil, RepRows] at h; subst h; rfl
 | x :: xs, rows, h => by
  simp only [List.map_cons, RepRows] at h
  obtain ⟨c, r, rfl, h1, h2⟩ := h
  simp only [eInt_u8, Reps, Rep] at h1
  obtain ⟨v, q, rfl, rfl, rfl⟩ := h1
  simp only [List.flatten_cons, rows_ints h2, List.map_cons]; rfl
theorem pins_same {ρ : Nat → Value} {O : List (Nat × Ob)} {N : Nat → Prop} : ∀ k v, get (pinsOf ρ O) k = some v → N k → ρ k = v := fun _ _ h _ => (pinsOf_get h).1
theorem bCheck_con {wg : World} (hw : WG wg) {b : YC1} {r : Unit} (h : bCheck b = some r) : Con Tryz.prog wg gl 102 [.p 0 0] [(0, .blk 88 [.sp 0, .r 601]), (601, .row 5 1 (b.buf.map eInt_u8))] (.tup []) [(0, .blk 88 [.sp 0, .r 601]), (601, .row 5 1 (b.buf.map eInt_u8))] := by
 intro w ρ F L vals hlow hdis hext hglob hobs hargs
 obtain ⟨bk, vs, hp, hbk, hL0, hvs⟩ := hobs.obj 0 _ rfl
 have hO6 := hobs.obj 601 _ rfl
 simp only [VReps, VRep] at hvs
 obtain ⟨v0, _, rfl, ⟨_, hv0⟩, v1, _, rfl, ⟨_, hv1⟩, rfl⟩ := hvs
 simp only [VReps, VRep] at hargs
 obtain ⟨a0, _, rfl, ⟨_, bk', hp', rfl⟩, rfl⟩ := hargs
 rw [hp] at hp'
 cases hp'
 have fin : ∀ w' : World, Step L w L w' → w'.heap[bk]? = some (.cells #[.pointer (some ⟨bk, 0, none⟩), v1] 88 (0, 0)) → (∀ k, k < w.heap.size → k ≠ bk → w'.heap[k]? = w.heap[k]?) →
   ∃ v ρ' L', Ending.returned (.tuple #[]) = .returned v ∧ VRep (nmO [(0, Ob.blk 88 [.sp 0, .r 601]), (601, .row 5 1 (b.buf.map eInt_u8))]) ρ' w' (un F L') (.tup []) v ∧
    ObsOk [(0, Ob.blk 88 [.sp 0, .r 601]), (601, .row 5 1 (b.buf.map eInt_u8))] ρ' w' (un F L') L' ∧ Step L w L' w' ∧ (∀ b, L' b → b < w'.heap.size) ∧
    ∀ k v, get (pinsOf ρ [(0, Ob.blk 88 [.sp 0, .r 601]), (601, .row 5 1 (b.buf.map eInt_u8))]) k = some v → nmO [(0, Ob.blk 88 [.sp 0, .r 601]), (601, .row 5 1 (b.buf.map eInt_u8))] k → ρ' k = v := fun w' hst hb' hk' => by
  have hkp : Keep w (un F L) w' (un F L) := keep_of_step hst
  have ne6 : ∀ g, ob (ρ 601) = some g → g ≠ bk := fun g hg e => by
   subst e
   exact hobs.inj 601 _ 0 _ rfl rfl (by decide) rfl rfl g hg (by rw [hp]; rfl)
  refine ⟨.tuple #[], ρ, L, rfl, by simp only [VRep]; exact ⟨[], rfl, by simp [VReps]⟩, ⟨fun k o hk => ?_, hobs.inj⟩, hst, fun b hb => Nat.lt_of_lt_of_le (hlow b (.inr hb)) hst.size, pins_same⟩
  by_cases e0 : 0 = k
  ·subst e0
   cases hk
   refine ⟨bk, [.pointer (some ⟨bk, 0, none⟩), v1], hp, hb', hL0, ?_⟩
   simp only [VReps, VRep]
   exact ⟨_, _, rfl, ⟨rfl, .inr hp.symm⟩, _, _, rfl, ⟨rfl, hv1⟩, rfl⟩
  ·rw [zI1 _ _ e0] at hk
   by_cases e6 : 601 = k
   ·subst e6
    cases hk
    exact hO6.keep (fun _ h => ⟨h, rfl⟩) hkp (fun _ g hg => ⟨hk' g (hlow g (.inr (by
     obtain ⟨_, _, _, _, h4⟩ := hO6
     exact h4 g hg))) (ne6 g hg), id⟩)
   ·rw [zI1 _ _ e6] at hk
    cases hk
 have hc0 : w.cell? ⟨bk, 0, none⟩ = some v0 := by rw [Lib.cell_of_heap hbk]; rfl
 rcases hv0 with rfl | rfl
 ·refine (Any.Builder_copyCheck_fresh (ρ := Tryz.lays156_ren) { Tryz.lays156 with } Tryz.Builder_Extra_156.toX72 bk w hc0 (by simp [World.shape?, hbk]; rfl) (by simp [World.frozen?, hbk])).mono ?_
  rintro e w' ⟨rfl, rfl⟩
  refine fin _ ⟨rfl, rfl, rfl, by simp [World.setCell], fun k hk hn => Below.heap_setCell _ _ _ _ (fun e => hn (e ▸ hL0)), fun b h => .inl h⟩ ?_ (fun k _ hn => Below.heap_setCell _ _ _ _ (fun e => hn e))
  rw [Go.Joins.block_setCell hbk]; rfl
 ·rw [hp] at hc0
  refine (Any.Builder_copyCheck_used (ρ := Tryz.lays156_ren) { Tryz.lays156 with } Tryz.Builder_Extra_156.toX72 bk w hc0).mono ?_
  rintro e w' ⟨rfl, rfl⟩
  exact fin _ (Step.refl _ _) (by rw [hbk, hp]) (fun _ _ _ => rfl)
theorem bString_con {wg : World} (hw : WG wg) {b : YC1} {r : Str} (h : bString b = some r) : Con Tryz.prog wg gl 48 [.p 0 0] [(0, .blk 88 [.sp 0, .r 601]), (601, .row 5 1 (b.buf.map eInt_u8))] (.v (.str r)) [(0, .dead), (601, .dead)] := by
 unfold bString at h
 split at h
 case isFalse => cases h
 rename_i hbytes
 cases h
 intro w ρ F L vals hlow hdis hext hglob hobs hargs
 obtain ⟨bk, vs, hp, hbk, hL0, hvs⟩ := hobs.obj 0 _ rfl
 have hO6 := hobs.obj 601 _ rfl
 obtain ⟨rows, hr1, hr2, ⟨_, hown⟩, hr4⟩ := hO6
 have hcell6 : isCell (ρ 601) = true := by
  rcases hown with ⟨hv, _⟩ | ⟨g, cap, cur, fz, hv, _⟩ <;> rw [hv] <;> rfl
 simp only [VReps, VRep] at hvs
 obtain ⟨v0, _, rfl, ⟨_, hv0⟩, v1, _, rfl, ⟨_, hv1⟩, rfl⟩ := hvs
 simp only [VReps, VRep] at hargs
 obtain ⟨a0, _, rfl, ⟨_, bk', hp', rfl⟩, rfl⟩ := hargs
 rw [hp] at hp'
 cases hp'
 have hfl := rows_ints hr1
 have hlen : rows.length = (bytesI b.buf).length := by
  have := hr1.length
  rw [List.length_map] at this
  simpa [bytesI] using this
 generalize bytesI b.buf = l at hbytes hlen
 have hfl2 : rows.flatten = Lib.byteCells l := by
  rw [hfl, hbytes]; simp [intsB, Lib.byteCells, List.map_map]
 have fin : ∀ w' : World, ∀ g : Option Nat, (∀ x, g = some x → L x) → w.grownBy w' g →
   ∃ v ρ' L', Ending.returned (.string ⟨l.toArray⟩) = .returned v ∧ VRep (nmO [(0, Ob.dead), (601, Ob.dead)]) ρ' w' (un F L') (.v (.str l)) v ∧
    ObsOk [(0, Ob.dead), (601, Ob.dead)] ρ' w' (un F L') L' ∧ Step L w L' w' ∧ (∀ b, L' b → b < w'.heap.size) ∧
    ∀ k v, get (pinsOf ρ [(0, Ob.blk 88 [.sp 0, .r 601]), (601, .row 5 1 (b.buf.map eInt_u8))]) k = some v → nmO [(0, Ob.dead), (601, Ob.dead)] k → ρ' k = v := fun w' g hg hgr => by
  refine ⟨_, ρ, L, rfl, by simp only [VRep, Rep], ⟨fun k o hk => ?_, fun k o k' o' hk hk' hne l1 l2 => ?_⟩, ⟨hgr.os, hgr.tape, hgr.output, hgr.size, fun k hk hn => hgr.block k hk (fun e => hn (hg k (by first | exact e | exact e.symm))), fun b h => .inl h⟩, fun b hb => Nat.lt_of_lt_of_le (hlow b (.inr hb)) hgr.size, pins_same⟩
  ·by_cases e0 : 0 = k
   ·subst e0; cases hk; rw [hp]; rfl
   ·rw [zI1 _ _ e0] at hk
    by_cases e6 : 601 = k
    ·subst e6; cases hk; exact hcell6
    ·rw [zI1 _ _ e6] at hk
     cases hk
  ·by_cases e0 : 0 = k
   ·subst e0; cases hk; cases l1
   ·rw [zI1 _ _ e0] at hk
    by_cases e6 : 601 = k
    ·subst e6; cases hk; cases l1
    ·rw [zI1 _ _ e6] at hk
     cases hk
 rcases hown with ⟨hv, h0⟩ | ⟨g, cap, cur, fz, hv, hg, hfz, hnc, hcm, hcs, htake⟩
 ·rw [hv] at hv1
  subst hv1
  have hl0 : l = [] := List.length_eq_zero_iff.1 (by omega)
  subst hl0
  refine (string_nil (ρ := Tryz.lays156_ren) { Tryz.lays156 with } Tryz.Builder_Extra_156 bk v0 w none hbk).mono ?_
  rintro e w' ⟨rfl, hgr⟩
  exact fin w' none (fun _ e => by cases e) hgr
 ·rw [hv] at hv1
  subst hv1
  have hLg : ∀ x, some g = some x → L x := fun x e => by cases e; exact hr4 g (by rw [hv]; rfl)
  by_cases hl0 : l = []
  ·subst hl0
   have hr0 : rows.length = 0 := by simpa using hlen
   rw [hr0] at hbk
   by_cases hc0 : cap = 0
   ·subst hc0
    refine (string_noroom (ρ := Tryz.lays156_ren) { Tryz.lays156 with } Tryz.Builder_Extra_156 bk g v0 cur w (some g) hbk fz hg).mono ?_
    rintro e w' ⟨rfl, hgr⟩
    exact fin w' _ hLg hgr
   ·refine (string_room (ρ := Tryz.lays156_ren) { Tryz.lays156 with } Tryz.Builder_Extra_156 bk g cap v0 w (some g) hc0 hbk).mono ?_
    rintro e w' ⟨rfl, hgr⟩
    exact fin w' _ hLg hgr
  ·rw [hlen] at hbk hnc htake
   refine (string_some (ρ := Tryz.lays156_ren) { Tryz.lays156 with } Tryz.Builder_Extra_156 bk l w hl0 v0 g cap cur fz hbk hg hnc hcm hcs (by rw [htake, hfl2])).mono ?_
   rintro e w' ⟨rfl, hgr⟩
   exact fin w' _ hLg hgr
end Go.Proofs.YtaeplfiaahkgpaaGreatDoor
end zBl
noncomputable section zCk
set_option linter.unusedVariables false
set_option linter.unusedSimpArgs false
set_option maxHeartbeats 4000000
set_option maxRecDepth 20000
namespace Go.Proofs.YtaeplfiaahkgpaaGreatDoor
open Go.V Go.C
theorem bWriteString_con {wg : World} (hw : WG wg) {b : YC1} {s : Str} {r : Int × Bool × YC1} (h : bWriteString b s = some r) : Con Tryz.prog wg gl 47 [.p 0 0, tv s] [(601, .row 5 1 (b.buf.map eInt_u8)), (0, .blk 88 [.sp 0, .r 601])] (.tup [iv r.1, .v (.err r.2.1)]) [(0, .blk 88 [.sp 0, .r 651]), (601, .dead), (651, .row 5 1 (r.2.2.buf.map eInt_u8))] := by
 unfold bWriteString at h;refine cw Tryz.func47 Tryz.ntmps47 ?_;intro F L w ρ0 R hR;try dsimp only [zP1]
 refine sr (lr2 rfl (ns (lr1 rfl ?_)));revert h;refine zb fun v hvv h => ?_;refine WL.callO [(0, 0), (601, 601)] [(0, 0), (601, 601)] [0, 601] fn102 rfl rfl rfl rfl tr (bCheck_con hw hvv) rfl rfl eqs rfl rfl rfl rfl rfl rfl ?_;refine ns (lr6 rfl ?_);obtain ⟨g1, h⟩ := grd h;refine WL.appendS tbOk ((b.buf ++ (intsB s)).map eInt_u8) [14, 601] apB86 rfl rfl rfl rfl rfl tr (by have := g1; simp only [List.length_map, List.length_nil] at this ⊢; omega) rfl rfl (by simp only [intsB, List.map_append, List.map_map, List.map_nil, List.nil_append]; rfl) rfl ?_;refine lr3 rfl (ns (lr4 rfl (nr ?_)));cases h;exact WQ.rets tbOk (r := .tup [iv (s.length : Int), .v (.err true)]) hR [(651, 14)] (.inl rfl) rfl rfl (Le.tup (.cons (Le.refl _) (.cons Le.nerr .nil))) eqs rfl rfl rfl rfl
end Go.Proofs.YtaeplfiaahkgpaaGreatDoor
end zCk
