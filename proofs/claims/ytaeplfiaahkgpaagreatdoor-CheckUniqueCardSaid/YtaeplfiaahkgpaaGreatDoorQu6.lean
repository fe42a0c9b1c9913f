/- Packed by pack.py. -/
import Derived.Test.YtaeplfiaahkgpaaGreatDoorQu3
import Derived.Test.YtaeplfiaahkgpaaGreatDoorQu5
import Derived.Test.YtaeplfiaahkgpaaGreatDoorQu4
import Derived.Sort.Grow
import Derived.Sort.EncStr
noncomputable section zCc
set_option linter.unusedVariables false
set_option linter.unusedSimpArgs false
set_option maxHeartbeats 4000000
set_option maxRecDepth 20000
namespace Go.Proofs.YtaeplfiaahkgpaaGreatDoor
open Go.V Go.C
theorem sIndex_con {wg : World} (hw : WG wg) {s : (List Str)} {v : Str} {r : Int} (h : sIndex s v = some r) : Con Tryz.prog wg gl 138 [.v (.sl 1 (s.map eStr)), tv v] [] (iv r) [] := by
 unfold sIndex at h;refine cw Tryz.func138 Tryz.ntmps138 ?_;intro F L w ρ0 R hR;try dsimp only [zP1]
 refine sr (lr1 rfl (nn (WC.seq (sr (lr1 rfl ?_)))));refine WL.q [] rfl rfl rfl (q_ev tbOk (iv (s.length : Int)) rfl tr lenT) ?_;refine lr1 rfl (nn ?_);refine WC.thenCut (X := Unit) (fun gG => ⟨[], []⟩) (fun gG => sIndex_j1  = some r) ?_ ?_
 ·refine WC.block ?_;obtain ⟨eQ1, hl1, hk1⟩ := bnd h;clear h;refine WC.loop (σ := Int) (τ := ((Int) ⊕ (Unit))) (fun sS => ⟨[(8, iv sS), (7, iv (s.length : Int)), (0, .v (.sl 1 (s.map eStr))), (1, tv v)], []⟩) (sIndex_b1 s v) [] (0 : Int) hl1 sub ?_;intro t8 m hn1 he1 hx1;obtain ⟨o1, hf1⟩ := zQ1 hx1;have h := hf1;unfold sIndex_b1 at h;try dsimp only
  refine sr (lr1 rfl (nn (WC.seq ?_)));revert h;refine ci (fun hc1 h => ?_) (fun hc1 h => ?_)
  ·refine kn (sb (sr (lr2 rfl (ns (lr3 rfl ?_)))));obtain ⟨g1, h⟩ := grd h;revert h;refine zb fun x2 hxx2 h => ?_;refine WL.q [] rfl rfl rfl (q_idx tbOk rfl tr g1 (zM1 (f := eStr) hxx2)) ?_;refine lr2 rfl (nn ?_);revert h;refine ci (fun hc2 h => ?_) (fun hc2 h => ?_)
   ·refine sr (lr2 rfl (nr (rb ?_)));cases h;obtain rfl := he1 _ hf1;have h : some t8 = some _ := hk1;refine WQ.thenRet (rb ?_);cases h;exact rt tbOk hR
   ·refine WC.skip (bn (WC.region (lr2 rfl (WL.nil ?_))));cases h;exact WQ.next [] (IntKind.i64.wrap (t8 + (1 : Int))) sub (hn1 _ hf1)
  ·refine WC.exit (WQ.thenExit ?_);cases h;obtain rfl := he1 _ hf1;replace h := hk1;try dsimp only at h
   refine eb ?_;exact WQ.cut [] () sub h
 ·intro _ h;try dsimp only at h;unfold sIndex_j1 at h;try dsimp only
  refine sr (lr1 rfl (nr ?_));cases h;exact rt tbOk hR
theorem sContains_con {wg : World} (hw : WG wg) {s : (List Str)} {v : Str} {r : Bool} (h : sContains s v = some r) : Con Tryz.prog wg gl 89 [.v (.sl 1 (s.map eStr)), tv v] [] (ov r) [] := by
 unfold sContains at h;refine cw Tryz.func89 Tryz.ntmps89 ?_;intro F L w ρ0 R hR;try dsimp only [zP1]
 refine sr (lr1 rfl (ns (lr2 rfl ?_)));revert h;refine zb fun v2 hvv2 h => ?_;refine WL.call0 fn138 rfl rfl rfl rfl tr rfl (sIndex_con hw hvv2) ?_;refine lr2 rfl (nr ?_);cases h;exact rt tbOk hR
theorem memberIn_con {wg : World} (hw : WG wg) {s : Str} {a1 : (List Str)} {r : Bool} (h : memberIn s a1 = some r) : Con Tryz.prog wg gl 169 [tv s, .p 1 0] [(1, .blk 28 [.v (.sl 1 (a1.map eStr))])] (ov r) [(1, .blk 28 [.v (.sl 1 (a1.map eStr))])] := by
 unfold memberIn at h;refine cw Tryz.func169 Tryz.ntmps169 ?_;intro F L w ρ0 R hR;try dsimp only [zP1]
 refine sr (lr1 rfl (ns (lr2 rfl ?_)));revert h;refine zb fun v hvv h => ?_;refine WL.call0 fn89 rfl rfl rfl rfl tr rfl (sContains_con hw hvv) ?_;refine lr1 rfl (nr ?_);cases h;exact rt tbOk hR
theorem member_con {wg : World} (hw : WG wg) {l : (List Str)} {r : (List Str)} (h : member l = some r) : Con Tryz.prog wg gl 148 [.v (.sl 1 (l.map eStr))] [] (.fn 169 [.p 500 0]) [(500, .blk 28 [.v (.sl 1 (r.map eStr))])] := by
 unfold member at h;refine cw Tryz.func148 Tryz.ntmps148 ?_;intro F L w ρ0 R hR;try dsimp only [zP1]
 refine sr (lr2 rfl (nn (WC.seq (sr (lr1 rfl ?_)))));refine WL.q [] rfl rfl rfl (q_ev tbOk (iv (l.length : Int)) rfl tr lenT) ?_;refine lr1 rfl (nn ?_);revert h;refine ci (fun hc1 h => ?_) (fun hc1 h => ?_)
 ·refine sr (lr2 rfl (nr (WQ.thenRet ?_)));cases h;exact WQ.rets tbOk hR [(500, 1)] (.inl rfl) rfl rfl (Le.refl _) eqs rfl rfl rfl rfl
 ·refine kn (WC.seq ?_);cases h
theorem subset_con {wg : World} (hw : WG wg) {a : (List Str)} {b : (List Str)} {r : Bool} (h : subset a b = some r) : Con Tryz.prog wg gl 112 [.v (.sl 1 (a.map eStr)), .v (.sl 1 (b.map eStr))] [] (ov r) [] := by
 unfold subset at h;refine cw Tryz.func112 Tryz.ntmps112 ?_;intro F L w ρ0 R hR;try dsimp only [zP1]
 refine sr (lr1 rfl (ns (lr1 rfl ?_)));revert h;refine zb fun v hvv h => ?_;refine WL.callO [] [(500, 9)] [9] fn148 rfl rfl rfl rfl tr (member_con hw hvv) rfl rfl tr rfl rfl rfl rfl rfl rfl ?_;refine lr1 rfl (nn (WC.seq (sr (lr1 rfl ?_))));refine WL.q [] rfl rfl rfl (q_ev tbOk (iv (a.length : Int)) rfl tr lenT) ?_;refine lr1 rfl (nn ?_);refine WC.thenCut (X := Unit) (fun gG => ⟨[], []⟩) (fun gG => subset_j1  = some r) ?_ ?_
 ·refine WC.block ?_;obtain ⟨eQ1, hl1, hk1⟩ := bnd h;clear h;refine WC.loop (σ := Int) (τ := ((Bool) ⊕ (Unit))) (fun sS => ⟨[(12, iv sS), (11, iv (a.length : Int)), (10, .v (.sl 1 (a.map eStr))), (5, .fn 169 [.p 9 0])], [(9, .blk 28 [.v (.sl 1 (v.map eStr))])]⟩) (subset_b1 a v) [] (0 : Int) hl1 sub ?_;intro t12 m hn1 he1 hx1;obtain ⟨o1, hf1⟩ := zQ1 hx1;have h := hf1;unfold subset_b1 at h;try dsimp only
  refine sr (lr1 rfl (nn (WC.seq ?_)));revert h;refine ci (fun hc1 h => ?_) (fun hc1 h => ?_)
  ·refine kn (sb (sr ?_));obtain ⟨g1, h⟩ := grd h;revert h;refine zb fun x2 hxx2 h => ?_;refine WL.q [] rfl rfl rfl (q_idx tbOk rfl tr g1 (zM1 (f := eStr) hxx2)) ?_;refine lr2 rfl (ns (lr2 rfl ?_));revert h;refine zb fun v3 hvv3 h => ?_;refine WL.callO [(1, 9)] [(1, 9)] [9] fn169 rfl rfl rfl rfl tr (memberIn_con hw hvv3) rfl rfl eqs rfl rfl rfl rfl rfl rfl ?_;refine lr1 rfl (nn ?_);revert h;refine ci (fun hc2 h => ?_) (fun hc2 h => ?_)
   ·refine sr (lr1 rfl (nr (rb ?_)));cases h;obtain rfl := he1 _ hf1;have h : some false = some _ := hk1;refine WQ.thenRet (rb ?_);cases h;exact rt tbOk hR
   ·refine WC.skip (bn (WC.region (lr2 rfl (WL.nil ?_))));cases h;exact WQ.next [] (IntKind.i64.wrap (t12 + (1 : Int))) sub (hn1 _ hf1)
  ·refine WC.exit (WQ.thenExit ?_);cases h;obtain rfl := he1 _ hf1;replace h := hk1;try dsimp only at h
   refine eb ?_;exact WQ.cut [] () sub h
 ·intro _ h;try dsimp only at h;unfold subset_j1 at h;try dsimp only
  refine sr (lr1 rfl (nr ?_));cases h;exact rt tbOk hR
theorem cloneWords_con {wg : World} (hw : WG wg) {l : (List (List Str))} {r : (List (List Str))} (h : cloneWords l = some r) : Con Tryz.prog wg gl 137 [.v (.sl 1 (l.map zH1))] [] (.r 500) [(500, .row 28 1 (r.map zH1))] := by
 unfold cloneWords at h;refine cw Tryz.func137 Tryz.ntmps137 ?_;intro F L w ρ0 R hR;try dsimp only [zP1]
 refine sr (lr1 rfl (ns (lr1 rfl (nn (WC.seq (sr (lr1 rfl ?_)))))));refine WL.q [] rfl rfl rfl (q_ev tbOk (iv (l.length : Int)) rfl tr lenT) ?_;refine lr1 rfl (nn ?_);refine WC.thenCut (X := (List (List Str))) (fun gG => ⟨[(3, .r 1003)], [(1003, .row 28 1 (gG.map zH1))]⟩) (fun gG => cloneWords_j1 gG = some r) ?_ ?_
 ·refine WC.block ?_;obtain ⟨eQ1, hl1, hk1⟩ := bnd h;clear h;refine WC.rowNil 3 1003 28 1 rfl rfl ?_;refine WC.loop (σ := Int × (List (List Str))) (τ := ((List (List Str)))) (fun sS => ⟨[(8, iv sS.1), (7, iv (l.length : Int)), (6, .v (.sl 1 (l.map zH1))), (3, .r 1003)], [(1003, .row 28 1 (sS.2.map zH1))]⟩) (cloneWords_b1 l) [] ((0 : Int), []) hl1 sub ?_;rintro ⟨t82, result2⟩ m hn1 he1 hx1;obtain ⟨o1, hf1⟩ := zQ1 hx1;have h := hf1;unfold cloneWords_b1 at h;try dsimp only
  refine sr (lr1 rfl (nn (WC.seq ?_)));revert h;refine ci (fun hc1 h => ?_) (fun hc1 h => ?_)
  ·refine kn (sb (sr ?_));obtain ⟨g1, h⟩ := grd h;revert h;refine zb fun x3 hxx3 h => ?_;refine WL.q [] rfl rfl rfl (q_idx tbOk rfl tr g1 (zM1 (f := zH1) hxx3)) ?_;refine lr2 rfl (nn (WC.region (lr2 rfl ?_)));revert h;refine zb fun v3 hvv3 h => ?_;refine WL.call0 fn119 rfl rfl rfl rfl tr rfl (cloneS_con hw hvv3) ?_;refine lr1 rfl ?_;obtain ⟨g2, h⟩ := grd h;refine WL.append tbOk ((result2 ++ [v3]).map zH1) [16, 1003] ap51 rfl rfl rfl rfl ce tr (zL1 (f := zH1) (xs := [v3]) fun _ => rfl) (al g2) rfl rfl ma rfl ?_;refine lr1 rfl (WL.nil (bn (WC.region (lr2 rfl (WL.nil ?_)))));cases h;exact WQ.next [(1003, 16)] ((IntKind.i64.wrap (t82 + (1 : Int))), (result2 ++ [v3])) sub (hn1 _ hf1)
  ·refine WC.exit (WQ.thenExit ?_);cases h;obtain rfl := he1 _ hf1;replace h := hk1;try dsimp only at h
   refine eb ?_;exact WQ.cut [] result2 sub h
 ·intro result h;try dsimp only at h;unfold cloneWords_j1 at h;try dsimp only
  refine sr (lr2 rfl (nr ?_));cases h;exact WQ.rets tbOk hR [(500, 1003)] (.inl rfl) rfl rfl (Le.refl _) eqs rfl rfl rfl rfl
theorem nomAt_con {wg : World} (hw : WG wg) {b : YE} {day : Int} {r : (List YB)} (h : nomAt b day = some r) : Con Tryz.prog wg gl 86 [.v (.agg (eF b)), iv day] [] (.v (.sl 5 (r.map eC))) [] := by
 unfold nomAt at h;refine cw Tryz.func86 Tryz.ntmps86 ?_;intro F L w ρ0 R hR;try dsimp only [zP1]
 refine sr (lr2 rfl (ns (lr1 rfl (nn (WC.seq (sr (lr2 rfl ?_)))))));refine WL.q [] rfl rfl rfl (q_ev tbOk (iv (b.Entries.length : Int)) rfl tr lenT) ?_;refine lr1 rfl (nn ?_);refine WC.thenCut (X := (List YB)) (fun gG => ⟨[(5, .r 1005)], [(1005, .row 53 5 (gG.map eC))]⟩) (fun gG => nomAt_j1 gG = some r) ?_ ?_
 ·refine WC.block ?_;obtain ⟨eQ1, hl1, hk1⟩ := bnd h;clear h;refine WC.rowNil 5 1005 53 5 rfl rfl ?_;refine WC.loop (σ := Int × (List YB)) (τ := ((List YB))) (fun sS => ⟨[(11, iv sS.1), (10, iv (b.Entries.length : Int)), (9, .v (.sl 5 (b.Entries.map eC))), (5, .r 1005), (1, iv day)], [(1005, .row 53 5 (sS.2.map eC))]⟩) (nomAt_b1 b day) [] ((0 : Int), []) hl1 sub ?_;rintro ⟨t112, l3⟩ m hn1 he1 hx1;obtain ⟨o1, hf1⟩ := zQ1 hx1;have h := hf1;unfold nomAt_b1 at h;try dsimp only
  refine sr (lr1 rfl (nn (WC.seq ?_)));revert h;refine ci (fun hc1 h => ?_) (fun hc1 h => ?_)
  ·refine kn (WC.seq ?_);refine WC.thenCut (X := (List YB)) (fun gG => ⟨[(5, .r 1005), (11, iv t112), (10, iv (b.Entries.length : Int)), (9, .v (.sl 5 (b.Entries.map eC))), (1, iv day)], [(1005, .row 53 5 (gG.map eC))]⟩) (fun gG => nomAt_j2 b day t112 gG = some o1) ?_ ?_
   ·refine WC.block (sr ?_);obtain ⟨g1, h⟩ := grd h;revert h;refine zb fun x3 hxx3 h => ?_;refine WL.q [] rfl rfl rfl (q_idx tbOk rfl tr g1 (zM1 (f := eC) hxx3)) ?_;refine lr3 rfl (ns ?_);refine lr 10 rfl sideR ?_;refine nn ?_;revert h;refine ci (fun hc2 h => ?_) (fun hc2 h => ?_)
    ·refine sr (lr2 rfl ?_);revert h;refine zb fun v3 hvv3 h => ?_;refine WL.callO [] [(500, 27)] [27] fn137 rfl rfl rfl rfl tr (cloneWords_con hw hvv3) rfl rfl tr rfl rfl rfl rfl rfl rfl ?_;refine lr2 rfl (nn ?_);refine WC.publish 27 rfl rfl ?_;refine WC.region (lr3 rfl ?_);obtain ⟨g2, h⟩ := grd h;refine WL.append tbOk ((l3 ++ [(⟨x3.Code, x3.From, x3.To, v3, x3.Other⟩ : YB)]).map eC) [32, 1005] ap23 rfl rfl rfl rfl ce tr (zL1 (f := eC) (xs := [(⟨x3.Code, x3.From, x3.To, v3, x3.Other⟩ : YB)]) fun _ => rfl) (al g2) rfl rfl ma rfl ?_;refine lr1 rfl (WL.nil (WQ.blockNormal ?_));exact WQ.cut [(1005, 32)] (l3 ++ [(⟨x3.Code, x3.From, x3.To, v3, x3.Other⟩ : YB)]) sub h
    ·refine WC.skip (WQ.blockNormal ?_);exact WQ.cut [] l3 sub h
   ·intro l6 h;try dsimp only at h;unfold nomAt_j2 at h;try dsimp only
    refine WC.region (lr2 rfl (WL.nil ?_));cases h;exact WQ.next [] ((IntKind.i64.wrap (t112 + (1 : Int))), l6) sub (hn1 _ hf1)
  ·refine WC.exit (WQ.thenExit ?_);cases h;obtain rfl := he1 _ hf1;replace h := hk1;try dsimp only at h
   refine eb ?_;exact WQ.cut [] l3 sub h
 ·intro l h;try dsimp only at h;unfold nomAt_j1 at h;try dsimp only
  refine sr (lr2 rfl (nr ?_));refine WQ.publish 1005 rfl rfl ?_;cases h;exact rt tbOk hR
theorem nomFind_con {wg : World} (hw : WG wg) {b : YE} {day : Int} {code : Str} {r : YB × Bool} (h : nomFind b day code = some r) : Con Tryz.prog wg gl 40 [.v (.agg (eF b)), iv day, tv code] [] (.tup [.v (.agg (eC r.1)), ov r.2]) [] := by
 unfold nomFind at h;refine cw Tryz.func40 Tryz.ntmps40 ?_;intro F L w ρ0 R hR;try dsimp only [zP1]
 refine sr (lr3 rfl (nn (WC.seq (sr (lr2 rfl ?_)))));revert h;refine zb fun v hvv h => ?_;refine WL.call0 fn86 rfl rfl rfl rfl tr rfl (nomAt_con hw hvv) ?_;refine WL.q [] rfl rfl rfl (q_ev tbOk (iv (v.length : Int)) rfl tr lenT) ?_;refine lr1 rfl (nn ?_);refine WC.thenCut (X := Unit) (fun gG => ⟨[(6, .p 6 0)], [(6, .blk 53 [tv [], iv 0, iv 0, .v (.raw (.slice none 0 0)), ov false])]⟩) (fun gG => nomFind_j1  = some r) ?_ ?_
 ·refine WC.block ?_;obtain ⟨eQ1, hl1, hk1⟩ := bnd h;clear h;refine WC.loop (σ := Int) (τ := ((YB × Bool) ⊕ (Unit))) (fun sS => ⟨[(14, iv sS), (13, iv (v.length : Int)), (12, .v (.sl 5 (v.map eC))), (6, .p 6 0), (2, tv code)], [(6, .blk 53 [tv [], iv 0, iv 0, .v (.raw (.slice none 0 0)), ov false])]⟩) (nomFind_b1 code v) [] (0 : Int) hl1 sub ?_;intro t14 m hn1 he1 hx1;obtain ⟨o1, hf1⟩ := zQ1 hx1;have h := hf1;unfold nomFind_b1 at h;try dsimp only
  refine sr (lr1 rfl (nn (WC.seq ?_)));revert h;refine ci (fun hc1 h => ?_) (fun hc1 h => ?_)
  ·refine kn (sb (sr ?_));obtain ⟨g1, h⟩ := grd h;revert h;refine zb fun x2 hxx2 h => ?_;refine WL.q [] rfl rfl rfl (q_idx tbOk rfl tr g1 (zM1 (f := eC) hxx2)) ?_;refine lr3 rfl (ns (lr4 rfl (nn ?_)));revert h;refine ci (fun hc2 h => ?_) (fun hc2 h => ?_)
   ·refine sr (lr3 rfl (nr (rb ?_)));cases h;obtain rfl := he1 _ hf1;have h : some (x2, true) = some _ := hk1;refine WQ.thenRet (rb ?_);cases h;exact WQ.rets tbOk (r := .tup [.v (.agg (eC x2)), ov true]) hR [] (.inl rfl) rfl rfl (Le.tup (.cons (Le.refl _) (.cons (Le.refl _) .nil))) tr rfl rfl rfl rfl
   ·refine WC.skip (bn (WC.region (lr2 rfl (WL.nil ?_))));cases h;exact WQ.next [] (IntKind.i64.wrap (t14 + (1 : Int))) sub (hn1 _ hf1)
  ·refine WC.exit (WQ.thenExit ?_);cases h;obtain rfl := he1 _ hf1;replace h := hk1;try dsimp only at h
   refine eb ?_;exact WQ.cut [] () sub h
 ·intro _ h;try dsimp only at h;unfold nomFind_j1 at h;try dsimp only
  refine sr (lr3 rfl (nr ?_));cases h;exact WQ.rets tbOk (r := .tup [.v (.agg [.str ((⟨[], 0, 0, [], false⟩ : YB).Code), .int .i64 ((⟨[], 0, 0, [], false⟩ : YB).From), .int .i64 ((⟨[], 0, 0, [], false⟩ : YB).To), .sl 1 (((⟨[], 0, 0, [], false⟩ : YB).Terms).map zH1), .bool ((⟨[], 0, 0, [], false⟩ : YB).Other)]), ov false]) hR [] (.inl rfl) rfl rfl (Le.tup (.cons (Le.agg (.same (.same (.same (.sl 1 (.same .nil)))))) (.cons (Le.refl _) .nil))) tr rfl rfl rfl rfl
theorem nomBelow_con {wg : World} (hw : WG wg) {b : YE} {day : Int} {code : Str} {r : (List YB)} (h : nomBelow b day code = some r) : Con Tryz.prog wg gl 61 [.v (.agg (eF b)), iv day, tv code] [] (.v (.sl 5 (r.map eC))) [] := by
 unfold nomBelow at h;refine cw Tryz.func61 Tryz.ntmps61 ?_;intro F L w ρ0 R hR;try dsimp only [zP1]
 refine sr (lr2 rfl (ns (lr1 rfl (nn (WC.seq (sr (lr2 rfl ?_)))))));revert h;refine zb fun v hvv h => ?_;refine WL.call0 fn86 rfl rfl rfl rfl tr rfl (nomAt_con hw hvv) ?_;refine WL.q [] rfl rfl rfl (q_ev tbOk (iv (v.length : Int)) rfl tr lenT) ?_;refine lr1 rfl (nn ?_);refine WC.thenCut (X := (List YB)) (fun gG => ⟨[(7, .r 1007)], [(1007, .row 53 5 (gG.map eC))]⟩) (fun gG => nomBelow_j1 gG = some r) ?_ ?_
 ·refine WC.block ?_;obtain ⟨eQ1, hl1, hk1⟩ := bnd h;clear h;refine WC.rowNil 7 1007 53 5 rfl rfl ?_;refine WC.loop (σ := Int × (List YB)) (τ := ((List YB))) (fun sS => ⟨[(15, iv sS.1), (14, iv (v.length : Int)), (13, .v (.sl 5 (v.map eC))), (7, .r 1007), (2, tv code)], [(1007, .row 53 5 (sS.2.map eC))]⟩) (nomBelow_b1 code v) [] ((0 : Int), []) hl1 sub ?_;rintro ⟨t152, l3⟩ m hn1 he1 hx1;obtain ⟨o1, hf1⟩ := zQ1 hx1;have h := hf1;unfold nomBelow_b1 at h;try dsimp only
  refine sr (lr1 rfl (nn (WC.seq ?_)));revert h;refine ci (fun hc1 h => ?_) (fun hc1 h => ?_)
  ·refine kn (WC.seq ?_);refine WC.thenCut (X := (List YB)) (fun gG => ⟨[(7, .r 1007), (15, iv t152), (14, iv (v.length : Int)), (13, .v (.sl 5 (v.map eC))), (2, tv code)], [(1007, .row 53 5 (gG.map eC))]⟩) (fun gG => nomBelow_j2 code v t152 gG = some o1) ?_ ?_
   ·refine WC.block (sr ?_);obtain ⟨g1, h⟩ := grd h;revert h;refine zb fun x3 hxx3 h => ?_;refine WL.q [] rfl rfl rfl (q_idx tbOk rfl tr g1 (zM1 (f := eC) hxx3)) ?_;refine lr3 rfl (ns (lr4 rfl (ns ?_)));obtain ⟨g2, h⟩ := grd h;refine lr 23 rfl (by repeat' (first | exact trivial | assumption | intro _ | exact g2 (by assumption) | apply And.intro | exact sideT | (refine and_i ?_ ?_))) ?_;refine nn ?_;revert h;refine ci (fun hc2 h => ?_) (fun hc2 h => ?_)
    ·refine WC.region (lr3 rfl ?_);obtain ⟨g3, h⟩ := grd h;refine WL.append tbOk ((l3 ++ [x3]).map eC) [48, 1007] ap23 rfl rfl rfl rfl ce tr (zL1 (f := eC) (xs := [x3]) fun _ => rfl) (al g3) rfl rfl ma rfl ?_;refine lr1 rfl (WL.nil (WQ.blockNormal ?_));exact WQ.cut [(1007, 48)] (l3 ++ [x3]) sub h
    ·refine WC.skip (WQ.blockNormal ?_);exact WQ.cut [] l3 sub h
   ·intro l6 h;try dsimp only at h;unfold nomBelow_j2 at h;try dsimp only
    refine WC.region (lr2 rfl (WL.nil ?_));cases h;exact WQ.next [] ((IntKind.i64.wrap (t152 + (1 : Int))), l6) sub (hn1 _ hf1)
  ·refine WC.exit (WQ.thenExit ?_);cases h;obtain rfl := he1 _ hf1;replace h := hk1;try dsimp only at h
   refine eb ?_;exact WQ.cut [] l3 sub h
 ·intro l h;try dsimp only at h;unfold nomBelow_j1 at h;try dsimp only
  refine sr (lr2 rfl (nr ?_));refine WQ.publish 1007 rfl rfl ?_;cases h;exact rt tbOk hR
theorem nomExcluded_con {wg : World} (hw : WG wg) {b : YE} {code : Str} {words : (List Str)} {r : Bool} (h : nomExcluded b code words = some r) : Con Tryz.prog wg gl 88 [.v (.agg (eF b)), tv code, .v (.sl 1 (words.map eStr))] [] (ov r) [] := by
 unfold nomExcluded at h;refine cw Tryz.func88 Tryz.ntmps88 ?_;intro F L w ρ0 R hR;try dsimp only [zP1]
 refine sr (lr2 rfl (nn (WC.seq (sr (lr2 rfl ?_)))));refine WL.q [] rfl rfl rfl (q_ev tbOk (iv (b.Notes.length : Int)) rfl tr lenT) ?_;refine lr1 rfl (nn ?_);refine WC.thenCut (X := Unit) (fun gG => ⟨[], []⟩) (fun gG => nomExcluded_j1  = some r) ?_ ?_
 ·refine WC.block ?_;obtain ⟨eQ1, hl1, hk1⟩ := bnd h;clear h;refine WC.loop (σ := Int) (τ := ((Bool) ⊕ (Unit))) (fun sS => ⟨[(12, iv sS), (11, iv (b.Notes.length : Int)), (10, .v (.sl 3 (b.Notes.map eX))), (1, tv code), (2, .v (.sl 1 (words.map eStr)))], []⟩) (nomExcluded_b1 b code words) [] (0 : Int) hl1 sub ?_;intro t12 m hn1 he1 hx1;obtain ⟨o1, hf1⟩ := zQ1 hx1;have h := hf1;unfold nomExcluded_b1 at h;try dsimp only
  refine sr (lr1 rfl (nn (WC.seq ?_)));revert h;refine ci (fun hc1 h => ?_) (fun hc1 h => ?_)
  ·refine kn (sb (sr ?_));obtain ⟨g1, h⟩ := grd h;revert h;refine zb fun x2 hxx2 h => ?_;refine WL.q [] rfl rfl rfl (q_idx tbOk rfl tr g1 (zM1 (f := eX) hxx2)) ?_;refine lr3 rfl (ns (lr3 rfl ?_));revert h;refine zb fun v3 hvv3 h => ?_;refine WL.call0 fn41 rfl rfl rfl rfl tr rfl (hasPrefixS_con hw hvv3) ?_;refine lr 4 rfl sideR ?_;revert h;refine zb fun v4 hvv4 h => ?_;refine WL.gcall0 fn112 rfl rfl rfl rfl rfl (fun _ => sideR) rfl (fun hg => (subset_con hw (ite_t hg hvv4))) ?_;refine lr 1 rfl sideR ?_;refine nn ?_;revert h;refine ci (fun hc2 h => ?_) (fun hc2 h => ?_)
   ·refine sr (lr1 rfl (nr (rb ?_)));cases h;obtain rfl := he1 _ hf1;have h : some true = some _ := hk1;refine WQ.thenRet (rb ?_);cases h;exact rt tbOk hR
   ·refine WC.skip (bn (WC.region (lr2 rfl (WL.nil ?_))));cases h;exact WQ.next [] (IntKind.i64.wrap (t12 + (1 : Int))) sub (hn1 _ hf1)
  ·refine WC.exit (WQ.thenExit ?_);cases h;obtain rfl := he1 _ hf1;replace h := hk1;try dsimp only at h
   refine eb ?_;exact WQ.cut [] () sub h
 ·intro _ h;try dsimp only at h;unfold nomExcluded_j1 at h;try dsimp only
  refine sr (lr1 rfl (nr ?_));cases h;exact rt tbOk hR
theorem nomAlts_con {wg : World} (hw : WG wg) {b : YE} {e1 : YB} {r : (List (List Str))} (h : nomAlts b e1 = some r) : Con Tryz.prog wg gl 111 [.v (.agg (eF b)), .v (.agg (eC e1))] [] (.v (.sl 1 (r.map zH1))) [] := by
 unfold nomAlts at h;refine cw Tryz.func111 Tryz.ntmps111 ?_;intro F L w ρ0 R hR;try dsimp only [zP1]
 refine sr (lr3 rfl (ns (lr2 rfl ?_)));revert h;refine zb fun v hvv h => ?_;refine WL.callO [] [(500, 10)] [10] fn137 rfl rfl rfl rfl tr (cloneWords_con hw hvv) rfl rfl tr rfl rfl rfl rfl rfl rfl ?_;refine lr1 rfl (nn (WC.seq (sr (lr2 rfl ?_))));refine WL.q [] rfl rfl rfl (q_ev tbOk (iv (b.Notes.length : Int)) rfl tr lenT) ?_;refine lr1 rfl (nn ?_);refine WC.thenCut (X := (List (List Str))) (fun gG => ⟨[(5, .r 1005)], [(1005, .row 28 1 (gG.map zH1))]⟩) (fun gG => nomAlts_j1 gG = some r) ?_ ?_
 ·refine WC.block ?_;obtain ⟨eQ1, hl1, hk1⟩ := bnd h;clear h;refine WC.loop (σ := Int × (List (List Str))) (τ := ((List (List Str)))) (fun sS => ⟨[(14, iv sS.1), (13, iv (b.Notes.length : Int)), (12, .v (.sl 3 (b.Notes.map eX))), (5, .r 1005), (3, .p 3 0)], [(1005, .row 28 1 (sS.2.map zH1)), (3, .blk 53 (kv (eC e1)))]⟩) (nomAlts_b1 b e1) [(1005, 10)] ((0 : Int), v) hl1 sub ?_;rintro ⟨t14, l2⟩ m hn1 he1 hx1;obtain ⟨o1, hf1⟩ := zQ1 hx1;have h := hf1;unfold nomAlts_b1 at h;try dsimp only
  refine sr (lr1 rfl (nn (WC.seq ?_)));revert h;refine ci (fun hc1 h => ?_) (fun hc1 h => ?_)
  ·refine kn (WC.seq ?_);refine WC.thenCut (X := (List (List Str))) (fun gG => ⟨[(5, .r 1005), (14, iv t14), (13, iv (b.Notes.length : Int)), (12, .v (.sl 3 (b.Notes.map eX))), (3, .p 3 0)], [(1005, .row 28 1 (gG.map zH1)), (3, .blk 53 (kv (eC e1)))]⟩) (fun gG => nomAlts_j2 b e1 t14 gG = some o1) ?_ ?_
   ·refine WC.block (sr ?_);obtain ⟨g1, h⟩ := grd h;revert h;refine zb fun x2 hxx2 h => ?_;refine WL.q [] rfl rfl rfl (q_idx tbOk rfl tr g1 (zM1 (f := eX) hxx2)) ?_;refine lr3 rfl (ns (lr5 rfl (nn ?_)));revert h;refine ci (fun hc2 h => ?_) (fun hc2 h => ?_)
    ·refine WC.region (lr3 rfl ?_);revert h;refine zb fun v3 hvv3 h => ?_;refine WL.call0 fn119 rfl rfl rfl rfl tr rfl (cloneS_con hw hvv3) ?_;refine lr1 rfl ?_;obtain ⟨g2, h⟩ := grd h;refine WL.append tbOk ((l2 ++ [v3]).map zH1) [28, 1005] ap51 rfl rfl rfl rfl ce tr (zL1 (f := zH1) (xs := [v3]) fun _ => rfl) (al g2) rfl rfl ma rfl ?_;refine lr1 rfl (WL.nil (WQ.blockNormal ?_));exact WQ.cut [(1005, 28)] (l2 ++ [v3]) sub h
    ·refine WC.skip (WQ.blockNormal ?_);exact WQ.cut [] l2 sub h
   ·intro l6 h;try dsimp only at h;unfold nomAlts_j2 at h;try dsimp only
    refine WC.region (lr2 rfl (WL.nil ?_));cases h;exact WQ.next [] ((IntKind.i64.wrap (t14 + (1 : Int))), l6) sub (hn1 _ hf1)
  ·refine WC.exit (WQ.thenExit ?_);cases h;obtain rfl := he1 _ hf1;replace h := hk1;try dsimp only at h
   refine eb ?_;exact WQ.cut [] l2 sub h
 ·intro l h;try dsimp only at h;unfold nomAlts_j1 at h;try dsimp only
  refine sr (lr2 rfl (nr ?_));refine WQ.publish 1005 rfl rfl ?_;cases h;exact rt tbOk hR
theorem nomScore_con {wg : World} (hw : WG wg) {b : YE} {e1 : YB} {words : (List Str)} {r : Int} (h : nomScore b e1 words = some r) : Con Tryz.prog wg gl 95 [.v (.agg (eF b)), .v (.agg (eC e1)), .v (.sl 1 (words.map eStr))] [] (iv r) [] := by
 unfold nomScore at h;refine cw Tryz.func95 Tryz.ntmps95 ?_;intro F L w ρ0 R hR;try dsimp only [zP1]
 refine sr (lr3 rfl (nn (WC.seq (sr (lr4 rfl ?_)))));revert h;refine zb fun v hvv h => ?_;refine WL.call0 fn88 rfl rfl rfl rfl tr rfl (nomExcluded_con hw hvv) ?_;refine nn ?_;revert h;refine ci (fun hc1 h => ?_) (fun hc1 h => ?_)
 ·refine sr (lr1 rfl (nr (WQ.thenRet ?_)));cases h;exact rt tbOk hR
 ·refine kn (sr (lr1 rfl (nn (WC.seq (sr (lr2 rfl ?_))))));revert h;refine zb fun v2 hvv2 h => ?_;refine WL.call0 fn111 rfl rfl rfl rfl tr rfl (nomAlts_con hw hvv2) ?_;refine WL.q [] rfl rfl rfl (q_ev tbOk (iv (v2.length : Int)) rfl tr lenT) ?_;refine lr1 rfl (nn ?_);refine WC.thenCut (X := Int) (fun gG => ⟨[(7, iv gG)], []⟩) (fun gG => nomScore_j1 gG = some r) ?_ ?_
  ·refine WC.block ?_;obtain ⟨eQ1, hl1, hk1⟩ := bnd h;clear h;refine WC.loop (σ := Int × Int) (τ := (Int)) (fun sS => ⟨[(19, iv sS.1), (18, iv (v2.length : Int)), (17, .v (.sl 1 (v2.map zH1))), (7, iv sS.2), (2, .v (.sl 1 (words.map eStr)))], []⟩) (nomScore_b1 words v2) [] ((0 : Int), (0 : Int)) hl1 sub ?_;rintro ⟨t19, score2⟩ m hn1 he1 hx1;obtain ⟨o1, hf1⟩ := zQ1 hx1;have h := hf1;unfold nomScore_b1 at h;try dsimp only
   refine sr (lr1 rfl (nn (WC.seq ?_)));revert h;refine ci (fun hc2 h => ?_) (fun hc2 h => ?_)
   ·refine kn (WC.seq ?_);refine WC.thenCut (X := Int) (fun gG => ⟨[(7, iv gG), (19, iv t19), (18, iv (v2.length : Int)), (17, .v (.sl 1 (v2.map zH1))), (2, .v (.sl 1 (words.map eStr)))], []⟩) (fun gG => nomScore_j2 words v2 t19 gG = some o1) ?_ ?_
    ·refine WC.block (sr ?_);obtain ⟨g1, h⟩ := grd h;revert h;refine zb fun x2 hxx2 h => ?_;refine WL.q [] rfl rfl rfl (q_idx tbOk rfl tr g1 (zM1 (f := zH1) hxx2)) ?_;refine lr2 rfl (ns (lr1 rfl ?_));refine WL.q [] rfl rfl rfl (q_ev tbOk (iv (x2.length : Int)) rfl tr lenT) ?_;refine lr 5 rfl sideR ?_;revert h;refine zb fun v4 hvv4 h => ?_;refine WL.gcall0 fn112 rfl rfl rfl rfl rfl (fun _ => sideR) rfl (fun hg => (subset_con hw (ite_t hg hvv4))) ?_;refine lr 1 rfl sideR ?_;refine nn ?_;revert h;refine ci (fun hc3 h => ?_) (fun hc3 h => ?_)
     ·refine WC.region (lr1 rfl ?_);refine WL.q [] rfl rfl rfl (q_ev tbOk (iv (x2.length : Int)) rfl tr lenT) ?_;refine lr1 rfl (WL.nil (WQ.blockNormal ?_));exact WQ.cut [] (x2.length : Int) sub h
     ·refine WC.skip (WQ.blockNormal ?_);exact WQ.cut [] score2 sub h
    ·intro score6 h;try dsimp only at h;unfold nomScore_j2 at h;try dsimp only
     refine WC.region (lr2 rfl (WL.nil ?_));cases h;exact WQ.next [] ((IntKind.i64.wrap (t19 + (1 : Int))), score6) sub (hn1 _ hf1)
   ·refine WC.exit (WQ.thenExit ?_);cases h;obtain rfl := he1 _ hf1;replace h := hk1;try dsimp only at h
    refine eb ?_;exact WQ.cut [] score2 sub h
  ·intro score h;try dsimp only at h;unfold nomScore_j1 at h;try dsimp only
   refine sr (lr2 rfl (nr ?_));cases h;exact rt tbOk hR
end Go.Proofs.YtaeplfiaahkgpaaGreatDoor
end zCc
noncomputable section zCg
set_option linter.unusedVariables false
set_option linter.unusedSimpArgs false
set_option maxHeartbeats 4000000
set_option maxRecDepth 20000
namespace Go.Proofs.YtaeplfiaahkgpaaGreatDoor
open Go.V Go.C
theorem refHas_con {wg : World} (hw : WG wg) {l : (List Str)} {s : Str} {r : Bool} (h : refHas l s = some r) : Con Tryz.prog wg gl 98 [.v (.sl 1 (l.map eStr)), tv s] [] (ov r) [] := by
 unfold refHas at h;refine cw Tryz.func98 Tryz.ntmps98 ?_;intro F L w ρ0 R hR;try dsimp only [zP1]
 refine sr (lr1 rfl (nn (WC.seq (sr (lr1 rfl (nn ?_))))));refine WC.thenCut (X := Unit) (fun gG => ⟨[], []⟩) (fun gG => refHas_j1  = some r) ?_ ?_
 ·refine WC.block ?_;obtain ⟨eQ1, hl1, hk1⟩ := bnd h;clear h;refine WC.loop (σ := Int) (τ := ((Bool) ⊕ (Unit))) (fun sS => ⟨[(5, iv sS), (0, .v (.sl 1 (l.map eStr))), (1, tv s)], []⟩) (refHas_b1 l s) [] (0 : Int) hl1 sub ?_;intro i m hn1 he1 hx1;obtain ⟨o1, hf1⟩ := zQ1 hx1;have h := hf1;unfold refHas_b1 at h;try dsimp only
  refine WC.seq (sr (lr2 rfl ?_));refine WL.q [] rfl rfl rfl (q_ev tbOk (iv (l.length : Int)) rfl tr lenT) ?_;refine lr1 rfl (nn ?_);revert h;refine ci (fun hc1 h => ?_) (fun hc1 h => ?_)
  ·refine kn (sb (sr (lr2 rfl ?_)));obtain ⟨g1, h⟩ := grd h;revert h;refine zb fun x2 hxx2 h => ?_;refine WL.q [] rfl rfl rfl (q_idx tbOk rfl tr g1 (zM1 (f := eStr) hxx2)) ?_;refine lr3 rfl (nn ?_);revert h;refine ci (fun hc2 h => ?_) (fun hc2 h => ?_)
   ·refine sr (lr1 rfl (nr (rb ?_)));cases h;obtain rfl := he1 _ hf1;have h : some true = some _ := hk1;refine WQ.thenRet (rb ?_);cases h;exact rt tbOk hR
   ·refine WC.skip (bn (WC.region (lr3 rfl (WL.nil ?_))));cases h;exact WQ.next [] (IntKind.i64.wrap (i + (1 : Int))) sub (hn1 _ hf1)
  ·refine WC.exit (WQ.thenExit ?_);cases h;obtain rfl := he1 _ hf1;replace h := hk1;try dsimp only at h
   refine eb ?_;exact WQ.cut [] () sub h
 ·intro _ h;try dsimp only at h;unfold refHas_j1 at h;try dsimp only
  refine sr (lr1 rfl (nr ?_));cases h;exact rt tbOk hR
theorem refSubset_con {wg : World} (hw : WG wg) {a : (List Str)} {b : (List Str)} {r : Bool} (h : refSubset a b = some r) : Con Tryz.prog wg gl 142 [.v (.sl 1 (a.map eStr)), .v (.sl 1 (b.map eStr))] [] (ov r) [] := by
 unfold refSubset at h;refine cw Tryz.func142 Tryz.ntmps142 ?_;intro F L w ρ0 R hR;try dsimp only [zP1]
 refine sr (lr1 rfl (nn (WC.seq (sr (lr1 rfl (nn ?_))))));refine WC.thenCut (X := Unit) (fun gG => ⟨[], []⟩) (fun gG => refSubset_j1  = some r) ?_ ?_
 ·refine WC.block ?_;obtain ⟨eQ1, hl1, hk1⟩ := bnd h;clear h;refine WC.loop (σ := Int) (τ := ((Bool) ⊕ (Unit))) (fun sS => ⟨[(5, iv sS), (0, .v (.sl 1 (a.map eStr))), (1, .v (.sl 1 (b.map eStr)))], []⟩) (refSubset_b1 a b) [] (0 : Int) hl1 sub ?_;intro i m hn1 he1 hx1;obtain ⟨o1, hf1⟩ := zQ1 hx1;have h := hf1;unfold refSubset_b1 at h;try dsimp only
  refine WC.seq (sr (lr2 rfl ?_));refine WL.q [] rfl rfl rfl (q_ev tbOk (iv (a.length : Int)) rfl tr lenT) ?_;refine lr1 rfl (nn ?_);revert h;refine ci (fun hc1 h => ?_) (fun hc1 h => ?_)
  ·refine kn (sb (sr (lr3 rfl ?_)));obtain ⟨g1, h⟩ := grd h;revert h;refine zb fun x2 hxx2 h => ?_;refine WL.q [] rfl rfl rfl (q_idx tbOk rfl tr g1 (zM1 (f := eStr) hxx2)) ?_;refine lr1 rfl ?_;revert h;refine zb fun v2 hvv2 h => ?_;refine WL.call0 fn98 rfl rfl rfl rfl tr rfl (refHas_con hw hvv2) ?_;refine lr1 rfl (nn ?_);revert h;refine ci (fun hc2 h => ?_) (fun hc2 h => ?_)
   ·refine sr (lr1 rfl (nr (rb ?_)));cases h;obtain rfl := he1 _ hf1;have h : some false = some _ := hk1;refine WQ.thenRet (rb ?_);cases h;exact rt tbOk hR
   ·refine WC.skip (bn (WC.region (lr3 rfl (WL.nil ?_))));cases h;exact WQ.next [] (IntKind.i64.wrap (i + (1 : Int))) sub (hn1 _ hf1)
  ·refine WC.exit (WQ.thenExit ?_);cases h;obtain rfl := he1 _ hf1;replace h := hk1;try dsimp only at h
   refine eb ?_;exact WQ.cut [] () sub h
 ·intro _ h;try dsimp only at h;unfold refSubset_j1 at h;try dsimp only
  refine sr (lr1 rfl (nr ?_));cases h;exact rt tbOk hR
theorem refWith_con {wg : World} (hw : WG wg) {l : (List Str)} {s : Str} {r : (List Str)} (h : refWith l s = some r) : Con Tryz.prog wg gl 128 [.v (.sl 1 (l.map eStr)), tv s] [] (.v (.sl 1 (r.map eStr))) [] := by
 unfold refWith at h;refine cw Tryz.func128 Tryz.ntmps128 ?_;intro F L w ρ0 R hR;try dsimp only [zP1]
 refine sr (lr1 rfl (ns (lr1 rfl (nn (WC.seq ?_)))));refine WC.thenCut (X := Int) (fun gG => ⟨[(5, iv gG), (0, .v (.sl 1 (l.map eStr))), (1, tv s)], []⟩) (fun gG => refWith_j1 l s gG = some r) ?_ ?_
 ·refine WC.block ?_;obtain ⟨eQ1, hl1, hk1⟩ := bnd h;clear h;refine WC.loop (σ := Int) (τ := (Int)) (fun sS => ⟨[(5, iv sS), (0, .v (.sl 1 (l.map eStr))), (1, tv s)], []⟩) (refWith_b1 l s) [] (0 : Int) hl1 sub ?_;intro k2 m hn1 he1 hx1;obtain ⟨o1, hf1⟩ := zQ1 hx1;have h := hf1;unfold refWith_b1 at h;try dsimp only
  refine WC.seq (sr (lr2 rfl ?_));refine WL.q [] rfl rfl rfl (q_ev tbOk (iv (l.length : Int)) rfl tr lenT) ?_;refine lr 4 rfl sideR ?_;obtain ⟨g7, h⟩ := grd h;refine WL.gq [] rfl rfl rfl rfl (fun hg => q_idx tbOk rfl sideR (g7 hg).1 (map_getD (f := eStr) (g7 hg).2 (g7 hg).1)) ?_;refine lr 4 rfl sideR ?_;refine nn ?_;revert h;refine ci (fun hc2 h => ?_) (fun hc2 h => ?_)
  ·refine kn (WC.block (WC.region (lr3 rfl (WL.nil (WQ.blockNormal ?_)))));cases h;exact WQ.next [] (IntKind.i64.wrap (k2 + (1 : Int))) sub (hn1 _ hf1)
  ·refine WC.exit (WQ.thenExit ?_);cases h;obtain rfl := he1 _ hf1;replace h := hk1;try dsimp only at h
   refine eb ?_;exact WQ.cut [] k2 sub h
 ·intro k h;try dsimp only at h;unfold refWith_j1 at h;try dsimp only
  refine WC.seq (sr (lr2 rfl ?_));refine WL.q [] rfl rfl rfl (q_ev tbOk (iv (l.length : Int)) rfl tr lenT) ?_;refine lr 4 rfl sideR ?_;obtain ⟨g1, h⟩ := grd h;refine WL.gq [] rfl rfl rfl rfl (fun hg => q_idx tbOk rfl sideR (g1 hg).1 (map_getD (f := eStr) (g1 hg).2 (g1 hg).1)) ?_;refine lr 4 rfl sideR ?_;refine nn ?_;revert h;refine ci (fun hc1 h => ?_) (fun hc1 h => ?_)
  ·refine sr (lr2 rfl (nr (WQ.thenRet ?_)));cases h;exact rt tbOk hR
  ·refine kn (WC.seq (WC.order mixed ?_));refine WR.buildRow tbOk (([] : (List Str)).map eStr) rfl rfl rfl rfl tr rfl rfl ?_;refine wr 2 rfl trivial ?_;obtain ⟨g2, h⟩ := grd h;refine WR.q [] rfl rfl rfl (q_ev tbOk (.v (.sl 1 (((l.take k.toNat).drop (0 : Int).toNat).map eStr))) rfl sideR tdT) ?_;obtain ⟨g3, h⟩ := grd h;refine WR.append tbOk (((l.take k.toNat).drop (0 : Int).toNat).map eStr) [37, 33] ap28 rfl rfl rfl rfl ce tr (zL1 (f := eStr) (xs := ((l.take k.toNat).drop (0 : Int).toNat)) fun _ => rfl) (al g3) rfl rfl rfl rfl rfl ?_;refine wr 2 rfl trivial ?_;obtain ⟨g4, h⟩ := grd h;refine WR.append tbOk ((((l.take k.toNat).drop (0 : Int).toNat) ++ [s]).map eStr) [40, 37] ap28 rfl rfl rfl rfl ce tr (zL1 (f := eStr) (xs := [s]) fun _ => rfl) (al g4) rfl rfl ma rfl rfl ?_;refine wr 2 rfl trivial ?_;obtain ⟨g5, h⟩ := grd h;refine WR.q [] rfl rfl rfl (q_ev tbOk (.v (.sl 1 ((l.drop k.toNat).map eStr))) rfl sideR tdT) ?_;obtain ⟨g6, h⟩ := grd h;refine WR.append tbOk (((((l.take k.toNat).drop (0 : Int).toNat) ++ [s]) ++ (l.drop k.toNat)).map eStr) [44, 40] ap28 rfl rfl rfl rfl ce tr (zL1 (f := eStr) (xs := (l.drop k.toNat)) fun _ => rfl) (al g6) rfl rfl ma rfl rfl ?_;refine wr 1 rfl trivial ?_;refine WR.nil (by kernel_rfl) (WQ.thenNormal (WC.ret ?_));refine WQ.publish 44 rfl rfl ?_;cases h;exact rt tbOk hR
theorem refUnion_con {wg : World} (hw : WG wg) {a : (List Str)} {b : (List Str)} {r : (List Str)} (h : refUnion a b = some r) : Con Tryz.prog wg gl 129 [.v (.sl 1 (a.map eStr)), .v (.sl 1 (b.map eStr))] [] (.v (.sl 1 (r.map eStr))) [] := by
 unfold refUnion at h;refine cw Tryz.func129 Tryz.ntmps129 ?_;intro F L w ρ0 R hR;try dsimp only [zP1]
 refine sr (lr1 rfl (ns (lr1 rfl (nn (WC.seq (sr (lr1 rfl (nn ?_))))))));refine WC.thenCut (X := (List Str)) (fun gG => ⟨[(5, .v (.sl 1 (gG.map eStr))), (1, .v (.sl 1 (b.map eStr)))], []⟩) (fun gG => refUnion_j1 b gG = some r) ?_ ?_
 ·refine WC.block ?_;obtain ⟨eQ2, hl2, hk2⟩ := bnd h;clear h;refine WC.weaken 5 (.v (.sl 1 [])) rfl (Le.nil 1) ?_;refine WC.loop (σ := Int × (List Str)) (τ := ((List Str))) (fun sS => ⟨[(6, iv sS.1), (5, .v (.sl 1 (sS.2.map eStr))), (0, .v (.sl 1 (a.map eStr))), (1, .v (.sl 1 (b.map eStr)))], []⟩) (refUnion_b2 a b) [] ((0 : Int), []) hl2 sub ?_;rintro ⟨i4, out6⟩ m hn2 he2 hx2;obtain ⟨o2, hf2⟩ := zQ1 hx2;have h := hf2;unfold refUnion_b2 at h;try dsimp only
  refine WC.seq (sr (lr2 rfl ?_));refine WL.q [] rfl rfl rfl (q_ev tbOk (iv (a.length : Int)) rfl tr lenT) ?_;refine lr1 rfl (nn ?_);revert h;refine ci (fun hc2 h => ?_) (fun hc2 h => ?_)
  ·refine kn (sb (WC.region (lr3 rfl ?_)));obtain ⟨g2, h⟩ := grd h;revert h;refine zb fun x5 hxx5 h => ?_;refine WL.q [] rfl rfl rfl (q_idx tbOk rfl tr g2 (zM1 (f := eStr) hxx5)) ?_;refine lr1 rfl ?_;revert h;refine zb fun v5 hvv5 h => ?_;refine WL.call0 fn128 rfl rfl rfl rfl tr rfl (refWith_con hw hvv5) ?_;refine lr1 rfl (WL.nil (bn (WC.region (lr3 rfl (WL.nil ?_)))));cases h;exact WQ.next [] ((IntKind.i64.wrap (i4 + (1 : Int))), v5) sub (hn2 _ hf2)
  ·refine WC.exit (WQ.thenExit ?_);cases h;obtain rfl := he2 _ hf2;replace h := hk2;try dsimp only at h
   refine eb ?_;exact WQ.cut [] out6 sub h
 ·intro out h;try dsimp only at h;unfold refUnion_j1 at h;try dsimp only
  refine WC.seq (sr (lr1 rfl (nn ?_)));refine WC.thenCut (X := (List Str)) (fun gG => ⟨[(5, .v (.sl 1 (gG.map eStr)))], []⟩) (fun gG => refUnion_j2 gG = some r) ?_ ?_
  ·refine WC.block ?_;obtain ⟨eQ1, hl1, hk1⟩ := bnd h;clear h;refine WC.loop (σ := Int × (List Str)) (τ := ((List Str))) (fun sS => ⟨[(7, iv sS.1), (5, .v (.sl 1 (sS.2.map eStr))), (1, .v (.sl 1 (b.map eStr)))], []⟩) (refUnion_b1 b) [] ((0 : Int), out) hl1 sub ?_;rintro ⟨i, out3⟩ m hn1 he1 hx1;obtain ⟨o1, hf1⟩ := zQ1 hx1;have h := hf1;unfold refUnion_b1 at h;try dsimp only
   refine WC.seq (sr (lr2 rfl ?_));refine WL.q [] rfl rfl rfl (q_ev tbOk (iv (b.length : Int)) rfl tr lenT) ?_;refine lr1 rfl (nn ?_);revert h;refine ci (fun hc1 h => ?_) (fun hc1 h => ?_)
   ·refine kn (sb (WC.region (lr3 rfl ?_)));obtain ⟨g1, h⟩ := grd h;revert h;refine zb fun x2 hxx2 h => ?_;refine WL.q [] rfl rfl rfl (q_idx tbOk rfl tr g1 (zM1 (f := eStr) hxx2)) ?_;refine lr1 rfl ?_;revert h;refine zb fun v2 hvv2 h => ?_;refine WL.call0 fn128 rfl rfl rfl rfl tr rfl (refWith_con hw hvv2) ?_;refine lr1 rfl (WL.nil (bn (WC.region (lr3 rfl (WL.nil ?_)))));cases h;exact WQ.next [] ((IntKind.i64.wrap (i + (1 : Int))), v2) sub (hn1 _ hf1)
   ·refine WC.exit (WQ.thenExit ?_);cases h;obtain rfl := he1 _ hf1;replace h := hk1;try dsimp only at h
    refine eb ?_;exact WQ.cut [] out3 sub h
  ·intro out2 h;try dsimp only at h;unfold refUnion_j2 at h;try dsimp only
   refine sr (lr2 rfl (nr ?_));cases h;exact rt tbOk hR
theorem sameStrings_con {wg : World} (hw : WG wg) {a : (List Str)} {b : (List Str)} {r : Bool} (h : sameStrings a b = some r) : Con Tryz.prog wg gl 85 [.v (.sl 1 (a.map eStr)), .v (.sl 1 (b.map eStr))] [] (ov r) [] := by
 unfold sameStrings at h;refine cw Tryz.func85 Tryz.ntmps85 ?_;intro F L w ρ0 R hR;try dsimp only [zP1]
 refine sr (lr1 rfl (nn (WC.seq (sr (lr1 rfl ?_)))));refine WL.q [] rfl rfl rfl (q_ev tbOk (iv (a.length : Int)) rfl tr lenT) ?_;refine lr1 rfl ?_;refine WL.q [] rfl rfl rfl (q_ev tbOk (iv (b.length : Int)) rfl tr lenT) ?_;refine lr1 rfl (nn ?_);revert h;refine ci (fun hc1 h => ?_) (fun hc1 h => ?_)
 ·refine sr (lr1 rfl (nr (WQ.thenRet ?_)));cases h;exact rt tbOk hR
 ·refine kn (WC.seq (sr (lr1 rfl (nn ?_))));refine WC.thenCut (X := Unit) (fun gG => ⟨[], []⟩) (fun gG => sameStrings_j1  = some r) ?_ ?_
  ·refine WC.block ?_;obtain ⟨eQ1, hl1, hk1⟩ := bnd h;clear h;refine WC.loop (σ := Int) (τ := ((Bool) ⊕ (Unit))) (fun sS => ⟨[(5, iv sS), (0, .v (.sl 1 (a.map eStr))), (1, .v (.sl 1 (b.map eStr)))], []⟩) (sameStrings_b1 a b) [] (0 : Int) hl1 sub ?_;intro i m hn1 he1 hx1;obtain ⟨o1, hf1⟩ := zQ1 hx1;have h := hf1;unfold sameStrings_b1 at h;try dsimp only
   refine WC.seq (sr (lr2 rfl ?_));refine WL.q [] rfl rfl rfl (q_ev tbOk (iv (a.length : Int)) rfl tr lenT) ?_;refine lr1 rfl (nn ?_);revert h;refine ci (fun hc2 h => ?_) (fun hc2 h => ?_)
   ·refine kn (sb (WC.seq (WC.order mixed ?_)));refine wr 2 rfl trivial ?_;obtain ⟨g1, h⟩ := grd h;revert h;refine zb fun x3 hxx3 h => ?_;refine WR.q [] rfl rfl rfl (q_idx tbOk rfl tr g1 (zM1 (f := eStr) hxx3)) ?_;refine wr 3 rfl trivial ?_;obtain ⟨g2, h⟩ := grd h;revert h;refine zb fun x4 hxx4 h => ?_;refine WR.q [] rfl rfl rfl (q_idx tbOk rfl tr g2 (zM1 (f := eStr) hxx4)) ?_;refine wr 2 rfl trivial ?_;refine WR.nil (by kernel_rfl) (WQ.thenNormal ?_);revert h;refine ci (fun hc3 h => ?_) (fun hc3 h => ?_)
    ·refine sr (lr1 rfl (nr (rb ?_)));cases h;obtain rfl := he1 _ hf1;have h : some false = some _ := hk1;refine WQ.thenRet (rb ?_);cases h;exact rt tbOk hR
    ·refine WC.skip (bn (WC.region (lr3 rfl (WL.nil ?_))));cases h;exact WQ.next [] (IntKind.i64.wrap (i + (1 : Int))) sub (hn1 _ hf1)
   ·refine WC.exit (WQ.thenExit ?_);cases h;obtain rfl := he1 _ hf1;replace h := hk1;try dsimp only at h
    refine eb ?_;exact WQ.cut [] () sub h
  ·intro _ h;try dsimp only at h;unfold sameStrings_j1 at h;try dsimp only
   refine sr (lr1 rfl (nr ?_));cases h;exact rt tbOk hR
theorem refPrefix_con {wg : World} (hw : WG wg) {code : Str} {p : Str} {r : Bool} (h : refPrefix code p = some r) : Con Tryz.prog wg gl 127 [tv code, tv p] [] (ov r) [] := by
 unfold refPrefix at h;refine cw Tryz.func127 Tryz.ntmps127 ?_;intro F L w ρ0 R hR;try dsimp only [zP1]
 refine sr (lr1 rfl (ns ?_));obtain ⟨g1, h⟩ := grd h;refine lr 14 rfl (by repeat' (first | exact trivial | assumption | intro _ | exact g1 (by assumption) | apply And.intro | exact sideT | (refine and_i ?_ ?_))) ?_;refine nr ?_;cases h;exact rt tbOk hR
theorem refAt_con {wg : World} (hw : WG wg) {b : YE} {day : Int} {r : (List YB)} (h : refAt b day = some r) : Con Tryz.prog wg gl 96 [.v (.agg (eF b)), iv day] [] (.v (.sl 5 (r.map eC))) [] := by
 unfold refAt at h;refine cw Tryz.func96 Tryz.ntmps96 ?_;intro F L w ρ0 R hR;try dsimp only [zP1]
 refine sr (lr2 rfl (ns (lr1 rfl (nn (WC.seq (sr (lr1 rfl (nn ?_))))))));refine WC.thenCut (X := (List YB)) (fun gG => ⟨[(5, .r 1005)], [(1005, .row 53 5 (gG.map eC))]⟩) (fun gG => refAt_j1 gG = some r) ?_ ?_
 ·refine WC.block ?_;obtain ⟨eQ1, hl1, hk1⟩ := bnd h;clear h;refine WC.rowNil 5 1005 53 5 rfl rfl ?_;refine WC.loop (σ := Int × (List YB)) (τ := ((List YB))) (fun sS => ⟨[(6, iv sS.1), (5, .r 1005), (2, .p 2 0), (1, iv day)], [(1005, .row 53 5 (sS.2.map eC)), (2, .blk 26 (kv (eF b)))]⟩) (refAt_b1 b day) [] ((0 : Int), []) hl1 sub ?_;rintro ⟨i2, out3⟩ m hn1 he1 hx1;obtain ⟨o1, hf1⟩ := zQ1 hx1;have h := hf1;unfold refAt_b1 at h;try dsimp only
  refine WC.seq (sr (lr3 rfl ?_));refine WL.q [] rfl rfl rfl (q_ev tbOk (iv (b.Entries.length : Int)) rfl tr lenT) ?_;refine lr1 rfl (nn ?_);revert h;refine ci (fun hc1 h => ?_) (fun hc1 h => ?_)
  ·refine kn (WC.seq ?_);refine WC.thenCut (X := (List YB)) (fun gG => ⟨[(5, .r 1005), (6, iv i2), (2, .p 2 0), (1, iv day)], [(1005, .row 53 5 (gG.map eC)), (2, .blk 26 (kv (eF b)))]⟩) (fun gG => refAt_j2 b day i2 gG = some o1) ?_ ?_
   ·refine WC.block (sr (lr3 rfl ?_));obtain ⟨g1, h⟩ := grd h;revert h;refine zb fun x5 hxx5 h => ?_;refine WL.q [] rfl rfl rfl (q_idx tbOk rfl tr g1 (zM1 (f := eC) hxx5)) ?_;refine lr 9 rfl sideR ?_;obtain ⟨g2, h⟩ := grd h;refine WL.gq [] rfl rfl rfl rfl (fun hg => q_idx tbOk rfl sideR (g2 hg).1 (map_getD (f := eC) (g2 hg).2 (g2 hg).1)) ?_;refine lr 4 rfl sideR ?_;refine nn ?_;revert h;refine ci (fun hc2 h => ?_) (fun hc2 h => ?_)
    ·refine WC.region (lr4 rfl ?_);obtain ⟨g3, h⟩ := grd h;revert h;refine zb fun x6 hxx6 h => ?_;refine WL.q [] rfl rfl rfl (q_idx tbOk rfl tr g3 (zM1 (f := eC) hxx6)) ?_;refine lr2 rfl ?_;obtain ⟨g4, h⟩ := grd h;refine WL.append tbOk ((out3 ++ [x6]).map eC) [39, 1005] ap23 rfl rfl rfl rfl ce tr (zL1 (f := eC) (xs := [x6]) fun _ => rfl) (al g4) rfl rfl ma rfl ?_;refine lr1 rfl (WL.nil (WQ.blockNormal ?_));exact WQ.cut [(1005, 39)] (out3 ++ [x6]) sub h
    ·refine WC.skip (WQ.blockNormal ?_);exact WQ.cut [] out3 sub h
   ·intro out6 h;try dsimp only at h;unfold refAt_j2 at h;try dsimp only
    refine WC.region (lr3 rfl (WL.nil ?_));cases h;exact WQ.next [] ((IntKind.i64.wrap (i2 + (1 : Int))), out6) sub (hn1 _ hf1)
  ·refine WC.exit (WQ.thenExit ?_);cases h;obtain rfl := he1 _ hf1;replace h := hk1;try dsimp only at h
   refine eb ?_;exact WQ.cut [] out3 sub h
 ·intro out h;try dsimp only at h;unfold refAt_j1 at h;try dsimp only
  refine sr (lr2 rfl (nr ?_));refine WQ.publish 1005 rfl rfl ?_;cases h;exact rt tbOk hR
theorem refBelow_con {wg : World} (hw : WG wg) {b : YE} {day : Int} {code : Str} {r : (List YB)} (h : refBelow b day code = some r) : Con Tryz.prog wg gl 80 [.v (.agg (eF b)), iv day, tv code] [] (.v (.sl 5 (r.map eC))) [] := by
 unfold refBelow at h;refine cw Tryz.func80 Tryz.ntmps80 ?_;intro F L w ρ0 R hR;try dsimp only [zP1]
 refine sr (lr2 rfl (ns (lr1 rfl (ns (lr2 rfl ?_)))));revert h;refine zb fun v hvv h => ?_;refine WL.call0 fn96 rfl rfl rfl rfl tr rfl (refAt_con hw hvv) ?_;refine lr1 rfl (nn (WC.seq (sr (lr1 rfl (nn ?_)))));refine WC.thenCut (X := (List YB)) (fun gG => ⟨[(7, .r 1007)], [(1007, .row 53 5 (gG.map eC))]⟩) (fun gG => refBelow_j1 gG = some r) ?_ ?_
 ·refine WC.block ?_;obtain ⟨eQ1, hl1, hk1⟩ := bnd h;clear h;refine WC.rowNil 7 1007 53 5 rfl rfl ?_;refine WC.loop (σ := Int × (List YB)) (τ := ((List YB))) (fun sS => ⟨[(9, iv sS.1), (8, .v (.sl 5 (v.map eC))), (7, .r 1007), (2, tv code)], [(1007, .row 53 5 (sS.2.map eC))]⟩) (refBelow_b1 code v) [] ((0 : Int), []) hl1 sub ?_;rintro ⟨i2, out3⟩ m hn1 he1 hx1;obtain ⟨o1, hf1⟩ := zQ1 hx1;have h := hf1;unfold refBelow_b1 at h;try dsimp only
  refine WC.seq (sr (lr2 rfl ?_));refine WL.q [] rfl rfl rfl (q_ev tbOk (iv (v.length : Int)) rfl tr lenT) ?_;refine lr1 rfl (nn ?_);revert h;refine ci (fun hc1 h => ?_) (fun hc1 h => ?_)
  ·refine kn (WC.seq ?_);refine WC.thenCut (X := (List YB)) (fun gG => ⟨[(7, .r 1007), (9, iv i2), (8, .v (.sl 5 (v.map eC))), (2, tv code)], [(1007, .row 53 5 (gG.map eC))]⟩) (fun gG => refBelow_j2 code v i2 gG = some o1) ?_ ?_
   ·refine WC.block (sr (lr2 rfl ?_));obtain ⟨g1, h⟩ := grd h;revert h;refine zb fun x5 hxx5 h => ?_;refine WL.q [] rfl rfl rfl (q_idx tbOk rfl tr g1 (zM1 (f := eC) hxx5)) ?_;refine lr4 rfl (ns ?_);refine lr 19 rfl sideR ?_;obtain ⟨g2, h⟩ := grd h;refine WL.gq [] rfl rfl rfl rfl (fun hg => q_idx tbOk rfl sideR (g2 hg).1 (map_getD (f := eC) (g2 hg).2 (g2 hg).1)) ?_;refine lr 3 rfl sideR ?_;revert h;refine zb fun v4 hvv4 h => ?_;refine WL.gcall0 fn127 rfl rfl rfl rfl rfl (fun _ => sideR) rfl (fun hg => (refPrefix_con hw (ite_t hg hvv4))) ?_;refine lr 2 rfl sideR ?_;refine nn ?_;revert h;refine ci (fun hc2 h => ?_) (fun hc2 h => ?_)
    ·refine WC.region (lr3 rfl ?_);obtain ⟨g3, h⟩ := grd h;revert h;refine zb fun x6 hxx6 h => ?_;refine WL.q [] rfl rfl rfl (q_idx tbOk rfl tr g3 (zM1 (f := eC) hxx6)) ?_;refine lr2 rfl ?_;obtain ⟨g4, h⟩ := grd h;refine WL.append tbOk ((out3 ++ [x6]).map eC) [58, 1007] ap23 rfl rfl rfl rfl ce tr (zL1 (f := eC) (xs := [x6]) fun _ => rfl) (al g4) rfl rfl ma rfl ?_;refine lr1 rfl (WL.nil (WQ.blockNormal ?_));exact WQ.cut [(1007, 58)] (out3 ++ [x6]) sub h
    ·refine WC.skip (WQ.blockNormal ?_);exact WQ.cut [] out3 sub h
   ·intro out6 h;try dsimp only at h;unfold refBelow_j2 at h;try dsimp only
    refine WC.region (lr3 rfl (WL.nil ?_));cases h;exact WQ.next [] ((IntKind.i64.wrap (i2 + (1 : Int))), out6) sub (hn1 _ hf1)
  ·refine WC.exit (WQ.thenExit ?_);cases h;obtain rfl := he1 _ hf1;replace h := hk1;try dsimp only at h
   refine eb ?_;exact WQ.cut [] out3 sub h
 ·intro out h;try dsimp only at h;unfold refBelow_j1 at h;try dsimp only
  refine sr (lr2 rfl (nr ?_));refine WQ.publish 1007 rfl rfl ?_;cases h;exact rt tbOk hR
theorem refExcluded_con {wg : World} (hw : WG wg) {b : YE} {code : Str} {words : (List Str)} {r : Bool} (h : refExcluded b code words = some r) : Con Tryz.prog wg gl 97 [.v (.agg (eF b)), tv code, .v (.sl 1 (words.map eStr))] [] (ov r) [] := by
 unfold refExcluded at h;refine cw Tryz.func97 Tryz.ntmps97 ?_;intro F L w ρ0 R hR;try dsimp only [zP1]
 refine sr (lr2 rfl (nn (WC.seq (sr (lr1 rfl (nn ?_))))));refine WC.thenCut (X := Unit) (fun gG => ⟨[], []⟩) (fun gG => refExcluded_j1  = some r) ?_ ?_
 ·refine WC.block ?_;obtain ⟨eQ1, hl1, hk1⟩ := bnd h;clear h;refine WC.loop (σ := Int) (τ := ((Bool) ⊕ (Unit))) (fun sS => ⟨[(7, iv sS), (3, .p 3 0), (1, tv code), (2, .v (.sl 1 (words.map eStr)))], [(3, .blk 26 (kv (eF b)))]⟩) (refExcluded_b1 b code words) [] (0 : Int) hl1 sub ?_;intro i m hn1 he1 hx1;obtain ⟨o1, hf1⟩ := zQ1 hx1;have h := hf1;unfold refExcluded_b1 at h;try dsimp only
  refine WC.seq (sr (lr3 rfl ?_));refine WL.q [] rfl rfl rfl (q_ev tbOk (iv (b.Notes.length : Int)) rfl tr lenT) ?_;refine lr1 rfl (nn ?_);revert h;refine ci (fun hc1 h => ?_) (fun hc1 h => ?_)
  ·refine kn (sb (sr (lr4 rfl ?_)));obtain ⟨g1, h⟩ := grd h;revert h;refine zb fun x2 hxx2 h => ?_;refine WL.q [] rfl rfl rfl (q_idx tbOk rfl tr g1 (zM1 (f := eX) hxx2)) ?_;refine lr2 rfl ?_;revert h;refine zb fun v3 hvv3 h => ?_;refine WL.call0 fn127 rfl rfl rfl rfl tr rfl (refPrefix_con hw hvv3) ?_;refine lr 4 rfl sideR ?_;obtain ⟨g2, h⟩ := grd h;refine WL.gq [] rfl rfl rfl rfl (fun hg => q_idx tbOk rfl sideR (g2 hg).1 (map_getD (f := eX) (g2 hg).2 (g2 hg).1)) ?_;refine lr 3 rfl sideR ?_;revert h;refine zb fun v4 hvv4 h => ?_;refine WL.gcall0 fn142 rfl rfl rfl rfl rfl (fun _ => sideR) rfl (fun hg => (refSubset_con hw (ite_t hg hvv4))) ?_;refine lr 1 rfl sideR ?_;refine nn ?_;revert h;refine ci (fun hc2 h => ?_) (fun hc2 h => ?_)
   ·refine sr (lr1 rfl (nr (rb ?_)));cases h;obtain rfl := he1 _ hf1;have h : some true = some _ := hk1;refine WQ.thenRet (rb ?_);cases h;exact rt tbOk hR
   ·refine WC.skip (bn (WC.region (lr3 rfl (WL.nil ?_))));cases h;exact WQ.next [] (IntKind.i64.wrap (i + (1 : Int))) sub (hn1 _ hf1)
  ·refine WC.exit (WQ.thenExit ?_);cases h;obtain rfl := he1 _ hf1;replace h := hk1;try dsimp only at h
   refine eb ?_;exact WQ.cut [] () sub h
 ·intro _ h;try dsimp only at h;unfold refExcluded_j1 at h;try dsimp only
  refine sr (lr1 rfl (nr ?_));cases h;exact rt tbOk hR
theorem refAlts_con {wg : World} (hw : WG wg) {b : YE} {x : YB} {r : (List (List Str))} (h : refAlts b x = some r) : Con Tryz.prog wg gl 130 [.v (.agg (eF b)), .v (.agg (eC x))] [] (.v (.sl 1 (r.map zH1))) [] := by
 unfold refAlts at h;refine cw Tryz.func130 Tryz.ntmps130 ?_;intro F L w ρ0 R hR;try dsimp only [zP1]
 refine sr (lr3 rfl (ns ?_));refine WL.buildRow tbOk (([] : (List (List Str))).map zH1) rfl rfl rfl rfl tr rfl rfl ?_;refine lr2 rfl ?_;obtain ⟨g1, h⟩ := grd h;refine WL.append tbOk (x.Terms.map zH1) [10, 7] ap51 rfl rfl rfl rfl ce tr (zL1 (f := zH1) (xs := x.Terms) fun _ => rfl) (al g1) rfl rfl rfl rfl ?_;refine lr1 rfl (nn (WC.seq (sr (lr1 rfl (nn ?_)))));refine WC.thenCut (X := (List (List Str))) (fun gG => ⟨[(5, .r 1005)], [(1005, .row 28 1 (gG.map zH1))]⟩) (fun gG => refAlts_j1 gG = some r) ?_ ?_
 ·refine WC.block ?_;obtain ⟨eQ1, hl1, hk1⟩ := bnd h;clear h;refine WC.loop (σ := Int × (List (List Str))) (τ := ((List (List Str)))) (fun sS => ⟨[(6, iv sS.1), (5, .r 1005), (3, .p 3 0), (2, .p 2 0)], [(1005, .row 28 1 (sS.2.map zH1)), (2, .blk 26 (kv (eF b))), (3, .blk 53 (kv (eC x)))]⟩) (refAlts_b1 b x) [(1005, 10)] ((0 : Int), x.Terms) hl1 sub ?_;rintro ⟨i, out2⟩ m hn1 he1 hx1;obtain ⟨o1, hf1⟩ := zQ1 hx1;have h := hf1;unfold refAlts_b1 at h;try dsimp only
  refine WC.seq (sr (lr3 rfl ?_));refine WL.q [] rfl rfl rfl (q_ev tbOk (iv (b.Notes.length : Int)) rfl tr lenT) ?_;refine lr1 rfl (nn ?_);revert h;refine ci (fun hc1 h => ?_) (fun hc1 h => ?_)
  ·refine kn (WC.seq ?_);refine WC.thenCut (X := (List (List Str))) (fun gG => ⟨[(5, .r 1005), (6, iv i), (3, .p 3 0), (2, .p 2 0)], [(1005, .row 28 1 (gG.map zH1)), (2, .blk 26 (kv (eF b))), (3, .blk 53 (kv (eC x)))]⟩) (fun gG => refAlts_j2 b x i gG = some o1) ?_ ?_
   ·refine WC.block (WC.seq (WC.order mixed ?_));refine wr 3 rfl trivial ?_;obtain ⟨g2, h⟩ := grd h;revert h;refine zb fun x4 hxx4 h => ?_;refine WR.q [] rfl rfl rfl (q_idx tbOk rfl tr g2 (zM1 (f := eX) hxx4)) ?_;refine wr 5 rfl trivial ?_;refine WR.nil (by kernel_rfl) (WQ.thenNormal ?_);revert h;refine ci (fun hc2 h => ?_) (fun hc2 h => ?_)
    ·refine WC.region (lr4 rfl ?_);obtain ⟨g3, h⟩ := grd h;revert h;refine zb fun x5 hxx5 h => ?_;refine WL.q [] rfl rfl rfl (q_idx tbOk rfl tr g3 (zM1 (f := eX) hxx5)) ?_;refine lr3 rfl ?_;obtain ⟨g4, h⟩ := grd h;refine WL.append tbOk ((out2 ++ [x5.Words]).map zH1) [35, 1005] ap51 rfl rfl rfl rfl ce tr (zL1 (f := zH1) (xs := [x5.Words]) fun _ => rfl) (al g4) rfl rfl ma rfl ?_;refine lr1 rfl (WL.nil (WQ.blockNormal ?_));exact WQ.cut [(1005, 35)] (out2 ++ [x5.Words]) sub h
    ·refine WC.skip (WQ.blockNormal ?_);exact WQ.cut [] out2 sub h
   ·intro out6 h;try dsimp only at h;unfold refAlts_j2 at h;try dsimp only
    refine WC.region (lr3 rfl (WL.nil ?_));cases h;exact WQ.next [] ((IntKind.i64.wrap (i + (1 : Int))), out6) sub (hn1 _ hf1)
  ·refine WC.exit (WQ.thenExit ?_);cases h;obtain rfl := he1 _ hf1;replace h := hk1;try dsimp only at h
   refine eb ?_;exact WQ.cut [] out2 sub h
 ·intro out h;try dsimp only at h;unfold refAlts_j1 at h;try dsimp only
  refine sr (lr2 rfl (nr ?_));refine WQ.publish 1005 rfl rfl ?_;cases h;exact rt tbOk hR
theorem refScore_con {wg : World} (hw : WG wg) {b : YE} {x : YB} {words : (List Str)} {r : Int} (h : refScore b x words = some r) : Con Tryz.prog wg gl 133 [.v (.agg (eF b)), .v (.agg (eC x)), .v (.sl 1 (words.map eStr))] [] (iv r) [] := by
 unfold refScore at h;refine cw Tryz.func133 Tryz.ntmps133 ?_;intro F L w ρ0 R hR;try dsimp only [zP1]
 refine sr (lr3 rfl (ns (lr1 rfl (nn (WC.seq (sr (lr4 rfl ?_)))))));revert h;refine zb fun v hvv h => ?_;refine WL.call0 fn97 rfl rfl rfl rfl tr rfl (refExcluded_con hw hvv) ?_;refine nn ?_;revert h;refine ci (fun hc1 h => ?_) (fun hc1 h => ?_)
 ·refine sr (lr1 rfl (nr (WQ.thenRet ?_)));cases h;exact rt tbOk hR
 ·refine kn (sr (lr2 rfl ?_));revert h;refine zb fun v2 hvv2 h => ?_;refine WL.call0 fn130 rfl rfl rfl rfl tr rfl (refAlts_con hw hvv2) ?_;refine lr1 rfl (nn (WC.seq (sr (lr1 rfl (nn ?_)))));refine WC.thenCut (X := Int) (fun gG => ⟨[(7, iv gG)], []⟩) (fun gG => refScore_j1 gG = some r) ?_ ?_
  ·refine WC.block ?_;obtain ⟨eQ1, hl1, hk1⟩ := bnd h;clear h;refine WC.loop (σ := Int × Int) (τ := (Int)) (fun sS => ⟨[(9, iv sS.1), (8, .v (.sl 1 (v2.map zH1))), (7, iv sS.2), (2, .v (.sl 1 (words.map eStr)))], []⟩) (refScore_b1 words v2) [] ((0 : Int), (0 : Int)) hl1 sub ?_;rintro ⟨i, n12⟩ m hn1 he1 hx1;obtain ⟨o1, hf1⟩ := zQ1 hx1;have h := hf1;unfold refScore_b1 at h;try dsimp only
   refine WC.seq (sr (lr2 rfl ?_));refine WL.q [] rfl rfl rfl (q_ev tbOk (iv (v2.length : Int)) rfl tr lenT) ?_;refine lr1 rfl (nn ?_);revert h;refine ci (fun hc2 h => ?_) (fun hc2 h => ?_)
   ·refine kn (WC.seq ?_);refine WC.thenCut (X := Int) (fun gG => ⟨[(7, iv gG), (9, iv i), (8, .v (.sl 1 (v2.map zH1))), (2, .v (.sl 1 (words.map eStr)))], []⟩) (fun gG => refScore_j2 words v2 i gG = some o1) ?_ ?_
    ·refine WC.block (sr (lr2 rfl ?_));obtain ⟨g1, h⟩ := grd h;revert h;refine zb fun x4 hxx4 h => ?_;refine WL.q [] rfl rfl rfl (q_idx tbOk rfl tr g1 (zM1 (f := zH1) hxx4)) ?_;refine lr2 rfl ?_;revert h;refine zb fun v4 hvv4 h => ?_;refine WL.call0 fn142 rfl rfl rfl rfl tr rfl (refSubset_con hw hvv4) ?_;refine nn ?_;revert h;refine ci (fun hc3 h => ?_) (fun hc3 h => ?_)
     ·refine WC.region (lr3 rfl ?_);obtain ⟨g2, h⟩ := grd h;revert h;refine zb fun x5 hxx5 h => ?_;refine WL.q [] rfl rfl rfl (q_idx tbOk rfl tr g2 (zM1 (f := zH1) hxx5)) ?_;refine lr1 rfl ?_;refine WL.q [] rfl rfl rfl (q_ev tbOk (iv (x5.length : Int)) rfl tr lenT) ?_;refine lr2 rfl (WL.nil (WQ.blockNormal ?_));exact WQ.cut [] (if (x5.length : Int) > n12 then (x5.length : Int) else n12) sub h
     ·refine WC.skip (WQ.blockNormal ?_);exact WQ.cut [] n12 sub h
    ·intro n16 h;try dsimp only at h;unfold refScore_j2 at h;try dsimp only
     refine WC.region (lr3 rfl (WL.nil ?_));cases h;exact WQ.next [] ((IntKind.i64.wrap (i + (1 : Int))), n16) sub (hn1 _ hf1)
   ·refine WC.exit (WQ.thenExit ?_);cases h;obtain rfl := he1 _ hf1;replace h := hk1;try dsimp only at h
    refine eb ?_;exact WQ.cut [] n12 sub h
  ·intro n1 h;try dsimp only at h;unfold refScore_j1 at h;try dsimp only
   refine sr (lr2 rfl (nr ?_));cases h;exact rt tbOk hR
end Go.Proofs.YtaeplfiaahkgpaaGreatDoor
end zCg
noncomputable section zCn
set_option linter.unusedVariables false
set_option linter.unusedSimpArgs false
set_option maxHeartbeats 4000000
set_option maxRecDepth 20000
namespace Go.Proofs.YtaeplfiaahkgpaaGreatDoor
open Go.V Go.C
theorem described_con {wg : World} (hw : WG wg) {l : (List Str)} {r : Bool} (h : described l = some r) : Con Tryz.prog wg gl 57 [.v (.sl 1 (l.map eStr))] [] (ov r) [] := by
 unfold described at h;refine cw Tryz.func57 Tryz.ntmps57 ?_;intro F L w ρ0 R hR;try dsimp only [zP1]
 refine sr (lr1 rfl (ns (lr1 rfl ?_)));refine WL.q [] rfl rfl rfl (q_ev tbOk (iv (l.length : Int)) rfl tr lenT) ?_;refine lr 3 rfl sideR ?_;revert h;refine zb fun v hvv h => ?_;refine WL.gcall0 fn58 rfl rfl rfl rfl rfl (fun _ => sideR) rfl (fun hg => (validWords_con hw (ite_t hg hvv))) ?_;refine lr 2 rfl sideR ?_;refine nr ?_;cases h;exact rt tbOk hR
theorem growInt_con {wg : World} (hw : WG wg) {n1 : Int} {r : (List Int)} (h : growInt n1 = some r) : Con Tryz.prog wg gl 108 [.v (.raw (.slice none 0 0)), iv n1] [] (.r 500) [(500, .row 3 1 (r.map zG1))] := by
 unfold growInt at h;refine cw Tryz.func108 Tryz.ntmps108 ?_;intro F L w ρ0 R hR;try dsimp only [zP1]
 refine sr (lr1 rfl (nn (WC.seq (sr (lr2 rfl (nn ?_))))));revert h;refine ci (fun hc1 h => ?_) (fun hc1 h => ?_)
 ·cases h
 ·refine kn (WC.seq (sr (lr2 rfl ?_)));refine WL.q [] rfl rfl rfl (q_nil ap22 rfl tr) ?_;refine lr5 rfl (ns (lr2 rfl (nn ?_)));refine WC.thenCut (X := (List Int)) (fun gG => ⟨[(0, .r 1000)], [(1000, .row 3 1 (gG.map zG1))]⟩) (fun gG => growInt_j1 gG = some r) ?_ ?_
  ·revert h;refine ci (fun hc2 h => ?_) (fun hc2 h => ?_)
   ·refine WC.region (lr2 rfl ?_);refine WL.q [] rfl rfl rfl (q_nil ap22 rfl tr) ?_;refine WL.q [] rfl rfl rfl (q_nil ap22 rfl sideR) ?_;refine lr1 rfl ?_;obtain ⟨g1, h⟩ := grd h;refine WL.growRow tbOk (List.replicate (IntKind.i64.wrap (n1 - (IntKind.i64.wrap ((0 : Int) - (0 : Int))))).toNat [.raw (.int .i64 0)]) ap22 rfl rfl rfl rfl rfl sideR g1 rfl rfl ?_;refine lr2 rfl ?_;refine WL.rcut tbOk (([] : (List Int)).map zG1) rfl rfl rfl rfl sideR rfl ⟨Int.le_refl 0, Int.natCast_nonneg _⟩ rfl rfl ?_;refine lr1 rfl (WL.nil ?_);exact WQ.cut [(1000, 25)] [] sub h
   ·refine WC.skip ?_;refine WQ.rowNil 0 1000 3 1 rfl rfl ?_;exact WQ.cut [] [] sub h
  ·intro s h;try dsimp only at h;unfold growInt_j1 at h;try dsimp only
   refine sr (lr2 rfl (nr ?_));cases h;exact WQ.rets tbOk hR [(500, 1000)] (.inl rfl) rfl rfl (Le.refl _) eqs rfl rfl rfl rfl
theorem concatInt_con {wg : World} (hw : WG wg) {slices : (List (List Int))} {r : (List Int)} (h : concatInt slices = some r) : Con Tryz.prog wg gl 59 [.v (.sl 1 (slices.map eLInt_i64))] [] (.r 500) [(500, .row 3 1 (r.map zG1))] := by
 unfold concatInt at h;refine cw Tryz.func59 Tryz.ntmps59 ?_;intro F L w ρ0 R hR;try dsimp only [zP1]
 refine sr (lr1 rfl (ns (lr1 rfl (nn (WC.seq (sr (lr1 rfl ?_)))))));refine WL.q [] rfl rfl rfl (q_ev tbOk (iv (slices.length : Int)) rfl tr lenT) ?_;refine lr1 rfl (nn ?_);refine WC.thenCut (X := Int) (fun gG => ⟨[(3, iv gG), (0, .v (.sl 1 (slices.map eLInt_i64)))], []⟩) (fun gG => concatInt_j1 slices gG = some r) ?_ ?_
 ·refine WC.block ?_;obtain ⟨eQ2, hl2, hk2⟩ := bnd h;clear h;refine WC.loop (σ := Int × Int) (τ := (Int)) (fun sS => ⟨[(11, iv sS.1), (10, iv (slices.length : Int)), (9, .v (.sl 1 (slices.map eLInt_i64))), (3, iv sS.2), (0, .v (.sl 1 (slices.map eLInt_i64)))], []⟩) (concatInt_b2 slices) [] ((0 : Int), (0 : Int)) hl2 sub ?_;rintro ⟨t11, size2⟩ m hn2 he2 hx2;obtain ⟨o2, hf2⟩ := zQ1 hx2;have h := hf2;unfold concatInt_b2 at h;try dsimp only
  refine sr (lr1 rfl (nn (WC.seq ?_)));revert h;refine ci (fun hc2 h => ?_) (fun hc2 h => ?_)
  ·refine kn (sb (sr ?_));obtain ⟨g3, h⟩ := grd h;revert h;refine zb fun x4 hxx4 h => ?_;refine WL.q [] rfl rfl rfl (q_idx tbOk rfl tr g3 (zM1 (f := eLInt_i64) hxx4)) ?_;refine lr2 rfl (ns (lr2 rfl ?_));refine WL.q [] rfl rfl rfl (q_ev tbOk (iv (x4.length : Int)) rfl tr lenT) ?_;refine lr2 rfl (ns (lr2 rfl (nn ?_)));revert h;refine ci (fun hc3 h => ?_) (fun hc3 h => ?_)
   ·cases h
   ·refine WC.skip (bn (WC.region (lr2 rfl (WL.nil ?_))));cases h;exact WQ.next [] ((IntKind.i64.wrap (t11 + (1 : Int))), (IntKind.i64.wrap (size2 + (x4.length : Int)))) sub (hn2 _ hf2)
  ·refine WC.exit (WQ.thenExit ?_);cases h;obtain rfl := he2 _ hf2;replace h := hk2;try dsimp only at h
   refine eb ?_;exact WQ.cut [] size2 sub h
 ·intro size h;try dsimp only at h;unfold concatInt_j1 at h;try dsimp only
  refine sr (lr1 rfl ?_);revert h;refine zb fun v hvv h => ?_;refine WL.callO [] [(500, 24)] [24] fn108 rfl rfl rfl rfl tr (growInt_con hw hvv) rfl rfl tr rfl rfl rfl rfl rfl rfl ?_;refine lr1 rfl (nn (WC.seq (sr (lr1 rfl ?_))));refine WL.q [] rfl rfl rfl (q_ev tbOk (iv (slices.length : Int)) rfl tr lenT) ?_;refine lr1 rfl (nn ?_);refine WC.thenCut (X := (List Int)) (fun gG => ⟨[(6, .r 1006)], [(1006, .row 3 1 (gG.map zG1))]⟩) (fun gG => concatInt_j2 gG = some r) ?_ ?_
  ·refine WC.block ?_;obtain ⟨eQ1, hl1, hk1⟩ := bnd h;clear h;refine WC.loop (σ := Int × (List Int)) (τ := ((List Int))) (fun sS => ⟨[(27, iv sS.1), (26, iv (slices.length : Int)), (25, .v (.sl 1 (slices.map eLInt_i64))), (6, .r 1006)], [(1006, .row 3 1 (sS.2.map zG1))]⟩) (concatInt_b1 slices) [(1006, 24)] ((0 : Int), v) hl1 sub ?_;rintro ⟨t27, newslice2⟩ m hn1 he1 hx1;obtain ⟨o1, hf1⟩ := zQ1 hx1;have h := hf1;unfold concatInt_b1 at h;try dsimp only
   refine sr (lr1 rfl (nn (WC.seq ?_)));revert h;refine ci (fun hc1 h => ?_) (fun hc1 h => ?_)
   ·refine kn (sb (sr ?_));obtain ⟨g1, h⟩ := grd h;revert h;refine zb fun x2 hxx2 h => ?_;refine WL.q [] rfl rfl rfl (q_idx tbOk rfl tr g1 (zM1 (f := eLInt_i64) hxx2)) ?_;refine lr2 rfl (nn (WC.region (lr2 rfl ?_)));obtain ⟨g2, h⟩ := grd h;refine WL.append tbOk ((newslice2 ++ x2).map zG1) [33, 1006] ap22 rfl rfl rfl rfl ce tr (zL1 (f := zG1) (xs := x2) fun _ => rfl) (al g2) rfl rfl ma rfl ?_;refine lr1 rfl (WL.nil (bn (WC.region (lr2 rfl (WL.nil ?_)))));cases h;exact WQ.next [(1006, 33)] ((IntKind.i64.wrap (t27 + (1 : Int))), (newslice2 ++ x2)) sub (hn1 _ hf1)
   ·refine WC.exit (WQ.thenExit ?_);cases h;obtain rfl := he1 _ hf1;replace h := hk1;try dsimp only at h
    refine eb ?_;exact WQ.cut [] newslice2 sub h
  ·intro newslice h;try dsimp only at h;unfold concatInt_j2 at h;try dsimp only
   refine sr (lr2 rfl (nr ?_));cases h;exact WQ.rets tbOk hR [(500, 1006)] (.inl rfl) rfl rfl (Le.refl _) eqs rfl rfl rfl rfl
theorem complete_con {wg : World} (hw : WG wg) {shares : (List Int)} {r : Bool} (h : complete shares = some r) : Con Tryz.prog wg gl 60 [.v (.sl 1 (shares.map zG1))] [] (ov r) [] := by
 unfold complete at h;refine cw Tryz.func60 Tryz.ntmps60 ?_;intro F L w ρ0 R hR;try dsimp only [zP1]
 refine sr (lr1 rfl (ns (lr1 rfl (nn (WC.seq (sr (lr1 rfl ?_)))))));refine WL.q [] rfl rfl rfl (q_ev tbOk (iv (shares.length : Int)) rfl tr lenT) ?_;refine lr1 rfl (nn ?_);refine WC.thenCut (X := Int) (fun gG => ⟨[(3, iv gG), (0, .v (.sl 1 (shares.map zG1)))], []⟩) (fun gG => complete_j1 shares gG = some r) ?_ ?_
 ·refine WC.block ?_;obtain ⟨eQ1, hl1, hk1⟩ := bnd h;clear h;refine WC.loop (σ := Int × Int) (τ := (Int)) (fun sS => ⟨[(8, iv sS.1), (7, iv (shares.length : Int)), (6, .v (.sl 1 (shares.map zG1))), (3, iv sS.2), (0, .v (.sl 1 (shares.map zG1)))], []⟩) (complete_b1 shares) [] ((0 : Int), (0 : Int)) hl1 sub ?_;rintro ⟨t8, sum2⟩ m hn1 he1 hx1;obtain ⟨o1, hf1⟩ := zQ1 hx1;have h := hf1;unfold complete_b1 at h;try dsimp only
  refine sr (lr1 rfl (nn (WC.seq ?_)));revert h;refine ci (fun hc1 h => ?_) (fun hc1 h => ?_)
  ·refine kn (sb (sr ?_));obtain ⟨g1, h⟩ := grd h;revert h;refine zb fun x2 hxx2 h => ?_;refine WL.q [] rfl rfl rfl (q_idx tbOk rfl tr g1 (zM1 (f := zG1) hxx2)) ?_;refine lr2 rfl (nn (WC.region (lr4 rfl (WL.nil (bn (WC.region (lr2 rfl (WL.nil ?_))))))));cases h;exact WQ.next [] ((IntKind.i64.wrap (t8 + (1 : Int))), (IntKind.i64.wrap (sum2 + x2))) sub (hn1 _ hf1)
  ·refine WC.exit (WQ.thenExit ?_);cases h;obtain rfl := he1 _ hf1;replace h := hk1;try dsimp only at h
   refine eb ?_;exact WQ.cut [] sum2 sub h
 ·intro sum h;try dsimp only at h;unfold complete_j1 at h;try dsimp only
  refine sr (lr1 rfl ?_);refine WL.q [] rfl rfl rfl (q_ev tbOk (iv (shares.length : Int)) rfl tr lenT) ?_;refine lr 6 rfl sideR ?_;refine nr ?_;cases h;exact rt tbOk hR
theorem goodsValidate_con {wg : World} (hw : WG wg) {g : YR} {r : Int} (h : goodsValidate g = some r) : Con Tryz.prog wg gl 30 [.v (.agg (eS g))] [] (iv r) [] := by
 unfold goodsValidate at h;refine cw Tryz.func30 Tryz.ntmps30 ?_;intro F L w ρ0 R hR;try dsimp only [zP1]
 refine sr (lr2 rfl (nn (WC.seq (sr (lr2 rfl ?_)))));revert h;refine zb fun v hvv h => ?_;refine WL.call0 fn57 rfl rfl rfl rfl tr rfl (described_con hw hvv) ?_;refine lr1 rfl (nn ?_);revert h;refine ci (fun hc1 h => ?_) (fun hc1 h => ?_)
 ·refine sr (lr1 rfl (nr (WQ.thenRet ?_)));cases h;exact rt tbOk hR
 ·refine kn (WC.seq (sr (lr2 rfl ?_)));refine WL.q [] rfl rfl rfl (q_ev tbOk (iv (g.Materials.length : Int)) rfl tr lenT) ?_;refine lr 4 rfl sideR ?_;refine WL.gq [] rfl rfl rfl rfl (fun hg => q_ev tbOk (iv (g.Parts.length : Int)) rfl sideR lenT) ?_;refine lr 2 rfl sideR ?_;refine nn ?_;revert h;refine ci (fun hc2 h => ?_) (fun hc2 h => ?_)
  ·refine sr (lr1 rfl (nr (WQ.thenRet ?_)));cases h;exact rt tbOk hR
  ·refine kn (sr (lr1 rfl (ns (lr2 rfl (nn (WC.seq (sr (lr2 rfl ?_))))))));refine WL.q [] rfl rfl rfl (q_ev tbOk (iv (g.Materials.length : Int)) rfl tr lenT) ?_;refine lr1 rfl (nn ?_);refine WC.thenCut (X := (List Int) × (List Str)) (fun gG => ⟨[(5, .v (.raw (.slice none 0 0))), (4, .r 1004), (3, .r 1003), (1, .p 1 0)], [(1004, .row 3 1 (gG.1.map zG1)), (1003, .row 9 1 (gG.2.map eStr)), (1, .blk 32 (kv (eS g)))]⟩) (fun gG => goodsValidate_j1 g gG.1 gG.2 = some r) ?_ ?_
   ·refine WC.block ?_;obtain ⟨eQ3, hl3, hk3⟩ := bnd h;clear h;refine WC.rowNil 4 1004 3 1 rfl rfl ?_;refine WC.rowNil 3 1003 9 1 rfl rfl ?_;refine WC.loop (σ := Int × (List Int) × (List Str)) (τ := ((List Int) × (List Str))) (fun sS => ⟨[(29, iv sS.1), (28, iv (g.Materials.length : Int)), (27, .v (.sl 2 (g.Materials.map eA1))), (5, .v (.raw (.slice none 0 0))), (4, .r 1004), (3, .r 1003), (1, .p 1 0)], [(1004, .row 3 1 (sS.2.1.map zG1)), (1003, .row 9 1 (sS.2.2.map eStr)), (1, .blk 32 (kv (eS g)))]⟩) (goodsValidate_b3 g) [] ((0 : Int), [], []) hl3 sub ?_;rintro ⟨t292, materials6, names2⟩ m hn3 he3 hx3;obtain ⟨o3, hf3⟩ := zQ1 hx3;have h := hf3;unfold goodsValidate_b3 at h;try dsimp only
    refine sr (lr1 rfl (nn (WC.seq ?_)));revert h;refine ci (fun hc9 h => ?_) (fun hc9 h => ?_)
    ·refine kn (sb (sr ?_));obtain ⟨g4, h⟩ := grd h;revert h;refine zb fun x6 hxx6 h => ?_;refine WL.q [] rfl rfl rfl (q_idx tbOk rfl tr g4 (zM1 (f := eA1) hxx6)) ?_;refine lr3 rfl (ns (lr4 rfl ?_));obtain ⟨g5, h⟩ := grd h;refine WL.append tbOk ((names2 ++ [x6.Name]).map eStr) [37, 1003] ap28 rfl rfl rfl rfl ce tr (zL1 (f := eStr) (xs := [x6.Name]) fun _ => rfl) (al g5) rfl rfl ma rfl ?_;refine lr1 rfl (nn (WC.region (lr4 rfl ?_)));obtain ⟨g6, h⟩ := grd h;refine WL.append tbOk ((materials6 ++ [x6.Share]).map zG1) [42, 1004] ap22 rfl rfl rfl rfl ce tr (zL1 (f := zG1) (xs := [x6.Share]) fun _ => rfl) (al g6) rfl rfl ma rfl ?_;refine lr1 rfl (WL.nil (bn (WC.region (lr2 rfl (WL.nil ?_)))));cases h;exact WQ.next [(1004, 42), (1003, 37)] ((IntKind.i64.wrap (t292 + (1 : Int))), (materials6 ++ [x6.Share]), (names2 ++ [x6.Name])) sub (hn3 _ hf3)
    ·refine WC.exit (WQ.thenExit ?_);cases h;obtain rfl := he3 _ hf3;replace h := hk3;try dsimp only at h
     refine eb ?_;exact WQ.cut [] (materials6, names2) sub h
   ·rintro ⟨materials, names⟩ h;try dsimp only at h;unfold goodsValidate_j1 at h;try dsimp only
    refine WC.seq (WC.seq ?_);refine WC.publish 1003 rfl rfl ?_;refine WC.region (lr1 rfl ?_);revert h;refine zb fun v2 hvv2 h => ?_;refine WL.call0 fn58 rfl rfl rfl rfl tr rfl (validWords_con hw hvv2) ?_;refine lr1 rfl (nn ?_);revert h;refine ci (fun hc3 h => ?_) (fun hc3 h => ?_)
    ·refine sr (lr1 rfl (nr (WQ.thenRet ?_)));cases h;exact rt tbOk hR
    ·refine kn (WC.seq (sr (lr2 rfl ?_)));refine WL.q [] rfl rfl rfl (q_ev tbOk (iv (g.Parts.length : Int)) rfl tr lenT) ?_;refine lr1 rfl (nn ?_);refine WC.thenCut (X := (List Int) × (List Int)) (fun gG => ⟨[(5, .r 1005), (4, .r 1004)], [(1005, .row 3 1 (gG.1.map zG1)), (1004, .row 3 1 (gG.2.map zG1))]⟩) (fun gG => goodsValidate_j2 gG.1 gG.2 = some r) ?_ ?_
     ·refine WC.block ?_;obtain ⟨eQ2, hl2, hk2⟩ := bnd h;clear h;refine WC.rowNil 5 1005 3 1 rfl rfl ?_;refine WC.loop (σ := Int × (List Int) × (List Int)) (τ := ((Int) ⊕ ((List Int) × (List Int)))) (fun sS => ⟨[(50, iv sS.1), (49, iv (g.Parts.length : Int)), (48, .v (.sl 2 (g.Parts.map eJ))), (5, .r 1005), (4, .r 1004)], [(1005, .row 3 1 (sS.2.1.map zG1)), (1004, .row 3 1 (sS.2.2.map zG1))]⟩) (goodsValidate_b2 g) [] ((0 : Int), [], materials) hl2 sub ?_;rintro ⟨t502, parts2, materials4⟩ m hn2 he2 hx2;obtain ⟨o2, hf2⟩ := zQ1 hx2;have h := hf2;unfold goodsValidate_b2 at h;try dsimp only
      refine sr (lr1 rfl (nn (WC.seq ?_)));revert h;refine ci (fun hc7 h => ?_) (fun hc7 h => ?_)
      ·refine kn (sb (sr ?_));obtain ⟨g2, h⟩ := grd h;revert h;refine zb fun x3 hxx3 h => ?_;refine WL.q [] rfl rfl rfl (q_idx tbOk rfl tr g2 (zM1 (f := eJ) hxx3)) ?_;refine lr3 rfl (nn (WC.seq (sr (lr2 rfl ?_))));revert h;refine zb fun v8 hvv8 h => ?_;refine WL.call0 fn57 rfl rfl rfl rfl tr rfl (described_con hw hvv8) ?_;refine lr1 rfl (nn ?_);revert h;refine ci (fun hc8 h => ?_) (fun hc8 h => ?_)
       ·refine sr (lr1 rfl (nr (WQ.thenRet (rb ?_))));cases h;obtain rfl := he2 _ hf2;have h : some (1 : Int) = some _ := hk2;refine WQ.thenRet (rb ?_);cases h;exact rt tbOk hR
       ·refine kn (WC.region (lr4 rfl ?_));obtain ⟨g3, h⟩ := grd h;refine WL.append tbOk ((parts2 ++ [x3.Share]).map zG1) [62, 1005] ap22 rfl rfl rfl rfl ce tr (zL1 (f := zG1) (xs := [x3.Share]) fun _ => rfl) (al g3) rfl rfl ma rfl ?_;refine lr1 rfl (WL.nil (bn (WC.region (lr2 rfl (WL.nil ?_)))));cases h;exact WQ.next [(1005, 62)] ((IntKind.i64.wrap (t502 + (1 : Int))), (parts2 ++ [x3.Share]), materials4) sub (hn2 _ hf2)
      ·refine WC.exit (WQ.thenExit ?_);cases h;obtain rfl := he2 _ hf2;replace h := hk2;try dsimp only at h
       refine eb ?_;exact WQ.cut [] (parts2, materials4) sub h
     ·rintro ⟨parts, materials2⟩ h;try dsimp only at h;unfold goodsValidate_j2 at h;try dsimp only
      refine WC.seq (WC.seq ?_);refine WC.publish 1004 rfl rfl ?_;refine WC.publish 1005 rfl rfl ?_;refine WC.region (lr3 rfl ?_);revert h;refine zb fun v3 hvv3 h => ?_;refine WL.callO [] [(500, 67)] [67] fn59 rfl rfl rfl rfl tr (concatInt_con hw hvv3) rfl rfl tr rfl rfl rfl rfl rfl rfl ?_;refine WL.q [67] rfl rfl rfl (q_ev tbOk (iv (v3.length : Int)) rfl tr lenT) ?_;refine lr1 rfl (nn ?_);refine WC.thenCut (X := Unit) (fun gG => ⟨[(5, .v (.sl 1 (parts.map zG1))), (4, .v (.sl 1 (materials2.map zG1)))], []⟩) (fun gG => goodsValidate_j3 parts materials2 = some r) ?_ ?_
      ·refine WC.block ?_;obtain ⟨eQ1, hl1, hk1⟩ := bnd h;clear h;refine WC.loop (σ := Int × (List Int)) (τ := ((Int) ⊕ (Unit))) (fun sS => ⟨[(69, iv sS.1), (68, iv (v3.length : Int)), (67, .r 1067), (5, .v (.sl 1 (parts.map zG1))), (4, .v (.sl 1 (materials2.map zG1)))], [(1067, .row 3 1 (sS.2.map zG1))]⟩) (goodsValidate_b1 parts materials2 v3) [(1067, 67)] ((0 : Int), v3) hl1 sub ?_;rintro ⟨t69, t67⟩ m hn1 he1 hx1;obtain ⟨o1, hf1⟩ := zQ1 hx1;have h := hf1;unfold goodsValidate_b1 at h;try dsimp only
       refine sr (lr1 rfl (nn (WC.seq ?_)));revert h;refine ci (fun hc5 h => ?_) (fun hc5 h => ?_)
       ·refine kn (sb (sr ?_));obtain ⟨g1, h⟩ := grd h;refine WL.q [1067] rfl rfl rfl (q_ridx tbOk rfl tr rfl (by simpa only [List.length_map] using g1)) ?_;refine WL.q [1067] rfl rfl rfl (x := iv (t67.getD t69.toNat default)) (q_rload tbOk rfl tr rfl (map_getD (f := zG1) g1.2 g1.1) rfl) ?_;refine lr1 rfl (ns ?_);refine lr 6 rfl sideR ?_;refine nn ?_;revert h;refine ci (fun hc6 h => ?_) (fun hc6 h => ?_)
        ·refine sr (lr1 rfl (nr (rb ?_)));cases h;obtain rfl := he1 _ hf1;have h : some (2 : Int) = some _ := hk1;refine WQ.thenRet (rb ?_);cases h;exact rt tbOk hR
        ·refine WC.skip (bn (WC.region (lr2 rfl (WL.nil ?_))));cases h;exact WQ.next [] ((IntKind.i64.wrap (t69 + (1 : Int))), t67) sub (hn1 _ hf1)
       ·refine WC.exit (WQ.thenExit ?_);cases h;obtain rfl := he1 _ hf1;replace h := hk1;try dsimp only at h
        refine eb ?_;exact WQ.cut [] () sub h
      ·intro _ h;try dsimp only at h;unfold goodsValidate_j3 at h;try dsimp only
       refine WC.seq (sr (lr1 rfl ?_));revert h;refine zb fun v4 hvv4 h => ?_;refine WL.call0 fn60 rfl rfl rfl rfl tr rfl (complete_con hw hvv4) ?_;refine lr 3 rfl sideR ?_;revert h;refine zb fun v5 hvv5 h => ?_;refine WL.gcall0 fn60 rfl rfl rfl rfl rfl (fun _ => sideR) rfl (fun hg => (complete_con hw (ite_t hg hvv5))) ?_;refine lr 2 rfl sideR ?_;refine nn ?_;revert h;refine ci (fun hc4 h => ?_) (fun hc4 h => ?_)
       ·refine sr (lr1 rfl (nr (WQ.thenRet ?_)));cases h;exact rt tbOk hR
       ·refine kn (sr (lr1 rfl (nr ?_)));cases h;exact rt tbOk hR
theorem refGood_con {wg : World} (hw : WG wg) {g : YR} {r : Int} (h : refGood g = some r) : Con Tryz.prog wg gl 35 [.v (.agg (eS g))] [] (iv r) [] := by
 unfold refGood at h;refine cw Tryz.func35 Tryz.ntmps35 ?_;intro F L w ρ0 R hR;try dsimp only [zP1]
 refine sr (lr2 rfl (nn (WC.seq (sr (lr2 rfl ?_)))));revert h;refine zb fun v hvv h => ?_;refine WL.call0 fn78 rfl rfl rfl rfl tr rfl (refWords_con hw hvv) ?_;refine lr 4 rfl sideR ?_;refine WL.gq [] rfl rfl rfl rfl (fun hg => q_ev tbOk (iv (g.Words.length : Int)) rfl sideR lenT) ?_;refine lr 2 rfl sideR ?_;refine nn ?_;revert h;refine ci (fun hc1 h => ?_) (fun hc1 h => ?_)
 ·refine sr (lr1 rfl (nr (WQ.thenRet ?_)));cases h;exact rt tbOk hR
 ·refine kn (WC.seq (sr (lr2 rfl ?_)));refine WL.q [] rfl rfl rfl (q_ev tbOk (iv (g.Materials.length : Int)) rfl tr lenT) ?_;refine lr 4 rfl sideR ?_;refine WL.gq [] rfl rfl rfl rfl (fun hg => q_ev tbOk (iv (g.Parts.length : Int)) rfl sideR lenT) ?_;refine lr 2 rfl sideR ?_;refine nn ?_;revert h;refine ci (fun hc2 h => ?_) (fun hc2 h => ?_)
  ·refine sr (lr1 rfl (nr (WQ.thenRet ?_)));cases h;exact rt tbOk hR
  ·refine kn (sr (lr3 rfl (nn (WC.seq (sr (lr1 rfl (nn ?_)))))));refine WC.thenCut (X := Unit) (fun gG => ⟨[(5, ov false), (4, iv (0 : Int)), (3, iv (0 : Int)), (1, .p 1 0)], [(1, .blk 32 (kv (eS g)))]⟩) (fun gG => refGood_j1 g = some r) ?_ ?_
   ·refine WC.block ?_;obtain ⟨eQ5, hl5, hk5⟩ := bnd h;clear h;refine WC.loop (σ := Int) (τ := ((Int) ⊕ (Unit))) (fun sS => ⟨[(6, iv sS), (5, ov false), (4, iv (0 : Int)), (3, iv (0 : Int)), (1, .p 1 0)], [(1, .blk 32 (kv (eS g)))]⟩) (refGood_b5 g) [] (0 : Int) hl5 sub ?_;intro i9 m hn5 he5 hx5;obtain ⟨o5, hf5⟩ := zQ1 hx5;have h := hf5;unfold refGood_b5 at h;try dsimp only
    refine WC.seq (sr (lr3 rfl ?_));refine WL.q [] rfl rfl rfl (q_ev tbOk (iv (g.Materials.length : Int)) rfl tr lenT) ?_;refine lr1 rfl (nn ?_);revert h;refine ci (fun hc10 h => ?_) (fun hc10 h => ?_)
    ·refine kn (sb (sr (lr3 rfl ?_)));obtain ⟨g9, h⟩ := grd h;revert h;refine zb fun x8 hxx8 h => ?_;refine WL.q [] rfl rfl rfl (q_idx tbOk rfl tr g9 (zM1 (f := eA1) hxx8)) ?_;refine lr3 rfl (nn (WC.seq (WC.order mixed ?_)));refine wr 2 rfl trivial ?_;revert h;refine zb fun v5 hvv5 h => ?_;refine WR.call0 fn79 rfl rfl rfl rfl tr rfl (refWord_con hw hvv5) ?_;refine wr 9 rfl sideR ?_;obtain ⟨g10, h⟩ := grd h;refine WR.gq [] rfl rfl rfl rfl (fun hg => q_idx tbOk rfl sideR (g10 hg).1 (map_getD (f := eA1) (g10 hg).2 (g10 hg).1)) ?_;refine wr 7 rfl sideR ?_;refine WR.nil (by kernel_rfl) (WQ.thenNormal ?_);revert h;refine ci (fun hc11 h => ?_) (fun hc11 h => ?_)
     ·refine sr (lr1 rfl (nr (rb ?_)));cases h;obtain rfl := he5 _ hf5;have h : some (1 : Int) = some _ := hk5;refine WQ.thenRet (rb ?_);cases h;exact rt tbOk hR
     ·refine WC.skip (bn (WC.region (lr3 rfl (WL.nil ?_))));cases h;exact WQ.next [] (IntKind.i64.wrap (i9 + (1 : Int))) sub (hn5 _ hf5)
    ·refine WC.exit (WQ.thenExit ?_);cases h;obtain rfl := he5 _ hf5;replace h := hk5;try dsimp only at h
     refine eb ?_;exact WQ.cut [] () sub h
   ·intro _ h;try dsimp only at h;unfold refGood_j1 at h;try dsimp only
    refine WC.seq (sr (lr1 rfl (nn ?_)));refine WC.thenCut (X := Bool) (fun gG => ⟨[(5, ov gG), (4, iv (0 : Int)), (3, iv (0 : Int)), (1, .p 1 0)], [(1, .blk 32 (kv (eS g)))]⟩) (fun gG => refGood_j2 g gG = some r) ?_ ?_
    ·refine WC.block ?_;obtain ⟨eQ4, hl4, hk4⟩ := bnd h;clear h;refine WC.loop (σ := Int × Bool) (τ := ((Int) ⊕ (Bool))) (fun sS => ⟨[(8, iv sS.1), (5, ov sS.2), (4, iv (0 : Int)), (3, iv (0 : Int)), (1, .p 1 0)], [(1, .blk 32 (kv (eS g)))]⟩) (refGood_b4 g) [] ((0 : Int), false) hl4 sub ?_;rintro ⟨i7, far6⟩ m hn4 he4 hx4;obtain ⟨o4, hf4⟩ := zQ1 hx4;have h := hf4;unfold refGood_b4 at h;try dsimp only
     refine WC.seq (sr (lr3 rfl ?_));refine WL.q [] rfl rfl rfl (q_ev tbOk (iv (g.Parts.length : Int)) rfl tr lenT) ?_;refine lr1 rfl (nn ?_);revert h;refine ci (fun hc8 h => ?_) (fun hc8 h => ?_)
     ·refine kn (sb (WC.seq (sr (lr3 rfl ?_))));obtain ⟨g5, h⟩ := grd h;revert h;refine zb fun x6 hxx6 h => ?_;refine WL.q [] rfl rfl rfl (q_idx tbOk rfl tr g5 (zM1 (f := eJ) hxx6)) ?_;refine lr2 rfl ?_;revert h;refine zb fun v3 hvv3 h => ?_;refine WL.call0 fn78 rfl rfl rfl rfl tr rfl (refWords_con hw hvv3) ?_;refine lr 5 rfl sideR ?_;obtain ⟨g6, h⟩ := grd h;refine WL.gq [] rfl rfl rfl rfl (fun hg => q_idx tbOk rfl sideR (g6 hg).1 (map_getD (f := eJ) (g6 hg).2 (g6 hg).1)) ?_;refine lr 2 rfl sideR ?_;refine WL.gq [] rfl rfl rfl rfl (fun hg => q_ev tbOk (iv (((g.Parts.getD i7.toNat default).Words).length : Int)) rfl sideR lenT) ?_;refine lr 2 rfl sideR ?_;refine nn ?_;revert h;refine ci (fun hc9 h => ?_) (fun hc9 h => ?_)
      ·refine sr (lr1 rfl (nr (WQ.thenRet (rb ?_))));cases h;obtain rfl := he4 _ hf4;have h : some (1 : Int) = some _ := hk4;refine WQ.thenRet (rb ?_);cases h;exact rt tbOk hR
      ·refine kn (WC.region ?_);refine lr 5 rfl sideR ?_;obtain ⟨g7, h⟩ := grd h;refine WL.gq [] rfl rfl rfl rfl (fun hg => q_idx tbOk rfl sideR (g7 hg).1 (map_getD (f := eJ) (g7 hg).2 (g7 hg).1)) ?_;refine lr 8 rfl sideR ?_;obtain ⟨g8, h⟩ := grd h;refine WL.gq [] rfl rfl rfl rfl (fun hg => q_idx tbOk rfl sideR (g8 hg).1 (map_getD (f := eJ) (g8 hg).2 (g8 hg).1)) ?_;refine lr 5 rfl sideR ?_;refine WL.nil (bn (WC.region (lr3 rfl (WL.nil ?_))));cases h;exact WQ.next [] ((IntKind.i64.wrap (i7 + (1 : Int))), (bif (bif far6 then true else (decide (((g.Parts.getD i7.toNat default).Share) < (1 : Int)))) then true else (decide ((1000000 : Int) < ((g.Parts.getD i7.toNat default).Share))))) sub (hn4 _ hf4)
     ·refine WC.exit (WQ.thenExit ?_);cases h;obtain rfl := he4 _ hf4;replace h := hk4;try dsimp only at h
      refine eb ?_;exact WQ.cut [] far6 sub h
    ·intro far h;try dsimp only at h;unfold refGood_j2 at h;try dsimp only
     refine WC.seq (sr (lr1 rfl (nn ?_)));refine WC.thenCut (X := Bool) (fun gG => ⟨[(5, ov gG), (4, iv (0 : Int)), (3, iv (0 : Int)), (1, .p 1 0)], [(1, .blk 32 (kv (eS g)))]⟩) (fun gG => refGood_j3 g gG = some r) ?_ ?_
     ·refine WC.block ?_;obtain ⟨eQ3, hl3, hk3⟩ := bnd h;clear h;refine WC.loop (σ := Int × Bool) (τ := (Bool)) (fun sS => ⟨[(9, iv sS.1), (5, ov sS.2), (4, iv (0 : Int)), (3, iv (0 : Int)), (1, .p 1 0)], [(1, .blk 32 (kv (eS g)))]⟩) (refGood_b3 g) [] ((0 : Int), far) hl3 sub ?_;rintro ⟨i5, far3⟩ m hn3 he3 hx3;obtain ⟨o3, hf3⟩ := zQ1 hx3;have h := hf3;unfold refGood_b3 at h;try dsimp only
      refine WC.seq (sr (lr3 rfl ?_));refine WL.q [] rfl rfl rfl (q_ev tbOk (iv (g.Materials.length : Int)) rfl tr lenT) ?_;refine lr1 rfl (nn ?_);revert h;refine ci (fun hc7 h => ?_) (fun hc7 h => ?_)
      ·refine kn (sb (WC.region ?_));refine lr 5 rfl sideR ?_;obtain ⟨g3, h⟩ := grd h;refine WL.gq [] rfl rfl rfl rfl (fun hg => q_idx tbOk rfl sideR (g3 hg).1 (map_getD (f := eA1) (g3 hg).2 (g3 hg).1)) ?_;refine lr 8 rfl sideR ?_;obtain ⟨g4, h⟩ := grd h;refine WL.gq [] rfl rfl rfl rfl (fun hg => q_idx tbOk rfl sideR (g4 hg).1 (map_getD (f := eA1) (g4 hg).2 (g4 hg).1)) ?_;refine lr 5 rfl sideR ?_;refine WL.nil (bn (WC.region (lr3 rfl (WL.nil ?_))));cases h;exact WQ.next [] ((IntKind.i64.wrap (i5 + (1 : Int))), (bif (bif far3 then true else (decide (((g.Materials.getD i5.toNat default).Share) < (1 : Int)))) then true else (decide ((1000000 : Int) < ((g.Materials.getD i5.toNat default).Share))))) sub (hn3 _ hf3)
      ·refine WC.exit (WQ.thenExit ?_);cases h;obtain rfl := he3 _ hf3;replace h := hk3;try dsimp only at h
       refine eb ?_;exact WQ.cut [] far3 sub h
     ·intro far2 h;try dsimp only at h;unfold refGood_j3 at h;try dsimp only
      refine WC.seq (sr (lr1 rfl (nn ?_)));revert h;refine ci (fun hc3 h => ?_) (fun hc3 h => ?_)
      ·refine sr (lr1 rfl (nr (WQ.thenRet ?_)));cases h;exact rt tbOk hR
      ·refine kn (WC.seq (sr (lr1 rfl (nn ?_))));refine WC.thenCut (X := Int) (fun gG => ⟨[(4, iv (0 : Int)), (3, iv gG), (1, .p 1 0)], [(1, .blk 32 (kv (eS g)))]⟩) (fun gG => refGood_j4 g gG = some r) ?_ ?_
       ·refine WC.block ?_;obtain ⟨eQ2, hl2, hk2⟩ := bnd h;clear h;refine WC.loop (σ := Int × Int) (τ := (Int)) (fun sS => ⟨[(10, iv sS.1), (4, iv (0 : Int)), (3, iv sS.2), (1, .p 1 0)], [(1, .blk 32 (kv (eS g)))]⟩) (refGood_b2 g) [] ((0 : Int), (0 : Int)) hl2 sub ?_;rintro ⟨i3, m12⟩ m hn2 he2 hx2;obtain ⟨o2, hf2⟩ := zQ1 hx2;have h := hf2;unfold refGood_b2 at h;try dsimp only
        refine WC.seq (sr (lr3 rfl ?_));refine WL.q [] rfl rfl rfl (q_ev tbOk (iv (g.Materials.length : Int)) rfl tr lenT) ?_;refine lr1 rfl (nn ?_);revert h;refine ci (fun hc6 h => ?_) (fun hc6 h => ?_)
        ·refine kn (sb (WC.region (lr4 rfl ?_)));obtain ⟨g2, h⟩ := grd h;revert h;refine zb fun x4 hxx4 h => ?_;refine WL.q [] rfl rfl rfl (q_idx tbOk rfl tr g2 (zM1 (f := eA1) hxx4)) ?_;refine lr4 rfl (WL.nil (bn (WC.region (lr3 rfl (WL.nil ?_)))));cases h;exact WQ.next [] ((IntKind.i64.wrap (i3 + (1 : Int))), (IntKind.i64.wrap (m12 + x4.Share))) sub (hn2 _ hf2)
        ·refine WC.exit (WQ.thenExit ?_);cases h;obtain rfl := he2 _ hf2;replace h := hk2;try dsimp only at h
         refine eb ?_;exact WQ.cut [] m12 sub h
       ·intro m1 h;try dsimp only at h;unfold refGood_j4 at h;try dsimp only
        refine WC.seq (sr (lr1 rfl (nn ?_)));refine WC.thenCut (X := Int) (fun gG => ⟨[(4, iv gG), (3, iv m1), (1, .p 1 0)], [(1, .blk 32 (kv (eS g)))]⟩) (fun gG => refGood_j5 g m1 gG = some r) ?_ ?_
        ·refine WC.block ?_;obtain ⟨eQ1, hl1, hk1⟩ := bnd h;clear h;refine WC.loop (σ := Int × Int) (τ := (Int)) (fun sS => ⟨[(11, iv sS.1), (4, iv sS.2), (3, iv m1), (1, .p 1 0)], [(1, .blk 32 (kv (eS g)))]⟩) (refGood_b1 g m1) [] ((0 : Int), (0 : Int)) hl1 sub ?_;rintro ⟨i, p2⟩ m hn1 he1 hx1;obtain ⟨o1, hf1⟩ := zQ1 hx1;have h := hf1;unfold refGood_b1 at h;try dsimp only
         refine WC.seq (sr (lr3 rfl ?_));refine WL.q [] rfl rfl rfl (q_ev tbOk (iv (g.Parts.length : Int)) rfl tr lenT) ?_;refine lr1 rfl (nn ?_);revert h;refine ci (fun hc5 h => ?_) (fun hc5 h => ?_)
         ·refine kn (sb (WC.region (lr4 rfl ?_)));obtain ⟨g1, h⟩ := grd h;revert h;refine zb fun x2 hxx2 h => ?_;refine WL.q [] rfl rfl rfl (q_idx tbOk rfl tr g1 (zM1 (f := eJ) hxx2)) ?_;refine lr4 rfl (WL.nil (bn (WC.region (lr3 rfl (WL.nil ?_)))));cases h;exact WQ.next [] ((IntKind.i64.wrap (i + (1 : Int))), (IntKind.i64.wrap (p2 + x2.Share))) sub (hn1 _ hf1)
         ·refine WC.exit (WQ.thenExit ?_);cases h;obtain rfl := he1 _ hf1;replace h := hk1;try dsimp only at h
          refine eb ?_;exact WQ.cut [] p2 sub h
        ·intro p h;try dsimp only at h;unfold refGood_j5 at h;try dsimp only
         refine WC.seq (sr (lr2 rfl ?_));refine WL.q [] rfl rfl rfl (q_ev tbOk (iv (g.Materials.length : Int)) rfl tr lenT) ?_;refine lr 8 rfl sideR ?_;refine WL.gq [] rfl rfl rfl rfl (fun hg => q_ev tbOk (iv (g.Parts.length : Int)) rfl sideR lenT) ?_;refine lr 6 rfl sideR ?_;refine nn ?_;revert h;refine ci (fun hc4 h => ?_) (fun hc4 h => ?_)
         ·refine sr (lr1 rfl (nr (WQ.thenRet ?_)));cases h;exact rt tbOk hR
         ·refine kn (sr (lr1 rfl (nr ?_)));cases h;exact rt tbOk hR
theorem charLess_con {wg : World} (hw : WG wg) {a : YI} {b : YI} {r : Int} (h : charLess a b = some r) : Con Tryz.prog wg gl 123 [.v (.agg (eJ a)), .v (.agg (eJ b))] [] (iv r) [] := by
 unfold charLess at h;refine cw Tryz.func123 Tryz.ntmps123 ?_;intro F L w ρ0 R hR;try dsimp only [zP1]
 refine sr (lr3 rfl (ns (lr4 rfl ?_)));revert h;refine zb fun v hvv h => ?_;refine WL.call0 fn124 rfl rfl rfl rfl tr rfl (cmpInt_con hw hvv) ?_;refine lr1 rfl (nr ?_);cases h;exact rt tbOk hR
theorem insSort_con {wg : World} (hw : WG wg) {data : (List YI)} {a : Int} {b : Int} {r : (List YI)} (h : insSort data a b = some r) : Con Tryz.prog wg gl 175 [.r 0, iv a, iv b, .fn 123 []] [(0, .row 72 2 (data.map eJ))] (.tup []) [(0, .row 72 2 (r.map eJ))] := by
 unfold insSort at h;refine cw Tryz.func175 Tryz.ntmps175 ?_;intro F L w ρ0 R hR;try dsimp only [zP1]
 refine sr (lr3 rfl (nn (WC.block ?_)));obtain ⟨eQ1, hl1, hk1⟩ := bnd h;clear h;refine WC.loop (σ := Int × (List YI)) (τ := ((List YI))) (fun sS => ⟨[(8, iv sS.1), (0, .r 0), (1, iv a), (2, iv b), (3, .fn 123 [])], [(0, .row 72 2 (sS.2.map eJ))]⟩) (insSort_b1 a b) [] ((IntKind.i64.wrap (a + (1 : Int))), data) hl1 sub ?_;rintro ⟨i, row0⟩ m hn1 he1 hx1;obtain ⟨o1, hf1⟩ := zQ1 hx1;have h := hf1;unfold insSort_b1 at h;try dsimp only
 refine WC.seq (sr (lr3 rfl (nn ?_)));revert h;refine ci (fun hc1 h => ?_) (fun hc1 h => ?_)
 ·refine kn (WC.seq ?_);refine WC.thenCut (X := (List YI)) (fun gG => ⟨[(8, iv i), (0, .r 0), (1, iv a), (2, iv b), (3, .fn 123 [])], [(0, .row 72 2 (gG.map eJ))]⟩) (fun gG => insSort_j1 a b i gG = some o1) ?_ ?_
  ·refine WC.block (sr (lr2 rfl (nn (WC.block ?_))));obtain ⟨eQ2, hl2, hk2⟩ := bnd h;clear h;refine WC.loop (σ := Int × (List YI)) (τ := ((List YI))) (fun sS => ⟨[(9, iv sS.1), (8, iv i), (0, .r 0), (1, iv a), (2, iv b), (3, .fn 123 [])], [(0, .row 72 2 (sS.2.map eJ))]⟩) (insSort_b2 a b i) [] (i, row0) hl2 sub ?_;rintro ⟨j3, row09⟩ m hn2 he2 hx2;obtain ⟨o2, hf2⟩ := zQ1 hx2;have h := hf2;unfold insSort_b2 at h;try dsimp only
   refine WC.seq (WC.seq (WC.order mixed ?_));refine wr 7 rfl sideR ?_;obtain ⟨g1, h⟩ := grd h;refine WR.gq [0] rfl rfl rfl rfl (fun hg => q_ridx tbOk rfl sideR rfl (by simpa only [List.length_map] using g1 hg)) ?_;refine WR.gq [0] rfl rfl rfl rfl (x := .v (.agg [.sl 1 (((row09.getD j3.toNat default).Words).map eStr), .int .i64 ((row09.getD j3.toNat default).Share)])) (fun hg => q_rload tbOk rfl sideR rfl (map_getD (f := eJ) (g1 hg).2 (g1 hg).1) rfl) ?_;refine wr 3 rfl sideR ?_;obtain ⟨g2, h⟩ := grd h;refine WR.gq [0] rfl rfl rfl rfl (fun hg => q_ridx tbOk rfl sideR rfl (by simpa only [List.length_map] using g2 hg)) ?_;refine WR.gq [0] rfl rfl rfl rfl (x := .v (.agg [.sl 1 (((row09.getD (IntKind.i64.wrap (j3 - (1 : Int))).toNat default).Words).map eStr), .int .i64 ((row09.getD (IntKind.i64.wrap (j3 - (1 : Int))).toNat default).Share)])) (fun hg => q_rload tbOk rfl sideR rfl (map_getD (f := eJ) (g2 hg).2 (g2 hg).1) rfl) ?_;revert h;refine zb fun v4 hvv4 h => ?_;refine WR.gcall0 fn123 rfl rfl rfl rfl rfl (fun _ => sideR) rfl (fun hg => (charLess_con hw (ite_t hg hvv4))) ?_;refine wr 2 rfl sideR ?_;refine WR.nil (by kernel_rfl) (WQ.thenNormal ?_);revert h;refine ci (fun hc2 h => ?_) (fun hc2 h => ?_)
   ·refine kn (sb (WC.order mixed ?_));refine wr 8 rfl trivial ?_;obtain ⟨g3, h⟩ := grd h;refine WR.q [0] rfl rfl rfl (q_ridx tbOk rfl tr rfl (by simpa only [List.length_map] using g3)) ?_;refine WR.q [0] rfl rfl rfl (x := .v (.agg [.sl 1 (((row09.getD (IntKind.i64.wrap (j3 - (1 : Int))).toNat default).Words).map eStr), .int .i64 ((row09.getD (IntKind.i64.wrap (j3 - (1 : Int))).toNat default).Share)])) (q_rload tbOk rfl tr rfl (map_getD (f := eJ) g3.2 g3.1) rfl) ?_;refine wr 2 rfl trivial ?_;obtain ⟨g4, h⟩ := grd h;refine WR.q [0] rfl rfl rfl (q_ridx tbOk rfl tr rfl (by simpa only [List.length_map] using g4)) ?_;refine WR.q [0] rfl rfl rfl (x := .v (.agg [.sl 1 (((row09.getD j3.toNat default).Words).map eStr), .int .i64 ((row09.getD j3.toNat default).Share)])) (q_rload tbOk rfl tr rfl (map_getD (f := eJ) g4.2 g4.1) rfl) ?_;obtain ⟨g5, h⟩ := grd h;refine WR.q [0] rfl rfl rfl (q_ridx tbOk rfl tr rfl (by simpa only [List.length_map] using g5)) ?_;refine WR.rstore tbOk ((row09.set j3.toNat (row09.getD (IntKind.i64.wrap (j3 - (1 : Int))).toNat default)).map eJ) rfl rfl rfl tr rfl (map_getD (f := eJ) g5.2 g5.1) rfl (mapset (f := eJ) (x := (row09.getD (IntKind.i64.wrap (j3 - (1 : Int))).toNat default)) (by rfl)) ?_;obtain ⟨g6, h⟩ := grd h;refine WR.q [0] rfl rfl rfl (q_ridx tbOk rfl tr rfl (by simpa only [List.length_map] using g6)) ?_;refine WR.rstore tbOk (((row09.set j3.toNat (row09.getD (IntKind.i64.wrap (j3 - (1 : Int))).toNat default)).set (IntKind.i64.wrap (j3 - (1 : Int))).toNat (row09.getD j3.toNat default)).map eJ) rfl rfl rfl tr rfl (map_getD (f := eJ) g6.2 g6.1) rfl (mapset (f := eJ) (x := (row09.getD j3.toNat default)) (by rfl)) ?_;refine WR.nil (by kernel_rfl) (bn (WC.region (lr3 rfl (WL.nil ?_))));cases h;exact WQ.next [] ((IntKind.i64.wrap (j3 - (1 : Int))), ((row09.set j3.toNat (row09.getD (IntKind.i64.wrap (j3 - (1 : Int))).toNat default)).set (IntKind.i64.wrap (j3 - (1 : Int))).toNat (row09.getD j3.toNat default))) sub (hn2 _ hf2)
   ·refine WC.exit (WQ.thenExit ?_);cases h;obtain rfl := he2 _ hf2;replace h := hk2;try dsimp only at h
    refine eb (WQ.blockNormal ?_);exact WQ.cut [] row09 sub h
  ·intro row08 h;try dsimp only at h;unfold insSort_j1 at h;try dsimp only
   refine WC.region (lr3 rfl (WL.nil ?_));cases h;exact WQ.next [] ((IntKind.i64.wrap (i + (1 : Int))), row08) sub (hn1 _ hf1)
 ·refine WC.exit (WQ.thenExit ?_);cases h;obtain rfl := he1 _ hf1;replace h := hk1;try dsimp only at h
  refine eb ?_;cases h;exact WQ.rets tbOk (r := .tup []) hR [] (.inr rfl) rfl rfl (Le.tup .nil) eqs rfl rfl rfl rfl
theorem stableSort_con {wg : World} (hw : WG wg) {data : (List YI)} {n1 : Int} {r : (List YI)} (h : stableSort data n1 = some r) : Con Tryz.prog wg gl 154 [.r 0, iv n1, .fn 123 []] [(0, .row 72 2 (data.map eJ))] (.tup []) [(0, .row 72 2 (r.map eJ))] := by
 unfold stableSort at h;refine cw Tryz.func154 Tryz.ntmps154 ?_;intro F L w ρ0 R hR;try dsimp only [zP1]
 refine sr (lr1 rfl (ns (lr3 rfl (nn (WC.seq ?_)))));refine WC.thenCut (X := Int × (List YI)) (fun gG => ⟨[(7, iv gG.1), (6, iv (20 : Int)), (0, .r 0), (1, iv n1), (2, .fn 123 [])], [(0, .row 72 2 (gG.2.map eJ))]⟩) (fun gG => stableSort_j1 n1 gG.1 gG.2 = some r) ?_ ?_
 ·refine WC.block ?_;obtain ⟨eQ3, hl3, hk3⟩ := bnd h;clear h;refine WC.loop (σ := Int × Int × (List YI)) (τ := (Int × (List YI))) (fun sS => ⟨[(8, iv sS.1), (7, iv sS.2.1), (6, iv (20 : Int)), (0, .r 0), (1, iv n1), (2, .fn 123 [])], [(0, .row 72 2 (sS.2.2.map eJ))]⟩) (stableSort_b3 n1) [] ((20 : Int), (0 : Int), data) hl3 sub ?_;rintro ⟨b5, a10, row02⟩ m hn3 he3 hx3;obtain ⟨o3, hf3⟩ := zQ1 hx3;have h := hf3;unfold stableSort_b3 at h;try dsimp only
  refine WC.seq (sr (lr3 rfl (nn ?_)));revert h;refine ci (fun hc4 h => ?_) (fun hc4 h => ?_)
  ·refine kn (WC.block (sr (lr4 rfl ?_)));revert h;refine zb fun v3 hvv3 h => ?_;refine WL.callO [(0, 0)] [(0, 0)] [0] fn175 rfl rfl rfl rfl tr (insSort_con hw hvv3) rfl rfl eqs rfl rfl rfl rfl rfl rfl ?_;refine ns (lr2 rfl (nn (WC.region (lr4 rfl (WL.nil (WQ.blockNormal ?_))))));cases h;exact WQ.next [] ((IntKind.i64.wrap (b5 + (20 : Int))), b5, v3) sub (hn3 _ hf3)
  ·refine WC.exit (WQ.thenExit ?_);cases h;obtain rfl := he3 _ hf3;replace h := hk3;try dsimp only at h
   refine eb ?_;exact WQ.cut [] (a10, row02) sub h
 ·rintro ⟨a, row0⟩ h;try dsimp only at h;unfold stableSort_j1 at h;try dsimp only
  refine sr (lr4 rfl ?_);revert h;refine zb fun v hvv h => ?_;refine WL.callO [(0, 0)] [(0, 0)] [0] fn175 rfl rfl rfl rfl tr (insSort_con hw hvv) rfl rfl eqs rfl rfl rfl rfl rfl rfl ?_;refine nn (WC.block ?_);obtain ⟨eQ1, hl1, hk1⟩ := bnd h;clear h;refine WC.loop (σ := Int) (τ := (Unit)) (fun sS => ⟨[(6, iv sS), (0, .r 0), (1, iv n1), (2, .fn 123 [])], [(0, .row 72 2 (v.map eJ))]⟩) (stableSort_b1 n1 v) [] (20 : Int) hl1 sub ?_;intro blockSize m hn1 he1 hx1;obtain ⟨o1, hf1⟩ := zQ1 hx1;have h := hf1;unfold stableSort_b1 at h;try dsimp only
  refine WC.seq (sr (lr3 rfl (nn ?_)));revert h;refine ci (fun hc1 h => ?_) (fun hc1 h => ?_)
  ·refine kn (WC.block (sr (lr4 rfl (nn (WC.seq ?_)))));refine WC.thenCut (X := Int) (fun gG => ⟨[(7, iv gG), (6, iv blockSize), (0, .r 0), (1, iv n1), (2, .fn 123 [])], [(0, .row 72 2 (v.map eJ))]⟩) (fun gG => stableSort_j2 n1 v blockSize gG = some o1) ?_ ?_
   ·refine WC.block ?_;obtain ⟨eQ2, hl2, hk2⟩ := bnd h;clear h;refine WC.loop (σ := Int × Int) (τ := (Int)) (fun sS => ⟨[(8, iv sS.1), (7, iv sS.2), (6, iv blockSize), (0, .r 0), (1, iv n1), (2, .fn 123 [])], [(0, .row 72 2 (v.map eJ))]⟩) (stableSort_b2 n1 v blockSize) [] ((IntKind.i64.wrap ((2 : Int) * blockSize)), (0 : Int)) hl2 sub ?_;rintro ⟨b3, a7⟩ m hn2 he2 hx2;obtain ⟨o2, hf2⟩ := zQ1 hx2;have h := hf2;unfold stableSort_b2 at h;try dsimp only
    refine WC.seq (sr (lr3 rfl (nn ?_)));revert h;refine ci (fun hc3 h => ?_) (fun hc3 h => ?_)
    ·refine kn (WC.block (WC.seq ?_));cases h
    ·refine WC.exit (WQ.thenExit ?_);cases h;obtain rfl := he2 _ hf2;replace h := hk2;try dsimp only at h
     refine eb ?_;exact WQ.cut [] a7 sub h
   ·intro a6 h;try dsimp only at h;unfold stableSort_j2 at h;try dsimp only
    refine WC.seq (sr (lr4 rfl (ns (lr3 rfl (nn ?_)))));revert h;refine ci (fun hc2 h => ?_) (fun hc2 h => ?_)
    ·cases h
    ·refine kn (WC.region (lr3 rfl (WL.nil (WQ.blockNormal ?_))));cases h;exact WQ.next [] (IntKind.i64.wrap (blockSize * (2 : Int))) sub (hn1 _ hf1)
  ·refine WC.exit (WQ.thenExit ?_);cases h;obtain rfl := he1 _ hf1;replace h := hk1;try dsimp only at h
   refine eb ?_;cases h;exact WQ.rets tbOk (r := .tup []) hR [] (.inr rfl) rfl rfl (Le.tup .nil) eqs rfl rfl rfl rfl
theorem sortStable_con {wg : World} (hw : WG wg) {x : (List YI)} {r : (List YI)} (h : sortStable x = some r) : Con Tryz.prog wg gl 122 [.r 0, .fn 123 []] [(0, .row 72 2 (x.map eJ))] (.tup []) [(0, .row 72 2 (r.map eJ))] := by
 unfold sortStable at h;refine cw Tryz.func122 Tryz.ntmps122 ?_;intro F L w ρ0 R hR;try dsimp only [zP1]
 refine WC.region (lr2 rfl ?_);refine WL.q [0] rfl rfl rfl (q_ev tbOk (iv (x.length : Int)) rfl tr lenT) ?_;refine lr1 rfl ?_;revert h;refine zb fun v hvv h => ?_;refine WL.callO [(0, 0)] [(0, 0)] [0] fn154 rfl rfl rfl rfl tr (stableSort_con hw hvv) rfl rfl eqs rfl rfl rfl rfl rfl rfl ?_;refine WL.nil ?_;cases h;exact WQ.rets tbOk (r := .tup []) hR [] (.inr rfl) rfl rfl (Le.tup .nil) eqs rfl rfl rfl rfl
theorem goodsCharacters_con {wg : World} (hw : WG wg) {g : YR} {r : (List YI)} (h : goodsCharacters g = some r) : Con Tryz.prog wg gl 71 [.v (.agg (eS g))] [] (.v (.sl 2 (r.map eJ))) [] := by
 unfold goodsCharacters at h;refine cw Tryz.func71 Tryz.ntmps71 ?_;intro F L w ρ0 R hR;try dsimp only [zP1]
 refine sr (lr2 rfl (ns (lr1 rfl (nn (WC.seq (sr (lr2 rfl ?_)))))));refine WL.q [] rfl rfl rfl (q_ev tbOk (iv (g.Parts.length : Int)) rfl tr lenT) ?_;refine lr1 rfl (nn ?_);refine WC.thenCut (X := (List YI)) (fun gG => ⟨[(3, .r 1003), (1, .p 1 0)], [(1003, .row 72 2 (gG.map eJ)), (1, .blk 32 (kv (eS g)))]⟩) (fun gG => goodsCharacters_j1 g gG = some r) ?_ ?_
 ·refine WC.block ?_;obtain ⟨eQ2, hl2, hk2⟩ := bnd h;clear h;refine WC.rowNil 3 1003 72 2 rfl rfl ?_;refine WC.loop (σ := Int × (List YI)) (τ := ((List YI))) (fun sS => ⟨[(11, iv sS.1), (10, iv (g.Parts.length : Int)), (9, .v (.sl 2 (g.Parts.map eJ))), (3, .r 1003), (1, .p 1 0)], [(1003, .row 72 2 (sS.2.map eJ)), (1, .blk 32 (kv (eS g)))]⟩) (goodsCharacters_b2 g) [] ((0 : Int), []) hl2 sub ?_;rintro ⟨t112, l6⟩ m hn2 he2 hx2;obtain ⟨o2, hf2⟩ := zQ1 hx2;have h := hf2;unfold goodsCharacters_b2 at h;try dsimp only
  refine sr (lr1 rfl (nn (WC.seq ?_)));revert h;refine ci (fun hc3 h => ?_) (fun hc3 h => ?_)
  ·refine kn (sb (sr ?_));obtain ⟨g3, h⟩ := grd h;revert h;refine zb fun x5 hxx5 h => ?_;refine WL.q [] rfl rfl rfl (q_idx tbOk rfl tr g3 (zM1 (f := eJ) hxx5)) ?_;refine lr3 rfl (nn (WC.order mixed ?_));refine wr 3 rfl trivial ?_;revert h;refine zb fun v4 hvv4 h => ?_;refine WR.call0 fn119 rfl rfl rfl rfl tr rfl (cloneS_con hw hvv4) ?_;refine wr 4 rfl trivial ?_;obtain ⟨g4, h⟩ := grd h;refine WR.append tbOk ((l6 ++ [(⟨v4, x5.Share⟩ : YI)]).map eJ) [23, 1003] ap30 rfl rfl rfl rfl ce tr (zL1 (f := eJ) (xs := [(⟨v4, x5.Share⟩ : YI)]) fun _ => rfl) (al g4) rfl rfl ma rfl rfl ?_;refine wr 1 rfl trivial ?_;refine WR.nil (by kernel_rfl) (bn (WC.region (lr2 rfl (WL.nil ?_))));cases h;exact WQ.next [(1003, 23)] ((IntKind.i64.wrap (t112 + (1 : Int))), (l6 ++ [(⟨v4, x5.Share⟩ : YI)])) sub (hn2 _ hf2)
  ·refine WC.exit (WQ.thenExit ?_);cases h;obtain rfl := he2 _ hf2;replace h := hk2;try dsimp only at h
   refine eb ?_;exact WQ.cut [] l6 sub h
 ·intro l h;try dsimp only at h;unfold goodsCharacters_j1 at h;try dsimp only
  refine WC.seq (sr (lr2 rfl ?_));refine WL.q [] rfl rfl rfl (q_ev tbOk (iv (g.Parts.length : Int)) rfl tr lenT) ?_;refine lr1 rfl (nn ?_);refine WC.thenCut (X := (List YI)) (fun gG => ⟨[(3, .r 1003)], [(1003, .row 72 2 (gG.map eJ))]⟩) (fun gG => goodsCharacters_j2 gG = some r) ?_ ?_
  ·revert h;refine ci (fun hc1 h => ?_) (fun hc1 h => ?_)
   ·refine sr (lr2 rfl ?_);refine WL.q [] rfl rfl rfl (q_ev tbOk (iv (g.Materials.length : Int)) rfl tr lenT) ?_;refine lr1 rfl (nn (WC.block ?_));obtain ⟨eQ1, hl1, hk1⟩ := bnd h;clear h;refine WC.loop (σ := Int × (List YI)) (τ := ((List YI))) (fun sS => ⟨[(32, iv sS.1), (31, iv (g.Materials.length : Int)), (30, .v (.sl 2 (g.Materials.map eA1))), (3, .r 1003)], [(1003, .row 72 2 (sS.2.map eJ))]⟩) (goodsCharacters_b1 g) [] ((0 : Int), l) hl1 sub ?_;rintro ⟨t32, l3⟩ m hn1 he1 hx1;obtain ⟨o1, hf1⟩ := zQ1 hx1;have h := hf1;unfold goodsCharacters_b1 at h;try dsimp only
    refine sr (lr1 rfl (nn (WC.seq ?_)));revert h;refine ci (fun hc2 h => ?_) (fun hc2 h => ?_)
    ·refine kn (sb (sr ?_));obtain ⟨g1, h⟩ := grd h;revert h;refine zb fun x2 hxx2 h => ?_;refine WL.q [] rfl rfl rfl (q_idx tbOk rfl tr g1 (zM1 (f := eA1) hxx2)) ?_;refine lr3 rfl (nn (WC.region (lr 8 rfl trivial ?_)));obtain ⟨g2, h⟩ := grd h;refine WL.append tbOk ((l3 ++ [(⟨[x2.Name], x2.Share⟩ : YI)]).map eJ) [44, 1003] ap30 rfl rfl rfl rfl ce tr (zL1 (f := eJ) (xs := [(⟨[x2.Name], x2.Share⟩ : YI)]) fun _ => rfl) (al g2) rfl rfl ma rfl ?_;refine lr1 rfl (WL.nil (bn (WC.region (lr2 rfl (WL.nil ?_)))));cases h;exact WQ.next [(1003, 44)] ((IntKind.i64.wrap (t32 + (1 : Int))), (l3 ++ [(⟨[x2.Name], x2.Share⟩ : YI)])) sub (hn1 _ hf1)
    ·refine WC.exit (WQ.thenExit ?_);cases h;obtain rfl := he1 _ hf1;replace h := hk1;try dsimp only at h
     refine eb ?_;exact WQ.cut [] l3 sub h
   ·refine WC.skip ?_;exact WQ.cut [] l sub h
  ·intro l2 h;try dsimp only at h;unfold goodsCharacters_j2 at h;try dsimp only
   refine sr (lr1 rfl ?_);revert h;refine zb fun v hvv h => ?_;refine WL.callO [(0, 1003)] [(0, 1003)] [1003] fn122 rfl rfl rfl rfl tr (sortStable_con hw hvv) rfl rfl eqs rfl rfl rfl rfl rfl rfl ?_;refine ns (lr2 rfl (nr ?_));refine WQ.publish 1003 rfl rfl ?_;cases h;exact rt tbOk hR
theorem refCharacters_con {wg : World} (hw : WG wg) {g : YR} {r : (List YI)} (h : refCharacters g = some r) : Con Tryz.prog wg gl 136 [.v (.agg (eS g))] [] (.v (.sl 2 (r.map eJ))) [] := by
 unfold refCharacters at h;refine cw Tryz.func136 Tryz.ntmps136 ?_;intro F L w ρ0 R hR;try dsimp only [zP1]
 refine sr (lr2 rfl (ns ?_));refine WL.buildRow tbOk (([] : (List YI)).map eJ) rfl rfl rfl rfl tr rfl rfl ?_;refine lr2 rfl ?_;obtain ⟨g1, h⟩ := grd h;refine WL.append tbOk (g.Parts.map eJ) [11, 8] ap30 rfl rfl rfl rfl ce tr (zL1 (f := eJ) (xs := g.Parts) fun _ => rfl) (al g1) rfl rfl rfl rfl ?_;refine lr1 rfl (nn (WC.seq (sr (lr1 rfl ?_))));refine WL.q [11] rfl rfl rfl (q_ev tbOk (iv (g.Parts.length : Int)) rfl tr lenT) ?_;refine lr1 rfl (nn ?_);refine WC.thenCut (X := (List YI)) (fun gG => ⟨[(3, .r 1003)], [(1003, .row 72 2 (gG.map eJ))]⟩) (fun gG => refCharacters_j1 gG = some r) ?_ ?_
 ·revert h;refine ci (fun hc4 h => ?_) (fun hc4 h => ?_)
  ·refine sr (lr1 rfl (nn (WC.block ?_)));obtain ⟨eQ3, hl3, hk3⟩ := bnd h;clear h;refine WC.loop (σ := Int × (List YI)) (τ := ((List YI))) (fun sS => ⟨[(4, iv sS.1), (3, .r 1003), (1, .p 1 0)], [(1003, .row 72 2 (sS.2.map eJ)), (1, .blk 32 (kv (eS g)))]⟩) (refCharacters_b3 g) [(1003, 11)] ((0 : Int), g.Parts) hl3 sub ?_;rintro ⟨i7, l22⟩ m hn3 he3 hx3;obtain ⟨o3, hf3⟩ := zQ1 hx3;have h := hf3;unfold refCharacters_b3 at h;try dsimp only
   refine WC.seq (sr (lr3 rfl ?_));refine WL.q [] rfl rfl rfl (q_ev tbOk (iv (g.Materials.length : Int)) rfl tr lenT) ?_;refine lr1 rfl (nn ?_);revert h;refine ci (fun hc5 h => ?_) (fun hc5 h => ?_)
   ·refine kn (sb (WC.order mixed ?_));refine wr 4 rfl trivial ?_;obtain ⟨g10, h⟩ := grd h;revert h;refine zb fun x3 hxx3 h => ?_;refine WR.q [] rfl rfl rfl (q_idx tbOk rfl tr g10 (zM1 (f := eA1) hxx3)) ?_;refine wr 6 rfl trivial ?_;obtain ⟨g11, h⟩ := grd h;revert h;refine zb fun x4 hxx4 h => ?_;refine WR.q [] rfl rfl rfl (q_idx tbOk rfl tr g11 (zM1 (f := eA1) hxx4)) ?_;refine wr 4 rfl trivial ?_;obtain ⟨g12, h⟩ := grd h;refine WR.append tbOk ((l22 ++ [(⟨[x3.Name], x4.Share⟩ : YI)]).map eJ) [38, 1003] ap30 rfl rfl rfl rfl ce tr (zL1 (f := eJ) (xs := [(⟨[x3.Name], x4.Share⟩ : YI)]) fun _ => rfl) (al g12) rfl rfl ma rfl rfl ?_;refine wr 1 rfl trivial ?_;refine WR.nil (by kernel_rfl) (bn (WC.region (lr3 rfl (WL.nil ?_))));cases h;exact WQ.next [(1003, 38)] ((IntKind.i64.wrap (i7 + (1 : Int))), (l22 ++ [(⟨[x3.Name], x4.Share⟩ : YI)])) sub (hn3 _ hf3)
   ·refine WC.exit (WQ.thenExit ?_);cases h;obtain rfl := he3 _ hf3;replace h := hk3;try dsimp only at h
    refine eb ?_;exact WQ.cut [] l22 sub h
  ·refine WC.skip ?_;exact WQ.cut [(1003, 11)] g.Parts sub h
 ·intro l h;try dsimp only at h;unfold refCharacters_j1 at h;try dsimp only
  refine sr (lr1 rfl (nn (WC.seq ?_)));refine WC.thenCut (X := (List YI)) (fun gG => ⟨[(5, .r 1005)], [(1005, .row 72 2 (gG.map eJ))]⟩) (fun gG => refCharacters_j2 gG = some r) ?_ ?_
  ·refine WC.block ?_;obtain ⟨eQ1, hl1, hk1⟩ := bnd h;clear h;refine WC.rowNil 5 1005 72 2 rfl rfl ?_;refine WC.loop (σ := (List YI) × (List YI)) (τ := ((List YI))) (fun sS => ⟨[(5, .r 1005), (3, .r 1003)], [(1005, .row 72 2 (sS.1.map eJ)), (1003, .row 72 2 (sS.2.map eJ))]⟩) (refCharacters_b1) [] ([], l) hl1 sub ?_;rintro ⟨out2, l9⟩ m hn1 he1 hx1;obtain ⟨o1, hf1⟩ := zQ1 hx1;have h := hf1;unfold refCharacters_b1 at h;try dsimp only
   refine WC.seq (sr (lr1 rfl ?_));refine WL.q [1003] rfl rfl rfl (q_ev tbOk (iv (l9.length : Int)) rfl tr lenT) ?_;refine lr1 rfl (nn ?_);revert h;refine ci (fun hc1 h => ?_) (fun hc1 h => ?_)
   ·refine kn (WC.block (sr (lr1 rfl (nn (WC.seq (sr (lr1 rfl (nn ?_))))))));refine WC.thenCut (X := Int × (List YI) × (List YI)) (fun gG => ⟨[(6, iv gG.1), (5, .r 1005), (3, .r 1003)], [(1005, .row 72 2 (gG.2.1.map eJ)), (1003, .row 72 2 (gG.2.2.map eJ))]⟩) (fun gG => refCharacters_j3 gG.1 gG.2.1 gG.2.2 = some o1) ?_ ?_
    ·refine WC.block ?_;obtain ⟨eQ2, hl2, hk2⟩ := bnd h;clear h;refine WC.loop (σ := Int × Int × (List YI) × (List YI)) (τ := (Int × (List YI) × (List YI))) (fun sS => ⟨[(7, iv sS.1), (6, iv sS.2.1), (5, .r 1005), (3, .r 1003)], [(1005, .row 72 2 (sS.2.2.1.map eJ)), (1003, .row 72 2 (sS.2.2.2.map eJ))]⟩) (refCharacters_b2) [] ((1 : Int), (0 : Int), out2, l9) hl2 sub ?_;rintro ⟨i5, best14, out11, l17⟩ m hn2 he2 hx2;obtain ⟨o2, hf2⟩ := zQ1 hx2;have h := hf2;unfold refCharacters_b2 at h;try dsimp only
     refine WC.seq (sr (lr2 rfl ?_));refine WL.q [1003] rfl rfl rfl (q_ev tbOk (iv (l17.length : Int)) rfl tr lenT) ?_;refine lr1 rfl (nn ?_);revert h;refine ci (fun hc2 h => ?_) (fun hc2 h => ?_)
     ·refine kn (WC.seq ?_);refine WC.thenCut (X := Int × (List YI) × (List YI)) (fun gG => ⟨[(6, iv gG.1), (7, iv i5), (5, .r 1005), (3, .r 1003)], [(1005, .row 72 2 (gG.2.1.map eJ)), (1003, .row 72 2 (gG.2.2.map eJ))]⟩) (fun gG => refCharacters_j4 i5 gG.1 gG.2.1 gG.2.2 = some o2) ?_ ?_
      ·refine WC.block (WC.seq (WC.order mixed ?_));refine wr 2 rfl trivial ?_;obtain ⟨g8, h⟩ := grd h;refine WR.q [1003] rfl rfl rfl (q_ridx tbOk rfl tr rfl (by simpa only [List.length_map] using g8)) ?_;refine wr 1 rfl trivial ?_;refine WR.q [1003] rfl rfl rfl (x := iv ((l17.getD i5.toNat default).Share)) (q_rload tbOk rfl tr rfl (map_getD (f := eJ) g8.2 g8.1) rfl) ?_;refine wr 2 rfl trivial ?_;obtain ⟨g9, h⟩ := grd h;refine WR.q [1003] rfl rfl rfl (q_ridx tbOk rfl tr rfl (by simpa only [List.length_map] using g9)) ?_;refine wr 1 rfl trivial ?_;refine WR.q [1003] rfl rfl rfl (x := iv ((l17.getD best14.toNat default).Share)) (q_rload tbOk rfl tr rfl (map_getD (f := eJ) g9.2 g9.1) rfl) ?_;refine wr 1 rfl trivial ?_;refine WR.nil (by kernel_rfl) (WQ.thenNormal ?_);revert h;refine ci (fun hc3 h => ?_) (fun hc3 h => ?_)
       ·refine WC.region (lr2 rfl (WL.nil (WQ.blockNormal ?_)));exact WQ.cut [] (i5, out11, l17) sub h
       ·refine WC.skip (WQ.blockNormal ?_);exact WQ.cut [] (best14, out11, l17) sub h
      ·rintro ⟨best18, out15, l21⟩ h;try dsimp only at h;unfold refCharacters_j4 at h;try dsimp only
       refine WC.region (lr3 rfl (WL.nil ?_));cases h;exact WQ.next [] ((IntKind.i64.wrap (i5 + (1 : Int))), best18, out15, l21) sub (hn2 _ hf2)
     ·refine WC.exit (WQ.thenExit ?_);cases h;obtain rfl := he2 _ hf2;replace h := hk2;try dsimp only at h
      refine eb ?_;exact WQ.cut [] (best14, out11, l17) sub h
    ·rintro ⟨best13, out10, l16⟩ h;try dsimp only at h;unfold refCharacters_j3 at h;try dsimp only
     refine sr (lr3 rfl ?_);obtain ⟨g2, h⟩ := grd h;refine WL.q [1003] rfl rfl rfl (q_ridx tbOk rfl tr rfl (by simpa only [List.length_map] using g2)) ?_;refine WL.q [1003] rfl rfl rfl (x := .v (.agg [.sl 1 (((l16.getD best13.toNat default).Words).map eStr), .int .i64 ((l16.getD best13.toNat default).Share)])) (q_rload tbOk rfl tr rfl (map_getD (f := eJ) g2.2 g2.1) rfl) ?_;refine lr1 rfl ?_;obtain ⟨g3, h⟩ := grd h;refine WL.append tbOk ((out10 ++ [(l16.getD best13.toNat default)]).map eJ) [66, 1005] ap30 rfl rfl rfl rfl ce tr (zL1 (f := eJ) (xs := [(l16.getD best13.toNat default)]) fun _ => rfl) (al g3) rfl rfl ma rfl ?_;refine lr1 rfl (nn ?_);refine WC.publish 1003 rfl rfl ?_;refine WC.order mixed ?_;refine WR.buildRow tbOk (([] : (List YI)).map eJ) rfl rfl rfl rfl tr rfl rfl ?_;refine wr 2 rfl trivial ?_;obtain ⟨g4, h⟩ := grd h;refine WR.q [] rfl rfl rfl (q_ev tbOk (.v (.sl 2 (((l16.take best13.toNat).drop (0 : Int).toNat).map eJ))) rfl sideR tdT) ?_;obtain ⟨g5, h⟩ := grd h;refine WR.append tbOk (((l16.take best13.toNat).drop (0 : Int).toNat).map eJ) [71, 67] ap30 rfl rfl rfl rfl ce tr (zL1 (f := eJ) (xs := ((l16.take best13.toNat).drop (0 : Int).toNat)) fun _ => rfl) (al g5) rfl rfl rfl rfl rfl ?_;refine wr 3 rfl trivial ?_;obtain ⟨g6, h⟩ := grd h;refine WR.q [] rfl rfl rfl (q_ev tbOk (.v (.sl 2 ((l16.drop (IntKind.i64.wrap (best13 + (1 : Int))).toNat).map eJ))) rfl sideR tdT) ?_;obtain ⟨g7, h⟩ := grd h;refine WR.append tbOk ((((l16.take best13.toNat).drop (0 : Int).toNat) ++ (l16.drop (IntKind.i64.wrap (best13 + (1 : Int))).toNat)).map eJ) [76, 71] ap30 rfl rfl rfl rfl ce tr (zL1 (f := eJ) (xs := (l16.drop (IntKind.i64.wrap (best13 + (1 : Int))).toNat)) fun _ => rfl) (al g7) rfl rfl ma rfl rfl ?_;refine wr 1 rfl trivial ?_;refine WR.nil (by kernel_rfl) (WQ.blockNormal ?_);cases h;exact WQ.next [(1005, 66), (1003, 76)] ((out10 ++ [(l16.getD best13.toNat default)]), (((l16.take best13.toNat).drop (0 : Int).toNat) ++ (l16.drop (IntKind.i64.wrap (best13 + (1 : Int))).toNat))) sub (hn1 _ hf1)
   ·refine WC.exit (WQ.thenExit ?_);cases h;obtain rfl := he1 _ hf1;replace h := hk1;try dsimp only at h
    refine eb ?_;exact WQ.cut [] out2 sub h
  ·intro out h;try dsimp only at h;unfold refCharacters_j2 at h;try dsimp only
   refine sr (lr2 rfl (nr ?_));refine WQ.publish 1005 rfl rfl ?_;cases h;exact rt tbOk hR
end Go.Proofs.YtaeplfiaahkgpaaGreatDoor
end zCn
noncomputable section zSo
set_option linter.unusedVariables false
set_option linter.unusedSimpArgs false
namespace Go.Proofs.YtaeplfiaahkgpaaGreatDoor
open Go.V Go.C Go.RowKit Go.Sort
theorem rows_strs2 {w : World} {X : Nat → Prop} : ∀ {xs : List Str} {rows : List (List Value)}, RepRows w X (xs.map eStr) rows → rows = xs.map fun s => [Value.string ⟨⟨s⟩⟩]
 | [], rows, h => by simp only [List.map_nil, RepRows] at h; subst h; rfl
 | x :: xs, rows, h => by
  simp only [List.map_cons, RepRows] at h
  obtain ⟨c, r, rfl, h1, h2⟩ := h
  simp only [eStr, Reps, Rep] at h1
  obtain ⟨v, q, rfl, rfl, rfl⟩ := h1
  rw [rows_strs2 h2, List.map_cons]
theorem reps_strs2 {w : World} {X : Nat → Prop} : ∀ xs : List Str, RepRows w X (xs.map eStr) (xs.map fun s => [Value.string ⟨⟨s⟩⟩])
 | [] => by simp [RepRows]
 | x :: xs => by
  simp only [List.map_cons, RepRows, eStr, Reps, Rep]
  exact ⟨_, _, rfl, ⟨_, _, rfl, rfl, rfl⟩, reps_strs2 xs⟩
theorem flat_strs (xs : List Str) : (xs.map fun s => [Value.string ⟨⟨s⟩⟩]).flatten = xs.map encStr := by
 induction xs with
 | nil => rfl
 | cons x xs ih => simp only [List.map_cons, List.flatten_cons, ih]; rfl
theorem put_take {w : World} {g e : Nat} {cur : Array Value} {fz : Nat × Nat} (hg : w.heap[g]? = some (.cells cur e fz)) (q : Nat) (d : List Str) (hle : d.length ≤ cur.size) :
  ∃ cur' : Array Value, (putRow encStr (Sort.ahead w q) g 0 d.toArray).heap[g]? = some (.cells cur' e fz) ∧ cur'.size = cur.size ∧ cur'.toList.take d.length = d.map encStr := by
 refine ⟨putCells encStr 0 d.toArray cur, ?_, by simp [putCells], ?_⟩
 ·show (w.heap.modify g (onCells (putCells encStr 0 d.toArray)))[g]? = _
  rw [Array.getElem?_modify, if_pos rfl, hg]; rfl
 ·apply List.ext_getElem?
  intro i
  rw [List.getElem?_take, List.getElem?_map]
  by_cases hi : i < d.length
  ·rw [if_pos hi, List.getElem?_eq_getElem hi]
   simp only [putCells, Array.getElem?_toList, Array.getElem?_mapIdx, Array.getElem?_eq_getElem (by omega : i < cur.size), Option.map_some]
   rw [if_pos ⟨by omega, by simpa using hi⟩]
   simp [hi]
  ·rw [if_neg hi, List.getElem?_eq_none (by omega)]; rfl
theorem put_other {w : World} {g k : Nat} (q : Nat) (d : Array Str) (h : k ≠ g) : (putRow encStr (Sort.ahead w q) g 0 d).heap[k]? = w.heap[k]? := by
 show (w.heap.modify g _)[k]? = _
 rw [Array.getElem?_modify, if_neg (fun e => h e.symm)]
theorem put_size (w : World) (g q : Nat) (d : Array Str) : (putRow encStr (Sort.ahead w q) g 0 d).heap.size = w.heap.size := by
 show (w.heap.modify g _).size = _
 rw [Array.size_modify]
theorem holds_of {w : World} {g e n : Nat} {cur : Array Value} {fz : Nat × Nat} {l : List Str} (hg : w.heap[g]? = some (.cells cur e fz)) (hfz : fz.2 ≤ fz.1 ∨ cur.size ≤ fz.1) (hn : n = l.length) (hle : n ≤ cur.size) (ht : cur.toList.take n = l.map encStr) : Holds encStr w g 0 l.toArray := by
 intro j hj
 have hj : j < l.length := by simpa using hj
 have h1 : cur[j]? = some (encStr l[j]) := by
  have h2 : (cur.toList.take n)[j]? = some (encStr l[j]) := by rw [ht, List.getElem?_map, List.getElem?_eq_getElem hj]; rfl
  rw [List.getElem?_take, if_pos (by omega)] at h2
  simpa using h2
 have h3 : j < cur.size := by omega
 refine ⟨?_, ?_⟩
 ·simp only [World.cell?, hg, Nat.zero_add, h1]
  simp [hj]
 ·simp only [World.frozen?, hg, Nat.zero_add]
  rcases hfz with h | h <;> simp <;> omega
theorem obs_one {k : Nat} {o : Ob} {ρ : Nat → Value} {w : World} {X L : Nat → Prop} (h : ObOk (nmO [(k, o)]) ρ w X L (ρ k) o) : ObsOk [(k, o)] ρ w X L := by
 refine ⟨fun j o' hj => ?_, fun j o' j' o2 hj hj' hne _ _ b _ => ?_⟩
 ·by_cases e : k = j
  ·subst e; rw [zJ1] at hj; cases hj; exact h
  ·rw [zI1 _ _ e] at hj; cases hj
 ·by_cases e : k = j
  ·by_cases e' : k = j'
   ·exact absurd (e.symm.trans e') hne
   ·rw [zI1 _ _ e'] at hj'; cases hj'
  ·rw [zI1 _ _ e] at hj; cases hj
theorem sortS_con {wg : World} (hw : WG wg) {l r : List Str} (h : sortS l = some r) : Con Tryz.prog wg gl 152 [.r 0] [(0, .row 9 1 (l.map eStr))] (.tup []) [(0, .row 9 1 (r.map eStr))] := by
 unfold sortS at h
 split at h
 case isFalse => cases h
 rename_i hlen
 cases h
 intro w ρ F L vals hlow hdis hext hglob hobs hargs
 obtain ⟨rows, h1, h2, h3, h4⟩ := hobs.obj 0 _ rfl
 simp only [VReps, VRep] at hargs
 obtain ⟨a0, _, rfl, ⟨_, rfl⟩, rfl⟩ := hargs
 have hrows := rows_strs2 h1
 have hrl : rows.length = l.length := by rw [hrows, List.length_map]
 rcases h3.2 with ⟨hv, hn⟩ | ⟨g, cap, cur, fz, hv, hg, hfz, hcap, hmax, hcs, htake⟩
 ·have hl : l = [] := List.eq_nil_of_length_eq_zero (by omega)
  subst hl
  rw [hv]
  refine (Tryz.slices_Sort_string_none none 0 w).mono ?_
  rintro e w' ⟨rfl, rfl⟩
  refine ⟨_, ρ, L, rfl, by simp only [VRep]; exact ⟨[], rfl, by simp [VReps]⟩, obs_one ⟨rows, by simpa using h1, h2, h3, h4⟩, Step.refl _ _, fun b hb => hlow b (.inr hb), fun k v hk _ => (pinsOf_get hk).1⟩
 ·rw [hrows, flat_strs] at htake
  rw [hv, hrl]
  have hsz : l.length ≤ cur.size := by omega
  have htk : cur.toList.take l.length = l.map encStr := by rw [← htake, hrl.symm, hrows]; simp
  have hlt := (Array.getElem?_eq_some_iff.1 hg).1
  refine (Tryz.slices_Sort_string g 0 cap l w (holds_of hg hfz rfl hsz htk) hlt hlen).mono ?_
  rintro e w' ⟨rfl, n, os, rfl⟩
  have hml : (l.mergeSort fun x y => decide (x ≤ y)).length = l.length := List.length_mergeSort _
  obtain ⟨cur', c1, c2, c3⟩ := put_take hg n (l.mergeSort fun x y => decide (x ≤ y)) (by omega)
  have hps := put_size w g n (l.mergeSort fun x y => decide (x ≤ y)).toArray
  have hheap : ∀ k, k < w.heap.size → (grow (putRow encStr (Sort.ahead w n) g 0 (l.mergeSort fun x y => decide (x ≤ y)).toArray) os).heap[k]? = (putRow encStr (Sort.ahead w n) g 0 (l.mergeSort fun x y => decide (x ≤ y)).toArray).heap[k]? := fun k hk => by
   show (_ ++ os)[k]? = _
   rw [Array.getElem?_append_left (by rw [hps]; exact hk)]
  have hgs : w.heap.size ≤ (grow (putRow encStr (Sort.ahead w n) g 0 (l.mergeSort fun x y => decide (x ≤ y)).toArray) os).heap.size := by rw [size_grow, hps]; omega
  refine ⟨_, ρ, L, rfl, by simp only [VRep]; exact ⟨[], rfl, by simp [VReps]⟩, obs_one ⟨_, reps_strs2 _, fun r hr => ?_, ⟨?_, .inr ⟨g, cap, cur', fz, ?_, (hheap g hlt).trans c1, ?_, ?_, hmax, ?_, ?_⟩⟩, h4⟩, ⟨rfl, rfl, rfl, hgs, fun b hb hL => ?_, fun b hb => .inl hb⟩, fun b hb => Nat.lt_of_lt_of_le (hlow b (.inr hb)) hgs, fun k v hk _ => (pinsOf_get hk).1⟩
  ·obtain ⟨s, _, rfl⟩ := List.mem_map.1 hr; rfl
  ·rw [flat_strs]; simp
  ·rw [hv, List.length_map, hml, hrl]
  ·rw [c2]; exact hfz
  ·rw [List.length_map, hml]; omega
  ·rw [c2]; exact hcs
  ·rw [flat_strs, List.length_map, Nat.mul_one]; exact c3
  ·rw [hheap b hb]; exact put_other n _ (fun e => hL (h4 b (by rw [hv, e]; rfl)))
theorem compactS_con {wg : World} (hw : WG wg) {l r : List Str} (h : compactS l = some r) : Con Tryz.prog wg gl 153 [.r 0] [(0, .row 9 1 (l.map eStr))] (.r 500) [(0, .dead), (500, .row 9 1 (r.map eStr))] := by
 unfold compactS at h
 split at h
 case isFalse => cases h
 rename_i hlen
 cases h
 intro w ρ F L vals hlow hdis hext hglob hobs hargs
 obtain ⟨rows, h1, h2, h3, h4⟩ := hobs.obj 0 _ rfl
 simp only [VReps, VRep] at hargs
 obtain ⟨a0, _, rfl, ⟨_, rfl⟩, rfl⟩ := hargs
 have hrows := rows_strs2 h1
 have hrl : rows.length = l.length := by rw [hrows, List.length_map]
 have hcell0 : isCell (ρ 0) = true := by
  rcases h3.2 with ⟨hv, _⟩ | ⟨g, cap, cur, fz, hv, _⟩ <;> rw [hv] <;> rfl
 have obs : ∀ {o : Ob} {ρ' : Nat → Value} {w' : World} {X L' : Nat → Prop}, isCell (ρ' 0) = true → ObOk (nmO [(0, Ob.dead), (500, o)]) ρ' w' X L' (ρ' 500) o → ObsOk [(0, .dead), (500, o)] ρ' w' X L' := fun {o ρ' w' X L'} hc ho => by
  refine ⟨fun j o' hj => ?_, fun j o' j' o2 hj hj' hne l1 l2 b _ => ?_⟩
  ·by_cases e : 0 = j
   ·subst e; rw [zJ1] at hj; cases hj; exact hc
   ·rw [zI1 _ _ e] at hj
    by_cases e5 : 500 = j
    ·subst e5; rw [zJ1] at hj; cases hj; exact ho
    ·rw [zI1 _ _ e5] at hj; cases hj
  ·by_cases e : 0 = j
   ·subst e; rw [zJ1] at hj; cases hj; cases l1
   ·rw [zI1 _ _ e] at hj
    by_cases e' : 0 = j'
    ·subst e'; rw [zJ1] at hj'; cases hj'; cases l2
    ·rw [zI1 _ _ e'] at hj'
     by_cases e5 : 500 = j
     ·by_cases e6 : 500 = j'
      ·exact absurd (e5.symm.trans e6) hne
      ·rw [zI1 _ _ e6] at hj'; cases hj'
     ·rw [zI1 _ _ e5] at hj; cases hj
 have pins : ∀ (u : Value) k v, get (pinsOf ρ [(0, Ob.row 9 1 (l.map eStr))]) k = some v → nmO [(0, Ob.dead), (500, Ob.row 9 1 ((Lib.compact l).map eStr))] k → upd ρ 500 u k = v := fun u k v hk _ => by
  have h5 : k ≠ 500 := fun e => by subst e; cases hk
  rw [upd_ne h5]; exact (pinsOf_get hk).1
 by_cases hl : l = []
 ·subst hl
  have hn : rows.length = 0 := hrl
  have hcase : ∃ a c, ρ 0 = .slice a 0 c := by
   rcases h3.2 with ⟨hv, _⟩ | ⟨g, cap, cur, fz, hv, _⟩
   ·exact ⟨_, _, hv⟩
   ·exact ⟨_, _, by rw [hv, hn]⟩
  obtain ⟨a, c, hv⟩ := hcase
  rw [hv]
  refine (Tryz.slices_Compact_string_empty a c w).mono ?_
  rintro e w' ⟨rfl, rfl⟩
  refine ⟨_, upd ρ 500 (ρ 0), L, rfl, by simp only [VRep]; exact ⟨nmO_cons nmO_self, by rw [upd_self, hv]⟩, obs (by rw [upd_ne (by decide)]; exact hcell0) ?_, Step.refl _ _, fun b hb => hlow b (.inr hb), pins _⟩
  rw [upd_self]
  exact ⟨rows, by rw [show Lib.compact ([] : List Str) = [] from rfl]; exact h1, h2, h3, h4⟩
 ·rcases h3.2 with ⟨hv, hn⟩ | ⟨g, cap, cur, fz, hv, hg, hfz, hcap, hmax, hcs, htake⟩
  ·exact absurd (List.eq_nil_of_length_eq_zero (by omega)) hl
  ·rw [hrows, flat_strs] at htake
   rw [hv, hrl]
   have hsz : l.length ≤ cur.size := by omega
   have htk : cur.toList.take l.length = l.map encStr := by rw [← htake, hrl.symm, hrows]; simp
   have hlt := (Array.getElem?_eq_some_iff.1 hg).1
   refine (Tryz.slices_Compact_string g 0 cap l w (holds_of hg hfz rfl hsz htk) hlen (by omega)).mono ?_
   rintro e w' ⟨rfl, q, rfl⟩
   have hml : (Lib.compact l).length ≤ l.length := by
    unfold Lib.compact Lib.compactUpTo
    rw [List.length_map]
    exact Nat.le_trans (List.length_filter_le _ _) (by simp)
   obtain ⟨cur', c1, c2, c3⟩ := put_take hg q (Lib.compact l ++ List.replicate (l.length - (Lib.compact l).length) []) (by simp only [List.length_append, List.length_replicate]; omega)
   have hps := put_size w g q (Lib.compact l ++ List.replicate (l.length - (Lib.compact l).length) []).toArray
   have c4 : cur'.toList.take (Lib.compact l).length = (Lib.compact l).map encStr := by
    have := congrArg (List.take (Lib.compact l).length) c3
    rw [List.take_take, Nat.min_eq_left (by simp)] at this
    rw [this, List.map_append, List.take_left' (by simp)]
   refine ⟨_, upd ρ 500 (.slice (some ⟨g, 0, none⟩) (Lib.compact l).length cap), L, rfl, by simp only [VRep]; exact ⟨nmO_cons nmO_self, by rw [upd_self]⟩, obs (by rw [upd_ne (by decide)]; exact hcell0) ?_, ⟨rfl, rfl, rfl, by rw [hps]; exact Nat.le_refl _, fun b hb hL => put_other q _ (fun e => hL (h4 b (by rw [hv, e]; rfl))), fun b hb => .inl hb⟩, fun b hb => by rw [hps]; exact hlow b (.inr hb), pins _⟩
   rw [upd_self]
   refine ⟨_, reps_strs2 _, fun r hr => ?_, ⟨?_, .inr ⟨g, cap, cur', fz, ?_, c1, ?_, ?_, hmax, ?_, ?_⟩⟩, fun b hb => h4 b (by rw [hv]; simpa [ob] using hb)⟩
   ·obtain ⟨s, _, rfl⟩ := List.mem_map.1 hr; rfl
   ·rw [flat_strs]; simp
   ·rw [List.length_map]
   ·rw [c2]; exact hfz
   ·rw [List.length_map]; omega
   ·rw [c2]; exact hcs
   ·rw [flat_strs, List.length_map, Nat.mul_one]; exact c4
end Go.Proofs.YtaeplfiaahkgpaaGreatDoor
end zSo
