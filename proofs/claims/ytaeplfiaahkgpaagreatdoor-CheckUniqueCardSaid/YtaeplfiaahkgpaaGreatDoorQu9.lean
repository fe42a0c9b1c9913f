/- Packed by pack.py. -/
import Derived.Test.YtaeplfiaahkgpaaGreatDoorQu3
import Derived.Test.YtaeplfiaahkgpaaGreatDoorQu4
import Derived.Test.YtaeplfiaahkgpaaGreatDoorQu5
import Derived.Test.YtaeplfiaahkgpaaGreatDoorQu6
import Derived.Test.YtaeplfiaahkgpaaGreatDoorQu7
import Derived.Test.YtaeplfiaahkgpaaGreatDoorQu8
import Derived.Test.YtaeplfiaahkgpaaGreatDoorQu2
import Derived.IntWalk
import Derived.Lib.SplitLaws
import Derived.Lib.IndexLaws
import Derived.Lib.AtoiAllCases
noncomputable section zCt
set_option linter.unusedVariables false
set_option linter.unusedSimpArgs false
set_option maxHeartbeats 4000000
set_option maxRecDepth 20000
namespace Go.Proofs.YtaeplfiaahkgpaaGreatDoor
open Go.V Go.C
theorem summaryOf_con {wg : World} (hw : WG wg) {s : YL} {r : YE1} (h : summaryOf s = some r) : Con Tryz.prog wg gl 73 [.v (.agg (eM s))] [] (.v (.agg (eF1 r))) [] := by
 unfold summaryOf at h;refine cw Tryz.func73 Tryz.ntmps73 ?_;intro F L w ρ0 R hR;try dsimp only [zP1]
 refine sr (lr2 rfl (ns (lr 10 rfl trivial (nr ?_))));cases h;exact rt tbOk hR
theorem sEqual_con {wg : World} (hw : WG wg) {s1 : (List Str)} {s2 : (List Str)} {r : Bool} (h : sEqual s1 s2 = some r) : Con Tryz.prog wg gl 74 [.v (.sl 1 (s1.map eStr)), .v (.sl 1 (s2.map eStr))] [] (ov r) [] := by
 unfold sEqual at h;refine cw Tryz.func74 Tryz.ntmps74 ?_;intro F L w ρ0 R hR;try dsimp only [zP1]
 refine sr (lr1 rfl (nn (WC.seq (sr (lr1 rfl ?_)))));refine WL.q [] rfl rfl rfl (q_ev tbOk (iv (s1.length : Int)) rfl tr lenT) ?_;refine lr1 rfl ?_;refine WL.q [] rfl rfl rfl (q_ev tbOk (iv (s2.length : Int)) rfl tr lenT) ?_;refine lr1 rfl (nn ?_);revert h;refine ci (fun hc1 h => ?_) (fun hc1 h => ?_)
 ·refine sr (lr1 rfl (nr (WQ.thenRet ?_)));cases h;exact rt tbOk hR
 ·refine kn (WC.seq (sr (lr1 rfl ?_)));refine WL.q [] rfl rfl rfl (q_ev tbOk (iv (s1.length : Int)) rfl tr lenT) ?_;refine lr1 rfl (nn ?_);refine WC.thenCut (X := Unit) (fun gG => ⟨[], []⟩) (fun gG => sEqual_j1  = some r) ?_ ?_
  ·refine WC.block ?_;obtain ⟨eQ1, hl1, hk1⟩ := bnd h;clear h;refine WC.loop (σ := Int) (τ := ((Bool) ⊕ (Unit))) (fun sS => ⟨[(13, iv sS), (12, iv (s1.length : Int)), (0, .v (.sl 1 (s1.map eStr))), (1, .v (.sl 1 (s2.map eStr)))], []⟩) (sEqual_b1 s1 s2) [] (0 : Int) hl1 sub ?_;intro t13 m hn1 he1 hx1;obtain ⟨o1, hf1⟩ := zQ1 hx1;have h := hf1;unfold sEqual_b1 at h;try dsimp only
   refine sr (lr1 rfl (nn (WC.seq ?_)));revert h;refine ci (fun hc2 h => ?_) (fun hc2 h => ?_)
   ·refine kn (sb (sr (lr2 rfl (nn (WC.seq (WC.order mixed ?_))))));refine wr 2 rfl trivial ?_;obtain ⟨g1, h⟩ := grd h;revert h;refine zb fun x3 hxx3 h => ?_;refine WR.q [] rfl rfl rfl (q_idx tbOk rfl tr g1 (zM1 (f := eStr) hxx3)) ?_;refine wr 3 rfl trivial ?_;obtain ⟨g2, h⟩ := grd h;revert h;refine zb fun x4 hxx4 h => ?_;refine WR.q [] rfl rfl rfl (q_idx tbOk rfl tr g2 (zM1 (f := eStr) hxx4)) ?_;refine wr 2 rfl trivial ?_;refine WR.nil (by kernel_rfl) (WQ.thenNormal ?_);revert h;refine ci (fun hc3 h => ?_) (fun hc3 h => ?_)
    ·refine sr (lr1 rfl (nr (rb ?_)));cases h;obtain rfl := he1 _ hf1;have h : some false = some _ := hk1;refine WQ.thenRet (rb ?_);cases h;exact rt tbOk hR
    ·refine WC.skip (bn (WC.region (lr2 rfl (WL.nil ?_))));cases h;exact WQ.next [] (IntKind.i64.wrap (t13 + (1 : Int))) sub (hn1 _ hf1)
   ·refine WC.exit (WQ.thenExit ?_);cases h;obtain rfl := he1 _ hf1;replace h := hk1;try dsimp only at h
    refine eb ?_;exact WQ.cut [] () sub h
  ·intro _ h;try dsimp only at h;unfold sEqual_j1 at h;try dsimp only
   refine sr (lr1 rfl (nr ?_));cases h;exact rt tbOk hR
theorem sameC_con {wg : World} (hw : WG wg) {a : YL} {b : YL} {r : Bool} (h : sameC a b = some r) : Con Tryz.prog wg gl 33 [.v (.agg (eM a)), .v (.agg (eM b))] [] (ov r) [] := by
 unfold sameC at h;refine cw Tryz.func33 Tryz.ntmps33 ?_;intro F L w ρ0 R hR;try dsimp only [zP1]
 refine sr (lr3 rfl (nn (WC.seq (WC.order mixed ?_))));refine wr 1 rfl trivial ?_;revert h;refine zb fun v hvv h => ?_;refine WR.call0 fn73 rfl rfl rfl rfl tr rfl (summaryOf_con hw hvv) ?_;refine wr 1 rfl trivial ?_;revert h;refine zb fun v2 hvv2 h => ?_;refine WR.call0 fn73 rfl rfl rfl rfl tr rfl (summaryOf_con hw hvv2) ?_;refine WR.q [] rfl rfl rfl (q_eq rfl tr eg117 eqT117) ?_;refine wr 5 rfl sideR ?_;revert h;refine zb fun v3 hvv3 h => ?_;refine WR.gcall0 fn74 rfl rfl rfl rfl rfl (fun _ => sideR) rfl (fun hg => (sEqual_con hw (ite_t hg hvv3))) ?_;refine wr 2 rfl sideR ?_;refine WR.nil (by kernel_rfl) (WQ.thenNormal (WC.ret ?_));cases h;exact rt tbOk hR
theorem check_con {wg : World} (hw : WG wg) {b : YE} {day : Int} {g : YR} {code : Str} {steps : (List YL)} {r : Int × Int} (h : check b day g code steps = some r) : Con Tryz.prog wg gl 14 [.v (.agg (eF b)), iv day, .v (.agg (eS g)), tv code, .v (.sl 5 (steps.map eM))] [] (.tup [iv r.1, iv r.2]) [] := by
 unfold check at h;refine cw Tryz.func14 Tryz.ntmps14 ?_;intro F L w ρ0 R hR;try dsimp only [zP1]
 refine sr (lr4 rfl (ns (lr3 rfl ?_)));revert h;refine zb fun v hvv h => ?_;refine WL.call0 fn12 rfl rfl rfl rfl tr rfl (classify_con hw hvv) ?_;refine lr 7 rfl trivial (nn (WC.seq (sr (lr2 rfl (nn ?_)))));revert h;refine ci (fun hc1 h => ?_) (fun hc1 h => ?_)
 ·refine sr (lr2 rfl (nr (WQ.thenRet ?_)));cases h;exact WQ.rets tbOk (r := .tup [iv (0 : Int), iv (10 : Int)]) hR [] (.inl rfl) rfl rfl (Le.tup (.cons (Le.refl _) (.cons (Le.refl _) .nil))) tr rfl rfl rfl rfl
 ·refine kn (WC.seq (sr (lr2 rfl (nn ?_))));revert h;refine ci (fun hc2 h => ?_) (fun hc2 h => ?_)
  ·refine sr (lr3 rfl (nr (WQ.thenRet ?_)));cases h;exact WQ.rets tbOk (r := .tup [iv (0 : Int), iv v.2.2]) hR [] (.inl rfl) rfl rfl (Le.tup (.cons (Le.refl _) (.cons (Le.refl _) .nil))) tr rfl rfl rfl rfl
  ·refine kn (WC.seq (sr (lr1 rfl ?_)));refine WL.q [] rfl rfl rfl (q_ev tbOk (iv (steps.length : Int)) rfl tr lenT) ?_;refine lr1 rfl (nn ?_);refine WC.thenCut (X := Unit) (fun gG => ⟨[(13, .v (.sl 5 (v.2.1.map eM))), (12, tv v.1), (3, tv code), (4, .v (.sl 5 (steps.map eM)))], []⟩) (fun gG => check_j1 code steps v = some r) ?_ ?_
   ·refine WC.block ?_;obtain ⟨eQ1, hl1, hk1⟩ := bnd h;clear h;refine WC.loop (σ := Int) (τ := ((Int × Int) ⊕ (Unit))) (fun sS => ⟨[(32, iv sS), (31, iv (steps.length : Int)), (30, .v (.sl 5 (steps.map eM))), (13, .v (.sl 5 (v.2.1.map eM))), (12, tv v.1), (3, tv code), (4, .v (.sl 5 (steps.map eM)))], []⟩) (check_b1 code steps v) [] (0 : Int) hl1 sub ?_;intro t32 m hn1 he1 hx1;obtain ⟨o1, hf1⟩ := zQ1 hx1;have h := hf1;unfold check_b1 at h;try dsimp only
    refine sr (lr1 rfl (nn (WC.seq ?_)));revert h;refine ci (fun hc4 h => ?_) (fun hc4 h => ?_)
    ·refine kn (sb (sr (lr1 rfl ?_)));obtain ⟨g1, h⟩ := grd h;revert h;refine zb fun x2 hxx2 h => ?_;refine WL.q [] rfl rfl rfl (q_idx tbOk rfl tr g1 (zM1 (f := eM) hxx2)) ?_;refine lr4 rfl (nn (WC.seq (WC.order mixed ?_)));refine wr 2 rfl trivial ?_;refine WR.q [] rfl rfl rfl (q_ev tbOk (iv (v.2.1.length : Int)) rfl tr lenT) ?_;refine wr 5 rfl sideR ?_;obtain ⟨g2, h⟩ := grd h;refine WR.gq [] rfl rfl rfl rfl (fun hg => q_idx tbOk rfl sideR (g2 hg).1 (map_getD (f := eM) (g2 hg).2 (g2 hg).1)) ?_;refine wr 1 rfl sideR ?_;revert h;refine zb fun v3 hvv3 h => ?_;refine WR.gcall0 fn33 rfl rfl rfl rfl rfl (fun _ => sideR) rfl (fun hg => (sameC_con hw (ite_t hg hvv3))) ?_;refine wr 2 rfl sideR ?_;refine WR.nil (by kernel_rfl) (WQ.thenNormal ?_);revert h;refine ci (fun hc5 h => ?_) (fun hc5 h => ?_)
     ·refine sr (lr3 rfl (nr (rb ?_)));cases h;obtain rfl := he1 _ hf1;have h : some (t32, (10 : Int)) = some _ := hk1;refine WQ.thenRet (rb ?_);cases h;exact WQ.rets tbOk (r := .tup [iv t32, iv (10 : Int)]) hR [] (.inl rfl) rfl rfl (Le.tup (.cons (Le.refl _) (.cons (Le.refl _) .nil))) tr rfl rfl rfl rfl
     ·refine WC.skip (bn (WC.region (lr2 rfl (WL.nil ?_))));cases h;exact WQ.next [] (IntKind.i64.wrap (t32 + (1 : Int))) sub (hn1 _ hf1)
    ·refine WC.exit (WQ.thenExit ?_);cases h;obtain rfl := he1 _ hf1;replace h := hk1;try dsimp only at h
     refine eb ?_;exact WQ.cut [] () sub h
   ·intro _ h;try dsimp only at h;unfold check_j1 at h;try dsimp only
    refine WC.seq (sr (lr1 rfl ?_));refine WL.q [] rfl rfl rfl (q_ev tbOk (iv (steps.length : Int)) rfl tr lenT) ?_;refine lr1 rfl ?_;refine WL.q [] rfl rfl rfl (q_ev tbOk (iv (v.2.1.length : Int)) rfl tr lenT) ?_;refine lr 6 rfl sideR ?_;refine nn ?_;revert h;refine ci (fun hc3 h => ?_) (fun hc3 h => ?_)
    ·refine sr (lr1 rfl ?_);refine WL.q [] rfl rfl rfl (q_ev tbOk (iv (steps.length : Int)) rfl tr lenT) ?_;refine lr2 rfl (nr (WQ.thenRet ?_));cases h;exact WQ.rets tbOk (r := .tup [iv (steps.length : Int), iv (10 : Int)]) hR [] (.inl rfl) rfl rfl (Le.tup (.cons (Le.refl _) (.cons (Le.refl _) .nil))) tr rfl rfl rfl rfl
    ·refine kn (sr (lr1 rfl ?_));refine WL.q [] rfl rfl rfl (q_ev tbOk (iv (steps.length : Int)) rfl tr lenT) ?_;refine lr2 rfl (nr ?_);cases h;exact WQ.rets tbOk (r := .tup [iv (steps.length : Int), iv (0 : Int)]) hR [] (.inl rfl) rfl rfl (Le.tup (.cons (Le.refl _) (.cons (Le.refl _) .nil))) tr rfl rfl rfl rfl
theorem hasIn_con {wg : World} (hw : WG wg) {e1 : YB} {a1 : Str} {r : Bool} (h : hasIn e1 a1 = some r) : Con Tryz.prog wg gl 140 [.v (.agg (eC e1)), .p 1 0] [(1, .blk 9 [tv a1])] (ov r) [(1, .blk 9 [tv a1])] := by
 unfold hasIn at h;refine cw Tryz.func140 Tryz.ntmps140 ?_;intro F L w ρ0 R hR;try dsimp only [zP1]
 refine sr (lr2 rfl (ns (lr5 rfl (nr ?_))));cases h;exact rt tbOk hR
theorem hasIndex_con {wg : World} (hw : WG wg) {s : (List YB)} {f0 : Str} {r : Int} (h : hasIndex s f0 = some r) : Con Tryz.prog wg gl 141 [.v (.sl 5 (s.map eC)), .fn 140 [.p 810 0]] [(810, .blk 9 [tv f0])] (iv r) [(810, .blk 9 [tv f0])] := by
 unfold hasIndex at h;refine cw Tryz.func141 Tryz.ntmps141 ?_;intro F L w ρ0 R hR;try dsimp only [zP1]
 refine sr (lr1 rfl (nn (WC.seq (sr (lr1 rfl ?_)))));refine WL.q [] rfl rfl rfl (q_ev tbOk (iv (s.length : Int)) rfl tr lenT) ?_;refine lr1 rfl (nn ?_);refine WC.thenCut (X := Unit) (fun gG => ⟨[], [(810, .blk 9 [tv f0])]⟩) (fun gG => hasIndex_j1 f0 = some r) ?_ ?_
 ·refine WC.block ?_;obtain ⟨eQ1, hl1, hk1⟩ := bnd h;clear h;refine WC.loop (σ := Int) (τ := ((Int) ⊕ (Unit))) (fun sS => ⟨[(8, iv sS), (7, iv (s.length : Int)), (0, .v (.sl 5 (s.map eC))), (1, .fn 140 [.p 810 0])], [(810, .blk 9 [tv f0])]⟩) (hasIndex_b1 s f0) [] (0 : Int) hl1 sub ?_;intro t8 m hn1 he1 hx1;obtain ⟨o1, hf1⟩ := zQ1 hx1;have h := hf1;unfold hasIndex_b1 at h;try dsimp only
  refine sr (lr1 rfl (nn (WC.seq ?_)));revert h;refine ci (fun hc1 h => ?_) (fun hc1 h => ?_)
  ·refine kn (sb (sr (lr2 rfl (ns (lr3 rfl ?_)))));obtain ⟨g1, h⟩ := grd h;revert h;refine zb fun x2 hxx2 h => ?_;refine WL.q [] rfl rfl rfl (q_idx tbOk rfl tr g1 (zM1 (f := eC) hxx2)) ?_;refine lr1 rfl ?_;revert h;refine zb fun v2 hvv2 h => ?_;refine WL.callO [(1, 810)] [(1, 810)] [810] fn140 rfl rfl rfl rfl tr (hasIn_con hw hvv2) rfl rfl eqs rfl rfl rfl rfl rfl rfl ?_;refine nn ?_;revert h;refine ci (fun hc2 h => ?_) (fun hc2 h => ?_)
   ·refine sr (lr2 rfl (nr (rb ?_)));cases h;obtain rfl := he1 _ hf1;have h : some t8 = some _ := hk1;refine WQ.thenRet (rb ?_);cases h;exact rt tbOk hR
   ·refine WC.skip (bn (WC.region (lr2 rfl (WL.nil ?_))));cases h;exact WQ.next [] (IntKind.i64.wrap (t8 + (1 : Int))) sub (hn1 _ hf1)
  ·refine WC.exit (WQ.thenExit ?_);cases h;obtain rfl := he1 _ hf1;replace h := hk1;try dsimp only at h
   refine eb ?_;exact WQ.cut [] () sub h
 ·intro _ h;try dsimp only at h;unfold hasIndex_j1 at h;try dsimp only
  refine sr (lr1 rfl (nr ?_));cases h;exact rt tbOk hR
theorem hasContains_con {wg : World} (hw : WG wg) {s : (List YB)} {f0 : Str} {r : Bool} (h : hasContains s f0 = some r) : Con Tryz.prog wg gl 139 [.v (.sl 5 (s.map eC)), .fn 140 [.p 810 0]] [(810, .blk 9 [tv f0])] (ov r) [(810, .blk 9 [tv f0])] := by
 unfold hasContains at h;refine cw Tryz.func139 Tryz.ntmps139 ?_;intro F L w ρ0 R hR;try dsimp only [zP1]
 refine sr (lr1 rfl (ns (lr2 rfl ?_)));revert h;refine zb fun v hvv h => ?_;refine WL.callO [(810, 810)] [(810, 810)] [810] fn141 rfl rfl rfl rfl tr (hasIndex_con hw hvv) rfl rfl eqs rfl rfl rfl rfl rfl rfl ?_;refine lr2 rfl (nr ?_);cases h;exact rt tbOk hR
theorem hasE_con {wg : World} (hw : WG wg) {l : (List YB)} {code : Str} {r : Bool} (h : hasE l code = some r) : Con Tryz.prog wg gl 91 [.v (.sl 5 (l.map eC)), tv code] [] (ov r) [] := by
 unfold hasE at h;refine cw Tryz.func91 Tryz.ntmps91 ?_;intro F L w ρ0 R hR;try dsimp only [zP1]
 refine sr (lr2 rfl (ns (lr2 rfl ?_)));revert h;refine zb fun v hvv h => ?_;refine WL.callO [(810, 3)] [(810, 3)] [3] fn139 rfl rfl rfl rfl tr (hasContains_con hw hvv) rfl rfl eqs rfl rfl rfl rfl rfl rfl ?_;refine lr1 rfl (nr ?_);cases h;exact rt tbOk hR
theorem mostSpecificC_con {wg : World} (hw : WG wg) {b : YE} {g : YR} {basis : Int} {l : (List YB)} {r : (List YB)} (h : mostSpecificC b g basis l = some r) : Con Tryz.prog wg gl 90 [.v (.agg (eF b)), .v (.agg (eS g)), iv basis, .v (.sl 5 (l.map eC))] [] (.v (.sl 5 (r.map eC))) [] := by
 unfold mostSpecificC at h;refine cw Tryz.func90 Tryz.ntmps90 ?_;intro F L w ρ0 R hR;try dsimp only [zP1]
 refine sr (lr3 rfl (ns (lr3 rfl (nn (WC.seq (sr ?_))))));refine lr 6 rfl sideR ?_;refine nn ?_;refine WC.thenCut (X := (List Str)) (fun gG => ⟨[(9, .v (.sl 1 (gG.map eStr))), (4, .p 4 0), (3, .v (.sl 5 (l.map eC)))], [(4, .blk 26 (kv (eF b)))]⟩) (fun gG => mostSpecificC_j1 b l gG = some r) ?_ ?_
 ·revert h;refine ci (fun hc4 h => ?_) (fun hc4 h => ?_)
  ·refine WC.region (lr2 rfl ?_);revert h;refine zb fun v6 hvv6 h => ?_;refine WL.call0 fn120 rfl rfl rfl rfl tr rfl (union_con hw hvv6) ?_;refine lr1 rfl (WL.nil ?_);exact WQ.cut [] v6 sub h
  ·refine WC.skip ?_;exact WQ.cut [] g.Words sub h
 ·intro words h;try dsimp only at h;unfold mostSpecificC_j1 at h;try dsimp only
  refine sr (lr1 rfl (nn (WC.seq (sr (lr1 rfl ?_)))));refine WL.q [] rfl rfl rfl (q_ev tbOk (iv (l.length : Int)) rfl tr lenT) ?_;refine lr1 rfl (nn ?_);refine WC.thenCut (X := Int) (fun gG => ⟨[(10, iv gG), (9, .v (.sl 1 (words.map eStr))), (4, .p 4 0), (3, .v (.sl 5 (l.map eC)))], [(4, .blk 26 (kv (eF b)))]⟩) (fun gG => mostSpecificC_j2 b l words gG = some r) ?_ ?_
  ·refine WC.block ?_;obtain ⟨eQ2, hl2, hk2⟩ := bnd h;clear h;refine WC.loop (σ := Int × Int) (τ := (Int)) (fun sS => ⟨[(29, iv sS.1), (28, iv (l.length : Int)), (27, .v (.sl 5 (l.map eC))), (10, iv sS.2), (9, .v (.sl 1 (words.map eStr))), (4, .p 4 0), (3, .v (.sl 5 (l.map eC)))], [(4, .blk 26 (kv (eF b)))]⟩) (mostSpecificC_b2 b l words) [] ((0 : Int), (0 : Int)) hl2 sub ?_;rintro ⟨t29, most2⟩ m hn2 he2 hx2;obtain ⟨o2, hf2⟩ := zQ1 hx2;have h := hf2;unfold mostSpecificC_b2 at h;try dsimp only
   refine sr (lr1 rfl (nn (WC.seq ?_)));revert h;refine ci (fun hc3 h => ?_) (fun hc3 h => ?_)
   ·refine kn (sb (sr ?_));obtain ⟨g3, h⟩ := grd h;revert h;refine zb fun x5 hxx5 h => ?_;refine WL.q [] rfl rfl rfl (q_idx tbOk rfl tr g3 (zM1 (f := eC) hxx5)) ?_;refine lr3 rfl (nn (WC.region (lr4 rfl ?_)));revert h;refine zb fun v5 hvv5 h => ?_;refine WL.call0 fn95 rfl rfl rfl rfl tr rfl (nomScore_con hw hvv5) ?_;refine lr2 rfl (WL.nil (bn (WC.region (lr2 rfl (WL.nil ?_)))));cases h;exact WQ.next [] ((IntKind.i64.wrap (t29 + (1 : Int))), (if v5 > most2 then v5 else most2)) sub (hn2 _ hf2)
   ·refine WC.exit (WQ.thenExit ?_);cases h;obtain rfl := he2 _ hf2;replace h := hk2;try dsimp only at h
    refine eb ?_;exact WQ.cut [] most2 sub h
  ·intro most h;try dsimp only at h;unfold mostSpecificC_j2 at h;try dsimp only
   refine sr (lr1 rfl (nn (WC.seq (sr (lr1 rfl ?_)))));refine WL.q [] rfl rfl rfl (q_ev tbOk (iv (l.length : Int)) rfl tr lenT) ?_;refine lr1 rfl (nn ?_);refine WC.thenCut (X := (List YB)) (fun gG => ⟨[(13, .r 1013)], [(1013, .row 53 5 (gG.map eC))]⟩) (fun gG => mostSpecificC_j3 gG = some r) ?_ ?_
   ·refine WC.block ?_;obtain ⟨eQ1, hl1, hk1⟩ := bnd h;clear h;refine WC.rowNil 13 1013 53 5 rfl rfl ?_;refine WC.loop (σ := Int × (List YB)) (τ := ((List YB))) (fun sS => ⟨[(42, iv sS.1), (41, iv (l.length : Int)), (40, .v (.sl 5 (l.map eC))), (13, .r 1013), (10, iv most), (9, .v (.sl 1 (words.map eStr))), (4, .p 4 0)], [(1013, .row 53 5 (sS.2.map eC)), (4, .blk 26 (kv (eF b)))]⟩) (mostSpecificC_b1 b l words most) [] ((0 : Int), []) hl1 sub ?_;rintro ⟨t422, kept3⟩ m hn1 he1 hx1;obtain ⟨o1, hf1⟩ := zQ1 hx1;have h := hf1;unfold mostSpecificC_b1 at h;try dsimp only
    refine sr (lr1 rfl (nn (WC.seq ?_)));revert h;refine ci (fun hc1 h => ?_) (fun hc1 h => ?_)
    ·refine kn (WC.seq ?_);refine WC.thenCut (X := (List YB)) (fun gG => ⟨[(13, .r 1013), (42, iv t422), (41, iv (l.length : Int)), (40, .v (.sl 5 (l.map eC))), (10, iv most), (9, .v (.sl 1 (words.map eStr))), (4, .p 4 0)], [(1013, .row 53 5 (gG.map eC)), (4, .blk 26 (kv (eF b)))]⟩) (fun gG => mostSpecificC_j4 b l words most t422 gG = some o1) ?_ ?_
     ·refine WC.block (sr ?_);obtain ⟨g1, h⟩ := grd h;revert h;refine zb fun x3 hxx3 h => ?_;refine WL.q [] rfl rfl rfl (q_idx tbOk rfl tr g1 (zM1 (f := eC) hxx3)) ?_;refine lr3 rfl (ns (lr3 rfl ?_));revert h;refine zb fun v3 hvv3 h => ?_;refine WL.call0 fn95 rfl rfl rfl rfl tr rfl (nomScore_con hw hvv3) ?_;refine lr2 rfl (nn ?_);revert h;refine ci (fun hc2 h => ?_) (fun hc2 h => ?_)
      ·refine WC.region (lr3 rfl ?_);obtain ⟨g2, h⟩ := grd h;refine WL.append tbOk ((kept3 ++ [x3]).map eC) [55, 1013] ap23 rfl rfl rfl rfl ce tr (zL1 (f := eC) (xs := [x3]) fun _ => rfl) (al g2) rfl rfl ma rfl ?_;refine lr1 rfl (WL.nil (WQ.blockNormal ?_));exact WQ.cut [(1013, 55)] (kept3 ++ [x3]) sub h
      ·refine WC.skip (WQ.blockNormal ?_);exact WQ.cut [] kept3 sub h
     ·intro kept6 h;try dsimp only at h;unfold mostSpecificC_j4 at h;try dsimp only
      refine WC.region (lr2 rfl (WL.nil ?_));cases h;exact WQ.next [] ((IntKind.i64.wrap (t422 + (1 : Int))), kept6) sub (hn1 _ hf1)
    ·refine WC.exit (WQ.thenExit ?_);cases h;obtain rfl := he1 _ hf1;replace h := hk1;try dsimp only at h
     refine eb ?_;exact WQ.cut [] kept3 sub h
   ·intro kept h;try dsimp only at h;unfold mostSpecificC_j3 at h;try dsimp only
    refine sr (lr2 rfl (nr ?_));refine WQ.publish 1013 rfl rfl ?_;cases h;exact rt tbOk hR
theorem reasonIn_con {wg : World} (hw : WG wg) {e1 : YB} {a1 : YE} {a2 : YI} {r : Bool} (h : reasonIn e1 a1 a2 = some r) : Con Tryz.prog wg gl 94 [.v (.agg (eC e1)), .p 1 0, .p 2 0] [(1, .blk 26 (kv (eF a1))), (2, .blk 72 (kv (eJ a2)))] (ov r) [(1, .blk 26 (kv (eF a1))), (2, .blk 72 (kv (eJ a2)))] := by
 unfold reasonIn at h;refine cw Tryz.func94 Tryz.ntmps94 ?_;intro F L w ρ0 R hR;try dsimp only [zP1]
 refine sr (lr2 rfl (ns (lr4 rfl ?_)));revert h;refine zb fun v hvv h => ?_;refine WL.call0 fn95 rfl rfl rfl rfl tr rfl (nomScore_con hw hvv) ?_;refine lr2 rfl (nr ?_);cases h;exact rt tbOk hR
theorem cloneE_con {wg : World} (hw : WG wg) {s : (List YB)} {r : (List YB)} (h : cloneE s = some r) : Con Tryz.prog wg gl 93 [.v (.sl 5 (s.map eC))] [] (.r 500) [(500, .row 53 5 (r.map eC))] := by
 unfold cloneE at h;refine cw Tryz.func93 Tryz.ntmps93 ?_;intro F L w ρ0 R hR;try dsimp only [zP1]
 refine sr (lr1 rfl (nn (WC.seq (sr (lr1 rfl ?_)))));refine WL.nilTest Tryz.underlying23 rfl rfl rfl rfl trivial (fun he => ?_) ?_
 ·obtain rfl := List.map_eq_nil_iff.1 he;replace h : (some [] : Option ((List YB))) = some r := by first | exact h | (rw [if_pos (by decide)] at h; exact h)
  refine nn ?_;refine WC.cond (b := true) rfl (fun hc1 => ?_) (fun hc1 => by cases hc1);refine sr (lr1 rfl (nr (WQ.thenRet ?_)));refine WQ.rowNil 2 700 53 5 rfl rfl ?_;cases h;exact WQ.rets tbOk hR [(500, 700)] (.inl rfl) rfl rfl (Le.refl _) eqs rfl rfl rfl rfl
 ·refine nn ?_;refine WC.cond (b := false) rfl (fun hc2 => by cases hc2) (fun hc2 => ?_);refine kn (sr ?_);refine WL.buildRow tbOk (([] : (List YB)).map eC) rfl rfl rfl rfl tr rfl rfl ?_;refine lr1 rfl ?_;obtain ⟨g1, h⟩ := grd h;refine WL.append tbOk (s.map eC) [7, 5] ap23 rfl rfl rfl rfl ce tr (zL1 (f := eC) (xs := s) fun _ => rfl) (al g1) rfl rfl rfl rfl ?_;refine lr1 rfl (nr ?_);cases h;exact WQ.rets tbOk hR [(500, 7)] (.inl rfl) rfl rfl (Le.refl _) eqs rfl rfl rfl rfl
theorem delIndex_con {wg : World} (hw : WG wg) {s : (List YB)} {f0 : YE} {f1 : YI} {r : Int × (List YB)} (h : delIndex s f0 f1 = some r) : Con Tryz.prog wg gl 141 [.r 0, .fn 94 [.p 810 0, .p 811 0]] [(0, .row 53 5 (s.map eC)), (810, .blk 26 (kv (eF f0))), (811, .blk 72 (kv (eJ f1)))] (iv r.1) [(810, .blk 26 (kv (eF f0))), (811, .blk 72 (kv (eJ f1))), (0, .row 53 5 (r.2.map eC))] := by
 unfold delIndex at h;refine cw Tryz.func141 Tryz.ntmps141 ?_;intro F L w ρ0 R hR;try dsimp only [zP1]
 refine sr (lr1 rfl (nn (WC.seq (sr (lr1 rfl ?_)))));refine WL.q [0] rfl rfl rfl (q_ev tbOk (iv (s.length : Int)) rfl tr lenT) ?_;refine lr1 rfl (nn ?_);refine WC.thenCut (X := Unit) (fun gG => ⟨[], [(0, .row 53 5 (s.map eC)), (810, .blk 26 (kv (eF f0))), (811, .blk 72 (kv (eJ f1)))]⟩) (fun gG => delIndex_j1 s f0 f1 = some r) ?_ ?_
 ·refine WC.block ?_;obtain ⟨eQ1, hl1, hk1⟩ := bnd h;clear h;refine WC.loop (σ := Int) (τ := ((Int × (List YB)) ⊕ (Unit))) (fun sS => ⟨[(8, iv sS), (7, iv (s.length : Int)), (0, .r 0), (1, .fn 94 [.p 810 0, .p 811 0])], [(0, .row 53 5 (s.map eC)), (810, .blk 26 (kv (eF f0))), (811, .blk 72 (kv (eJ f1)))]⟩) (delIndex_b1 s f0 f1) [] (0 : Int) hl1 sub ?_;intro t8 m hn1 he1 hx1;obtain ⟨o1, hf1⟩ := zQ1 hx1;have h := hf1;unfold delIndex_b1 at h;try dsimp only
  refine sr (lr1 rfl (nn (WC.seq ?_)));revert h;refine ci (fun hc1 h => ?_) (fun hc1 h => ?_)
  ·refine kn (sb (sr (lr2 rfl (ns (lr3 rfl ?_)))));obtain ⟨g1, h⟩ := grd h;refine WL.q [0] rfl rfl rfl (q_ridx tbOk rfl tr rfl (by simpa only [List.length_map] using g1)) ?_;refine WL.q [0] rfl rfl rfl (x := .v (.agg [.str ((s.getD t8.toNat default).Code), .int .i64 ((s.getD t8.toNat default).From), .int .i64 ((s.getD t8.toNat default).To), .sl 1 (((s.getD t8.toNat default).Terms).map zH1), .bool ((s.getD t8.toNat default).Other)])) (q_rload tbOk rfl tr rfl (map_getD (f := eC) g1.2 g1.1) rfl) ?_;revert h;refine zb fun v2 hvv2 h => ?_;refine WL.callO [(1, 810), (2, 811)] [(1, 810), (2, 811)] [810, 811] fn94 rfl rfl rfl rfl tr (reasonIn_con hw hvv2) rfl rfl eqs rfl rfl rfl rfl rfl rfl ?_;refine nn ?_;revert h;refine ci (fun hc2 h => ?_) (fun hc2 h => ?_)
   ·refine sr (lr2 rfl (nr (rb ?_)));cases h;obtain rfl := he1 _ hf1;have h : some (t8, s) = some _ := hk1;refine WQ.thenRet (rb ?_);cases h;exact rt tbOk hR
   ·refine WC.skip (bn (WC.region (lr2 rfl (WL.nil ?_))));cases h;exact WQ.next [] (IntKind.i64.wrap (t8 + (1 : Int))) sub (hn1 _ hf1)
  ·refine WC.exit (WQ.thenExit ?_);cases h;obtain rfl := he1 _ hf1;replace h := hk1;try dsimp only at h
   refine eb ?_;exact WQ.cut [] () sub h
 ·intro _ h;try dsimp only at h;unfold delIndex_j1 at h;try dsimp only
  refine sr (lr1 rfl (nr ?_));cases h;exact rt tbOk hR
theorem deleteE_con {wg : World} (hw : WG wg) {s : (List YB)} {del0 : YE} {del1 : YI} {r : (List YB)} (h : deleteE s del0 del1 = some r) : Con Tryz.prog wg gl 92 [.r 0, .fn 94 [.p 810 0, .p 811 0]] [(0, .row 53 5 (s.map eC)), (810, .blk 26 (kv (eF del0))), (811, .blk 72 (kv (eJ del1)))] (.r 500) [(810, .blk 26 (kv (eF del0))), (811, .blk 72 (kv (eJ del1))), (0, .dead), (500, .row 53 5 (r.map eC))] := by
 unfold deleteE at h;refine cw Tryz.func92 Tryz.ntmps92 ?_;intro F L w ρ0 R hR;try dsimp only [zP1]
 refine sr (lr1 rfl (ns (lr2 rfl ?_)));revert h;refine zb fun v hvv h => ?_;refine WL.callO [(0, 0), (810, 810), (811, 811)] [(0, 0), (810, 810), (811, 811)] [0, 810, 811] fn141 rfl rfl rfl rfl tr (delIndex_con hw hvv) rfl rfl eqs rfl rfl rfl rfl rfl rfl ?_;refine lr1 rfl (nn (WC.seq (sr (lr2 rfl (nn ?_)))));revert h;refine ci (fun hc1 h => ?_) (fun hc1 h => ?_)
 ·refine sr (lr2 rfl (nr (WQ.thenRet ?_)));cases h;exact WQ.rets tbOk hR [(500, 0)] (.inl rfl) rfl rfl (Le.refl _) eqs rfl rfl rfl rfl
 ·refine kn (WC.seq (sr (lr3 rfl (nn ?_))));refine WC.thenCut (X := Int × (List YB)) (fun gG => ⟨[(5, iv gG.1), (0, .r 0)], [(0, .row 53 5 (gG.2.map eC)), (810, .blk 26 (kv (eF del0))), (811, .blk 72 (kv (eJ del1)))]⟩) (fun gG => deleteE_j1 del0 del1 gG.1 gG.2 = some r) ?_ ?_
  ·refine WC.block ?_;obtain ⟨eQ1, hl1, hk1⟩ := bnd h;clear h;refine WC.loop (σ := Int × Int × (List YB)) (τ := (Int × (List YB))) (fun sS => ⟨[(6, iv sS.1), (5, iv sS.2.1), (0, .r 0), (1, .fn 94 [.p 810 0, .p 811 0])], [(0, .row 53 5 (sS.2.2.map eC)), (810, .blk 26 (kv (eF del0))), (811, .blk 72 (kv (eJ del1)))]⟩) (deleteE_b1 del0 del1) [] ((IntKind.i64.wrap (v.1 + (1 : Int))), v.1, v.2) hl1 sub ?_;rintro ⟨j, i2, row02⟩ m hn1 he1 hx1;obtain ⟨o1, hf1⟩ := zQ1 hx1;have h := hf1;unfold deleteE_b1 at h;try dsimp only
   refine WC.seq (sr (lr2 rfl ?_));refine WL.q [0] rfl rfl rfl (q_ev tbOk (iv (row02.length : Int)) rfl tr lenT) ?_;refine lr1 rfl (nn ?_);revert h;refine ci (fun hc2 h => ?_) (fun hc2 h => ?_)
   ·refine kn (WC.seq ?_);refine WC.thenCut (X := Int × (List YB)) (fun gG => ⟨[(5, iv gG.1), (6, iv j), (0, .r 0), (1, .fn 94 [.p 810 0, .p 811 0])], [(0, .row 53 5 (gG.2.map eC)), (810, .blk 26 (kv (eF del0))), (811, .blk 72 (kv (eJ del1)))]⟩) (fun gG => deleteE_j2 del0 del1 j gG.1 gG.2 = some o1) ?_ ?_
    ·refine WC.block (sr (lr2 rfl ?_));obtain ⟨g3, h⟩ := grd h;refine WL.q [0] rfl rfl rfl (q_ridx tbOk rfl tr rfl (by simpa only [List.length_map] using g3)) ?_;refine WL.q [0] rfl rfl rfl (x := .v (.agg [.str ((row02.getD j.toNat default).Code), .int .i64 ((row02.getD j.toNat default).From), .int .i64 ((row02.getD j.toNat default).To), .sl 1 (((row02.getD j.toNat default).Terms).map zH1), .bool ((row02.getD j.toNat default).Other)])) (q_rload tbOk rfl tr rfl (map_getD (f := eC) g3.2 g3.1) rfl) ?_;refine lr2 rfl (ns (lr2 rfl ?_));revert h;refine zb fun v3 hvv3 h => ?_;refine WL.callO [(1, 810), (2, 811)] [(1, 810), (2, 811)] [810, 811] fn94 rfl rfl rfl rfl tr (reasonIn_con hw hvv3) rfl rfl eqs rfl rfl rfl rfl rfl rfl ?_;refine lr1 rfl (nn ?_);revert h;refine ci (fun hc3 h => ?_) (fun hc3 h => ?_)
     ·refine sr (lr3 rfl ?_);obtain ⟨g4, h⟩ := grd h;refine WL.q [0] rfl rfl rfl (q_ridx tbOk rfl tr rfl (by simpa only [List.length_map] using g4)) ?_;refine WL.rstore tbOk ((row02.set i2.toNat (row02.getD j.toNat default)).map eC) rfl rfl rfl tr rfl (map_getD (f := eC) g4.2 g4.1) rfl (mapset (f := eC) (x := (row02.getD j.toNat default)) (by rfl)) ?_;refine nn (WC.region (lr3 rfl (WL.nil (WQ.blockNormal ?_))));exact WQ.cut [] ((IntKind.i64.wrap (i2 + (1 : Int))), (row02.set i2.toNat (row02.getD j.toNat default))) sub h
     ·refine WC.skip (WQ.blockNormal ?_);exact WQ.cut [] (i2, row02) sub h
    ·rintro ⟨i6, row06⟩ h;try dsimp only at h;unfold deleteE_j2 at h;try dsimp only
     refine WC.region (lr3 rfl (WL.nil ?_));cases h;exact WQ.next [] ((IntKind.i64.wrap (j + (1 : Int))), i6, row06) sub (hn1 _ hf1)
   ·refine WC.exit (WQ.thenExit ?_);cases h;obtain rfl := he1 _ hf1;replace h := hk1;try dsimp only at h
    refine eb ?_;exact WQ.cut [] (i2, row02) sub h
  ·rintro ⟨i, row0⟩ h;try dsimp only at h;unfold deleteE_j1 at h;try dsimp only
   refine sr (lr2 rfl ?_);obtain ⟨g1, h⟩ := grd h;refine WL.clear tbOk (es2 := (row0.take i.toNat ++ List.replicate (row0.length - i.toNat) (default : YB)).map eC) (zs := [.string ⟨⟨[]⟩⟩, .int .i64 0, .int .i64 0, .slice none 0 0, .bool false]) (eC (default : YB)) rfl rfl rfl rfl rfl trivial rfl rfl rfl Tryz.underlying23 rfl rfl rfl (by decide) rfl (fun w X => (reps_cons rep_s0 (reps_cons rep_i0 (reps_cons rep_i0 (reps_cons (rep_l0 1) (reps_cons rep_b0 reps_nil)))))) rfl (by simpa only [List.length_map] using g1) (by simp only [List.map_append, List.map_take, List.map_replicate, List.length_map]) ?_;refine ns (lr2 rfl ?_);obtain ⟨g2, h⟩ := grd h;refine WL.rcut tbOk (((row0.take i.toNat ++ List.replicate (row0.length - i.toNat) (default : YB)).take i.toNat).map eC) rfl rfl rfl rfl sideR rfl (by simpa only [List.length_map] using g2) rfl (by rw [List.map_take]) ?_;refine lr1 rfl (nr ?_);cases h;exact WQ.rets tbOk hR [(500, 41)] (.inl rfl) rfl rfl (Le.refl _) eqs rfl rfl rfl rfl
theorem reason_con {wg : World} (hw : WG wg) {b : YE} {day : Int} {g : YR} {s : YL} {code : Str} {r : Int} (h : reason b day g s code = some r) : Con Tryz.prog wg gl 42 [.v (.agg (eF b)), iv day, .v (.agg (eS g)), .v (.agg (eM s)), tv code] [] (iv r) [] := by
 unfold reason at h;refine cw Tryz.func42 Tryz.ntmps42 ?_;intro F L w ρ0 R hR;try dsimp only [zP1]
 refine sr (lr4 rfl (nn (WC.seq (sr (lr4 rfl ?_)))));revert h;refine zb fun v hvv h => ?_;refine WL.call0 fn88 rfl rfl rfl rfl tr rfl (nomExcluded_con hw hvv) ?_;refine nn ?_;revert h;refine ci (fun hc1 h => ?_) (fun hc1 h => ?_)
 ·refine sr (lr1 rfl (nr (WQ.thenRet ?_)));cases h;exact rt tbOk hR
 ·refine kn (WC.seq (sr (lr3 rfl ?_)));revert h;refine zb fun v2 hvv2 h => ?_;refine WL.call0 fn89 rfl rfl rfl rfl tr rfl (sContains_con hw hvv2) ?_;refine lr1 rfl (nn ?_);revert h;refine ci (fun hc2 h => ?_) (fun hc2 h => ?_)
  ·refine sr (lr1 rfl (nr (WQ.thenRet ?_)));cases h;exact rt tbOk hR
  ·refine kn (WC.seq (sr ?_));refine lr 8 rfl sideR ?_;refine nn ?_;revert h;refine ci (fun hc3 h => ?_) (fun hc3 h => ?_)
   ·refine sr (lr1 rfl (nr (WQ.thenRet ?_)));cases h;exact rt tbOk hR
   ·refine kn (sr (lr5 rfl ?_));revert h;refine zb fun v3 hvv3 h => ?_;refine WL.call0 fn31 rfl rfl rfl rfl tr rfl (basis_con hw hvv3) ?_;refine lr5 rfl (nn (WC.seq (sr ?_)));refine lr 8 rfl sideR ?_;refine nn ?_;refine WC.thenCut (X := (List YB)) (fun gG => ⟨[(12, .v (.sl 5 (gG.map eC))), (7, .p 7 0), (5, .p 5 0), (4, tv code)], [(5, .blk 26 (kv (eF b))), (7, .blk 32 (kv (eS g)))]⟩) (fun gG => reason_j1 b g code gG = some r) ?_ ?_
    ·revert h;refine ci (fun hc7 h => ?_) (fun hc7 h => ?_)
     ·refine sr (lr5 rfl ?_);revert h;refine zb fun v11 hvv11 h => ?_;refine WL.call0 fn90 rfl rfl rfl rfl tr rfl (mostSpecificC_con hw hvv11) ?_;refine lr1 rfl (ns (lr2 rfl ?_));revert h;refine zb fun v12 hvv12 h => ?_;refine WL.call0 fn91 rfl rfl rfl rfl tr rfl (hasE_con hw hvv12) ?_;refine lr1 rfl (nn ?_);revert h;refine ci (fun hc8 h => ?_) (fun hc8 h => ?_)
      ·refine sr (lr1 rfl (nr (WQ.thenRet ?_)));cases h;exact rt tbOk hR
      ·refine WC.skip ?_;exact WQ.cut [] v11 sub h
     ·refine WC.skip ?_;exact WQ.cut [] v3.2 sub h
    ·intro left h;try dsimp only at h;unfold reason_j1 at h;try dsimp only
     refine WC.seq (sr (lr1 rfl ?_));revert h;refine zb fun v4 hvv4 h => ?_;refine WL.call0 fn71 rfl rfl rfl rfl tr rfl (goodsCharacters_con hw hvv4) ?_;refine WL.q [] rfl rfl rfl (q_ev tbOk (iv (v4.length : Int)) rfl tr lenT) ?_;refine lr1 rfl (nn ?_);refine WC.thenCut (X := Unit) (fun gG => ⟨[], []⟩) (fun gG => reason_j2  = some r) ?_ ?_
     ·refine WC.block ?_;obtain ⟨eQ1, hl1, hk1⟩ := bnd h;clear h;refine WC.loop (σ := Int) (τ := ((Int) ⊕ (Unit))) (fun sS => ⟨[(64, iv sS), (63, iv (v4.length : Int)), (62, .v (.sl 2 (v4.map eJ))), (12, .v (.sl 5 (left.map eC))), (5, .p 5 0), (4, tv code)], [(5, .blk 26 (kv (eF b)))]⟩) (reason_b1 b code left v4) [] (0 : Int) hl1 sub ?_;intro t64 m hn1 he1 hx1;obtain ⟨o1, hf1⟩ := zQ1 hx1;have h := hf1;unfold reason_b1 at h;try dsimp only
      refine sr (lr1 rfl (nn (WC.seq ?_)));revert h;refine ci (fun hc4 h => ?_) (fun hc4 h => ?_)
      ·refine kn (sb (sr ?_));obtain ⟨g1, h⟩ := grd h;revert h;refine zb fun x2 hxx2 h => ?_;refine WL.q [] rfl rfl rfl (q_idx tbOk rfl tr g1 (zM1 (f := eJ) hxx2)) ?_;refine lr3 rfl (ns (lr1 rfl ?_));revert h;refine zb fun v8 hvv8 h => ?_;refine WL.callO [] [(500, 69)] [69] fn93 rfl rfl rfl rfl tr (cloneE_con hw hvv8) rfl rfl tr rfl rfl rfl rfl rfl rfl ?_;refine lr1 rfl ?_;revert h;refine zb fun v9 hvv9 h => ?_;refine WL.callO [(0, 69), (810, 5), (811, 14)] [(0, 69), (810, 5), (811, 14), (500, 71)] [69, 5, 14, 71] fn92 rfl rfl rfl rfl tr (deleteE_con hw hvv9) rfl rfl eqs rfl rfl rfl rfl rfl rfl ?_;refine lr1 rfl (nn (WC.seq (sr (lr1 rfl ?_))));refine WL.q [71] rfl rfl rfl (q_ev tbOk (iv (v9.length : Int)) rfl tr lenT) ?_;refine lr1 rfl (nn ?_);revert h;refine ci (fun hc5 h => ?_) (fun hc5 h => ?_)
       ·refine WC.exit (eb (WQ.thenNormal (WC.region (lr2 rfl (WL.nil ?_)))));cases h;exact WQ.next [] (IntKind.i64.wrap (t64 + (1 : Int))) sub (hn1 _ hf1)
       ·refine kn (WC.seq (WC.seq ?_));refine WC.publish 71 rfl rfl ?_;refine WC.region (lr2 rfl ?_);revert h;refine zb fun v10 hvv10 h => ?_;refine WL.call0 fn91 rfl rfl rfl rfl tr rfl (hasE_con hw hvv10) ?_;refine lr1 rfl (nn ?_);revert h;refine ci (fun hc6 h => ?_) (fun hc6 h => ?_)
        ·refine sr (lr1 rfl (nr (WQ.thenRet (rb ?_))));cases h;obtain rfl := he1 _ hf1;have h : some (4 : Int) = some _ := hk1;refine WQ.thenRet (rb ?_);cases h;exact rt tbOk hR
        ·refine kn (WC.exit ?_);refine WQ.blockPass rfl ?_;refine WQ.thenExit ?_;cases h;obtain rfl := he1 _ hf1;replace h := hk1;try dsimp only at h
         refine eb ?_;exact WQ.cut [] () sub h
      ·refine WC.exit (WQ.thenExit ?_);cases h;obtain rfl := he1 _ hf1;replace h := hk1;try dsimp only at h
       refine eb ?_;exact WQ.cut [] () sub h
     ·intro _ h;try dsimp only at h;unfold reason_j2 at h;try dsimp only
      refine sr (lr1 rfl (nr ?_));cases h;exact rt tbOk hR
theorem why_con {wg : World} (hw : WG wg) {b : YE} {day : Int} {g : YR} {code : Str} {r : Int × Int × Int} (h : why b day g code = some r) : Con Tryz.prog wg gl 20 [.v (.agg (eF b)), iv day, .v (.agg (eS g)), tv code] [] (.tup [iv r.1, iv r.2.1, iv r.2.2]) [] := by
 unfold why at h;refine cw Tryz.func20 Tryz.ntmps20 ?_;intro F L w ρ0 R hR;try dsimp only [zP1]
 refine sr (lr5 rfl (ns (lr3 rfl ?_)));revert h;refine zb fun v hvv h => ?_;refine WL.call0 fn12 rfl rfl rfl rfl tr rfl (classify_con hw hvv) ?_;refine lr 7 rfl trivial (nn (WC.seq (sr (lr2 rfl (nn ?_)))));revert h;refine ci (fun hc1 h => ?_) (fun hc1 h => ?_)
 ·refine sr (lr4 rfl (nr (WQ.thenRet ?_)));cases h;exact WQ.rets tbOk (r := .tup [iv (0 : Int), iv (0 : Int), iv v.2.2]) hR [] (.inl rfl) rfl rfl (Le.tup (.cons (Le.refl _) (.cons (Le.refl _) (.cons (Le.refl _) .nil)))) tr rfl rfl rfl rfl
 ·refine kn (WC.seq (sr (lr3 rfl ?_)));revert h;refine zb fun v2 hvv2 h => ?_;refine WL.call0 fn40 rfl rfl rfl rfl tr rfl (nomFind_con hw hvv2) ?_;refine lr6 rfl (ns (lr2 rfl (nn ?_)));revert h;refine ci (fun hc2 h => ?_) (fun hc2 h => ?_)
  ·refine sr (lr3 rfl (nr (WQ.thenRet ?_)));cases h;exact WQ.rets tbOk (r := .tup [iv (0 : Int), iv (0 : Int), iv (6 : Int)]) hR [] (.inl rfl) rfl rfl (Le.tup (.cons (Le.refl _) (.cons (Le.refl _) (.cons (Le.refl _) .nil)))) tr rfl rfl rfl rfl
  ·refine kn (WC.seq (sr (lr1 rfl ?_)));refine WL.q [] rfl rfl rfl (q_ev tbOk (iv (v.2.1.length : Int)) rfl tr lenT) ?_;refine lr1 rfl (nn ?_);refine WC.thenCut (X := Unit) (fun gG => ⟨[(12, .v (.sl 5 (v.2.1.map eM))), (6, .p 6 0), (4, .p 4 0), (1, iv day), (3, tv code)], [(4, .blk 26 (kv (eF b))), (6, .blk 32 (kv (eS g)))]⟩) (fun gG => why_j1 b day g code v = some r) ?_ ?_
   ·refine WC.block ?_;obtain ⟨eQ2, hl2, hk2⟩ := bnd h;clear h;refine WC.loop (σ := Int) (τ := ((Int × Int × Int) ⊕ (Unit))) (fun sS => ⟨[(42, iv sS), (41, iv (v.2.1.length : Int)), (40, .v (.sl 5 (v.2.1.map eM))), (12, .v (.sl 5 (v.2.1.map eM))), (6, .p 6 0), (4, .p 4 0), (1, iv day), (3, tv code)], [(4, .blk 26 (kv (eF b))), (6, .blk 32 (kv (eS g)))]⟩) (why_b2 b day g code v) [] (0 : Int) hl2 sub ?_;intro t42 m hn2 he2 hx2;obtain ⟨o2, hf2⟩ := zQ1 hx2;have h := hf2;unfold why_b2 at h;try dsimp only
    refine sr (lr1 rfl (nn (WC.seq ?_)));revert h;refine ci (fun hc5 h => ?_) (fun hc5 h => ?_)
    ·refine kn (sb (sr (lr1 rfl ?_)));obtain ⟨g3, h⟩ := grd h;revert h;refine zb fun x4 hxx4 h => ?_;refine WL.q [] rfl rfl rfl (q_idx tbOk rfl tr g3 (zM1 (f := eM) hxx4)) ?_;refine lr4 rfl (ns (lr4 rfl (nn ?_)));revert h;refine ci (fun hc6 h => ?_) (fun hc6 h => ?_)
     ·refine sr (lr4 rfl (nr (rb ?_)));cases h;obtain rfl := he2 _ hf2;have h : some (t42, (0 : Int), (0 : Int)) = some _ := hk2;refine WQ.thenRet (rb ?_);cases h;exact WQ.rets tbOk (r := .tup [iv t42, iv (0 : Int), iv (0 : Int)]) hR [] (.inl rfl) rfl rfl (Le.tup (.cons (Le.refl _) (.cons (Le.refl _) (.cons (Le.refl _) .nil)))) tr rfl rfl rfl rfl
     ·refine WC.skip (bn (WC.region (lr2 rfl (WL.nil ?_))));cases h;exact WQ.next [] (IntKind.i64.wrap (t42 + (1 : Int))) sub (hn2 _ hf2)
    ·refine WC.exit (WQ.thenExit ?_);cases h;obtain rfl := he2 _ hf2;replace h := hk2;try dsimp only at h
     refine eb ?_;exact WQ.cut [] () sub h
   ·intro _ h;try dsimp only at h;unfold why_j1 at h;try dsimp only
    refine WC.seq (sr (lr1 rfl ?_));refine WL.q [] rfl rfl rfl (q_ev tbOk (iv (v.2.1.length : Int)) rfl tr lenT) ?_;refine lr1 rfl (nn ?_);refine WC.thenCut (X := Unit) (fun gG => ⟨[(12, .v (.sl 5 (v.2.1.map eM)))], []⟩) (fun gG => why_j2 v = some r) ?_ ?_
    ·refine WC.block ?_;obtain ⟨eQ1, hl1, hk1⟩ := bnd h;clear h;refine WC.loop (σ := Int) (τ := ((Int × Int × Int) ⊕ (Unit))) (fun sS => ⟨[(55, iv sS), (54, iv (v.2.1.length : Int)), (53, .v (.sl 5 (v.2.1.map eM))), (12, .v (.sl 5 (v.2.1.map eM))), (6, .p 6 0), (4, .p 4 0), (1, iv day), (3, tv code)], [(4, .blk 26 (kv (eF b))), (6, .blk 32 (kv (eS g)))]⟩) (why_b1 b day g code v) [] (0 : Int) hl1 sub ?_;intro t55 m hn1 he1 hx1;obtain ⟨o1, hf1⟩ := zQ1 hx1;have h := hf1;unfold why_b1 at h;try dsimp only
     refine sr (lr1 rfl (nn (WC.seq ?_)));revert h;refine ci (fun hc3 h => ?_) (fun hc3 h => ?_)
     ·refine kn (sb (sr (lr1 rfl ?_)));obtain ⟨g1, h⟩ := grd h;revert h;refine zb fun x2 hxx2 h => ?_;refine WL.q [] rfl rfl rfl (q_idx tbOk rfl tr g1 (zM1 (f := eM) hxx2)) ?_;refine lr4 rfl (ns ?_);refine lr 10 rfl sideR ?_;revert h;refine zb fun v5 hvv5 h => ?_;refine WL.gcall0 fn41 rfl rfl rfl rfl rfl (fun _ => sideR) rfl (fun hg => (hasPrefixS_con hw (ite_t hg hvv5))) ?_;refine lr 2 rfl sideR ?_;refine nn ?_;revert h;refine ci (fun hc4 h => ?_) (fun hc4 h => ?_)
      ·refine WC.seq (WC.order mixed ?_);obtain ⟨g2, h⟩ := grd h;refine wr 10 rfl (by repeat' (first | exact trivial | assumption | intro _ | exact g2 (by assumption) | apply And.intro | exact sideT | (refine and_i ?_ ?_))) ?_;revert h;refine zb fun v6 hvv6 h => ?_;refine WR.call0 fn42 rfl rfl rfl rfl tr rfl (reason_con hw hvv6) ?_;refine wr 3 rfl trivial ?_;refine WR.nil (by kernel_rfl) (WQ.thenNormal (WC.ret (rb ?_)));cases h;obtain rfl := he1 _ hf1;have h : some (t55, v6, (0 : Int)) = some _ := hk1;refine WQ.thenRet (rb ?_);cases h;exact WQ.rets tbOk (r := .tup [iv t55, iv v6, iv (0 : Int)]) hR [] (.inl rfl) rfl rfl (Le.tup (.cons (Le.refl _) (.cons (Le.refl _) (.cons (Le.refl _) .nil)))) tr rfl rfl rfl rfl
      ·refine WC.skip (bn (WC.region (lr2 rfl (WL.nil ?_))));cases h;exact WQ.next [] (IntKind.i64.wrap (t55 + (1 : Int))) sub (hn1 _ hf1)
     ·refine WC.exit (WQ.thenExit ?_);cases h;obtain rfl := he1 _ hf1;replace h := hk1;try dsimp only at h
      refine eb ?_;exact WQ.cut [] () sub h
    ·intro _ h;try dsimp only at h;unfold why_j2 at h;try dsimp only
     refine sr (lr1 rfl ?_);refine WL.q [] rfl rfl rfl (q_ev tbOk (iv (v.2.1.length : Int)) rfl tr lenT) ?_;refine lr3 rfl (nr ?_);cases h;exact WQ.rets tbOk (r := .tup [iv (v.2.1.length : Int), iv (6 : Int), iv (0 : Int)]) hR [] (.inl rfl) rfl rfl (Le.tup (.cons (Le.refl _) (.cons (Le.refl _) (.cons (Le.refl _) .nil)))) tr rfl rfl rfl rfl
theorem formatC_con {wg : World} (hw : WG wg) {steps : (List YL)} {r : Str} (h : formatC steps = some r) : Con Tryz.prog wg gl 22 [.v (.sl 5 (steps.map eM))] [] (tv r) [] := by
 unfold formatC at h;refine cw Tryz.func22 Tryz.ntmps22 ?_;intro F L w ρ0 R hR;try dsimp only [zP1]
 refine sr (lr1 rfl (ns (lr1 rfl ?_)));refine WL.spNil 3 0 rfl rfl (cs2 := [.sp 3, .v (.raw (.slice none 0 0))]) rfl ?_;refine WL.rowNilB 3 1 7151 5 1 rfl rfl rfl (cs2 := [.sp 3, .r 7151]) rfl ?_;refine nn (WC.seq (sr (lr1 rfl ?_)));refine WL.q [] rfl rfl rfl (q_ev tbOk (iv (steps.length : Int)) rfl tr lenT) ?_;refine lr1 rfl (nn ?_);refine WC.thenCut (X := (List Int)) (fun gG => ⟨[(3, .p 3 0)], [(2151, .row 5 1 (gG.map eInt_u8)), (3, .blk 88 [.sp 3, .r 2151])]⟩) (fun gG => formatC_j1 gG = some r) ?_ ?_
 ·refine WC.block ?_;obtain ⟨eQ1, hl1, hk1⟩ := bnd h;clear h;refine WC.loop (σ := Int × (List Int)) (τ := ((List Int))) (fun sS => ⟨[(10, iv sS.1), (9, iv (steps.length : Int)), (8, .v (.sl 5 (steps.map eM))), (3, .p 3 0)], [(2151, .row 5 1 (sS.2.map eInt_u8)), (3, .blk 88 [.sp 3, .r 2151])]⟩) (formatC_b1 steps) [(2151, 7151)] ((0 : Int), []) hl1 sub ?_;rintro ⟨t10, c3_12⟩ m hn1 he1 hx1;obtain ⟨o1, hf1⟩ := zQ1 hx1;have h := hf1;unfold formatC_b1 at h;try dsimp only
  refine sr (lr1 rfl (nn (WC.seq ?_)));revert h;refine ci (fun hc1 h => ?_) (fun hc1 h => ?_)
  ·refine kn (sb (sr ?_));obtain ⟨g1, h⟩ := grd h;revert h;refine zb fun x2 hxx2 h => ?_;refine WL.q [] rfl rfl rfl (q_idx tbOk rfl tr g1 (zM1 (f := eM) hxx2)) ?_;refine lr3 rfl (ns (lr3 rfl (nn (WC.seq (sr (lr2 rfl (nn ?_)))))));refine WC.thenCut (X := Str × (List Int)) (fun gG => ⟨[(6, tv gG.1), (5, .p 5 0), (10, iv t10), (9, iv (steps.length : Int)), (8, .v (.sl 5 (steps.map eM))), (3, .p 3 0)], [(2151, .row 5 1 (gG.2.map eInt_u8)), (3, .blk 88 [.sp 3, .r 2151]), (5, .blk 45 (kv (eM x2)))]⟩) (fun gG => formatC_j2 steps t10 x2 gG.1 gG.2 = some o1) ?_ ?_
   ·revert h;refine ci (fun hc2 h => ?_) (fun hc2 h => ?_)
    ·refine WC.region (lr1 rfl (WL.nil ?_));exact WQ.cut [] (([45] : Str), c3_12) sub h
    ·refine WC.skip ?_;exact WQ.cut [] (x2.Parent, c3_12) sub h
   ·rintro ⟨parent2, c3_16⟩ h;try dsimp only at h;unfold formatC_j2 at h;try dsimp only
    refine WC.seq (WC.order mixed ?_);refine wr 3 rfl trivial ?_;revert h;refine zb fun v7 hvv7 h => ?_;refine WR.call0 fn45 rfl rfl rfl rfl tr rfl (itoa_con hw hvv7) ?_;refine wr 2 rfl trivial ?_;revert h;refine zb fun v8 hvv8 h => ?_;refine WR.call0 fn46 rfl rfl rfl rfl tr rfl (joinS_con hw hvv8) ?_;refine wr 2 rfl trivial ?_;revert h;refine zb fun v9 hvv9 h => ?_;refine WR.call0 fn45 rfl rfl rfl rfl tr rfl (itoa_con hw hvv9) ?_;refine wr 4 rfl trivial ?_;refine WR.nil (by kernel_rfl) (WQ.thenNormal (WC.region (lr1 rfl ?_)));revert h;refine zb fun v10 hvv10 h => ?_;refine WL.call0 fn46 rfl rfl rfl rfl tr rfl (joinS_con hw hvv10) ?_;obtain ⟨g2, h⟩ := grd h;refine lr 1 rfl (by repeat' (first | exact trivial | assumption | intro _ | exact g2 (by assumption) | apply And.intro | exact sideT | (refine and_i ?_ ?_))) ?_;revert h;refine zb fun v11 hvv11 h => ?_;refine WL.callO [(0, 3), (601, 2151)] [(0, 3), (601, 2151), (651, 7701)] [3, 2151, 7701] fn47 rfl rfl rfl rfl tr (bWriteString_con hw hvv11) rfl rfl eqs rfl rfl rfl rfl rfl rfl ?_;refine WL.nil (bn (WC.region (lr2 rfl (WL.nil ?_))));cases h;exact WQ.next [(2151, 7701)] ((IntKind.i64.wrap (t10 + (1 : Int))), v11.2.2.buf) sub (hn1 _ hf1)
  ·refine WC.exit (WQ.thenExit ?_);cases h;obtain rfl := he1 _ hf1;replace h := hk1;try dsimp only at h
   refine eb ?_;exact WQ.cut [] c3_12 sub h
 ·intro c3_1 h;try dsimp only at h;unfold formatC_j1 at h;try dsimp only
  refine sr ?_;revert h;refine zb fun v hvv h => ?_;refine WL.callO [(0, 3), (601, 2151)] [(0, 3), (601, 2151)] [3, 2151] fn48 rfl rfl rfl rfl tr (bString_con hw hvv) rfl rfl eqs rfl rfl rfl rfl rfl rfl ?_;refine lr1 rfl (nr ?_);cases h;exact rt tbOk hR
end Go.Proofs.YtaeplfiaahkgpaaGreatDoor
end zCt
noncomputable section zCv
set_option linter.unusedVariables false
set_option linter.unusedSimpArgs false
set_option maxHeartbeats 4000000
set_option maxRecDepth 20000
namespace Go.Proofs.YtaeplfiaahkgpaaGreatDoor
open Go.V Go.C
theorem awake11_con {wg : World} (hw : WG wg)  {r : Bool} (h : awake11  = some r) : Con Tryz.prog wg gl 15 [] [] (ov r) [] := by
 unfold awake11 at h;refine cw Tryz.func15 Tryz.ntmps15 ?_;intro F L w ρ0 R hR;try dsimp only [zP1]
 refine sr (lr1 rfl (ns (lr 7 rfl trivial ?_)));refine WL.mkLe tbOk (.v (.sl 5 ([(⟨([57, 52] : Str), 0, (100 : Int), [], false⟩ : YB), (⟨([57, 52, 48, 49] : Str), 0, (100 : Int), [[([99, 104, 97, 105, 114] : Str)]], false⟩ : YB), (⟨([57, 52, 48, 51] : Str), 0, (100 : Int), [[([102, 117, 114, 110, 105, 116, 117, 114, 101] : Str)]], false⟩ : YB)].map eC))) rfl tr (Le.sl (.cons (.same (.same (.same (.sl 1 (.same .nil))))) (.cons (.same (.same (.same (.same (.same .nil))))) (.cons (.same (.same (.same (.same (.same .nil))))) .nil)))) ?_;refine lr3 rfl (ns (lr4 rfl (ns (lr2 rfl ?_))));revert h;refine zb fun v hvv h => ?_;refine WL.call0 fn20 rfl rfl rfl rfl tr rfl (con_le (.cons (Le.agg (.same (.sl 3 .nil))) (.cons (Le.refl _) (.cons (Le.agg (.same (.sl 2 (.sl 2 (.same .nil))))) (.cons (Le.refl _) .nil)))) (why_con hw hvv)) ?_;refine lr 7 rfl trivial (ns (lr4 rfl (ns (lr3 rfl ?_))));revert h;refine zb fun v2 hvv2 h => ?_;refine WL.call0 fn14 rfl rfl rfl rfl tr rfl (con_le (.cons (Le.agg (.same (.sl 3 .nil))) (.cons (Le.refl _) (.cons (Le.agg (.same (.sl 2 (.sl 2 (.same .nil))))) (.cons (Le.refl _) (.cons (Le.refl _) .nil))))) (check_con hw hvv2)) ?_;refine lr5 rfl (ns ?_);refine lr 20 rfl sideR ?_;revert h;refine zb fun v3 hvv3 h => ?_;refine WL.gcall0 fn22 rfl rfl rfl rfl rfl (fun _ => sideR) rfl (fun hg => (formatC_con hw (ite_t hg hvv3))) ?_;refine lr 3 rfl sideR ?_;refine nr ?_;cases h;exact rt tbOk hR
theorem day11_con {wg : World} (hw : WG wg) {n1 : Int} {r : Int} (h : day11 n1 = some r) : Con Tryz.prog wg gl 13 [iv n1] [] (iv r) [] := by
 unfold day11 at h;refine cw Tryz.func13 Tryz.ntmps13 ?_;intro F L w ρ0 R hR;try dsimp only [zP1]
 refine sr (lr1 rfl (ns (lr1 rfl ?_)));revert h;refine zb fun v hvv h => ?_;refine WL.call0 fn17 rfl rfl rfl rfl tr rfl (within_con hw hvv) ?_;refine lr1 rfl (nr ?_);cases h;exact rt tbOk hR
theorem lawCheckUnique_con {wg : World} (hw : WG wg) {l : (List Int)} {m1 : (List Int)} {d : Int} {code : Str} {s : (List YL)} {mix : Int} {r : Bool} (h : lawCheckUnique l m1 d code s mix = some r) : Con Tryz.prog wg gl 6 [.v (.sl 1 (l.map zG1)), .v (.sl 1 (m1.map zG1)), iv d, tv code, .v (.sl 5 (s.map eM)), iv mix] [] (ov r) [] := by
 unfold lawCheckUnique at h;refine cw Tryz.func6 Tryz.ntmps6 ?_;intro F L w ρ0 R hR;try dsimp only [zP1]
 refine sr (lr1 rfl (ns (lr1 rfl ?_)));revert h;refine zb fun v hvv h => ?_;refine WL.call0 fn10 rfl rfl rfl rfl tr rfl (madeNom_con hw hvv) ?_;refine lr1 rfl ?_;revert h;refine zb fun v2 hvv2 h => ?_;refine WL.call0 fn11 rfl rfl rfl rfl tr rfl (madeGood_con hw hvv2) ?_;refine lr4 rfl (nn (WC.seq (WC.order mixed ?_)));refine wr 2 rfl trivial ?_;revert h;refine zb fun v3 hvv3 h => ?_;refine WR.call0 fn13 rfl rfl rfl rfl tr rfl (day11_con hw hvv3) ?_;refine wr 1 rfl trivial ?_;revert h;refine zb fun v4 hvv4 h => ?_;refine WR.call0 fn16 rfl rfl rfl rfl tr rfl (rClassify_con hw hvv4) ?_;refine wr 7 rfl trivial ?_;refine WR.nil (by kernel_rfl) (WQ.thenNormal (WC.seq (sr (lr2 rfl (nn ?_)))));revert h;refine ci (fun hc1 h => ?_) (fun hc1 h => ?_)
 ·refine sr ?_;revert h;refine zb fun v5 hvv5 h => ?_;refine WL.call0 fn15 rfl rfl rfl rfl tr rfl (awake11_con hw hvv5) ?_;refine lr1 rfl (nr (WQ.thenRet ?_));cases h;exact rt tbOk hR
 ·refine kn (WC.seq (sr (lr3 rfl (nn ?_))));refine WC.thenCut (X := Str × (List YL)) (fun gG => ⟨[(3, tv gG.1), (4, .v (.sl 5 (gG.2.map eM))), (16, .v (.sl 5 (v4.2.1.map eM))), (15, tv v4.1), (14, .p 14 0), (13, .p 13 0), (2, iv d)], [(13, .blk 26 (kv (eF v))), (14, .blk 32 (kv (eS v2)))]⟩) (fun gG => lawCheckUnique_j1 d v v2 v4 gG.1 gG.2 = some r) ?_ ?_
  ·revert h;refine ci (fun hc2 h => ?_) (fun hc2 h => ?_)
   ·refine sr ?_;refine WL.buildRow tbOk (([] : (List YL)).map eM) rfl rfl rfl rfl tr rfl rfl ?_;refine lr 4 rfl sideR ?_;refine WL.q [] rfl rfl rfl (q_ev tbOk (iv (v4.2.1.length : Int)) rfl tr lenT) ?_;refine lr1 rfl ?_;revert h;refine zb fun v10 hvv10 h => ?_;refine WL.call0 fn17 rfl rfl rfl rfl tr rfl (within_con hw hvv10) ?_;obtain ⟨g1, h⟩ := grd h;refine WL.q [] rfl rfl rfl (q_ev tbOk (.v (.sl 5 (((v4.2.1.take v10.toNat).drop (0 : Int).toNat).map eM))) rfl sideR tdT) ?_;obtain ⟨g2, h⟩ := grd h;refine WL.appendR tbOk (((v4.2.1.take v10.toNat).drop (0 : Int).toNat).map eM) [48, 39] ap34 rfl rfl rfl rfl ce tr (zL1 (f := eM) (xs := ((v4.2.1.take v10.toNat).drop (0 : Int).toNat)) fun _ => rfl) (Room.le (K := 1954687338268) (B := 72) (by kernel_rfl) rfl rfl (al g2)) rfl rfl rfl rfl ?_;refine lr1 rfl ?_;obtain ⟨g3, h⟩ := grd h;refine WL.appendR tbOk ((((v4.2.1.take v10.toNat).drop (0 : Int).toNat) ++ s).map eM) [50, 48] ap34 rfl rfl rfl rfl ce tr (zL1 (f := eM) (xs := s) fun _ => rfl) (Room.le (K := 1954687338268) (B := 72) (by kernel_rfl) rfl rfl (al g3)) rfl rfl ma rfl ?_;refine lr1 rfl (nn (WC.region (lr2 rfl (WL.nil ?_))));refine WQ.publish 50 rfl rfl ?_;exact WQ.cut [] (v4.1, (((v4.2.1.take v10.toNat).drop (0 : Int).toNat) ++ s)) sub h
   ·refine WC.skip ?_;exact WQ.cut [] (code, s) sub h
  ·rintro ⟨code2, s2⟩ h;try dsimp only at h;unfold lawCheckUnique_j1 at h;try dsimp only
   refine WC.seq (WC.order mixed ?_);refine wr 2 rfl trivial ?_;revert h;refine zb fun v6 hvv6 h => ?_;refine WR.call0 fn13 rfl rfl rfl rfl tr rfl (day11_con hw hvv6) ?_;refine wr 3 rfl trivial ?_;revert h;refine zb fun v7 hvv7 h => ?_;refine WR.call0 fn14 rfl rfl rfl rfl tr rfl (check_con hw hvv7) ?_;refine wr 5 rfl trivial ?_;refine WR.nil (by kernel_rfl) (WQ.thenNormal (sr ?_));refine lr 8 rfl sideR ?_;revert h;refine zb fun v8 hvv8 h => ?_;refine WL.gcall0 fn19 rfl rfl rfl rfl rfl (fun _ => sideR) rfl (fun hg => (sameSteps_con hw (ite_t hg hvv8))) ?_;refine lr 3 rfl sideR ?_;revert h;refine zb fun v9 hvv9 h => ?_;refine WL.gcall0 fn15 rfl rfl rfl rfl rfl (fun _ => sideR) rfl (fun hg => (awake11_con hw (ite_t hg hvv9))) ?_;refine lr 2 rfl sideR ?_;refine nr ?_;cases h;exact rt tbOk hR
end Go.Proofs.YtaeplfiaahkgpaaGreatDoor
end zCv
noncomputable section zWa
section
set_option linter.unusedVariables false
set_option linter.unusedSimpArgs false
namespace Go.C
open Go.V
theorem loop_step {σ τ : Type} {f : σ → Option (σ ⊕ τ)} {s x : σ} (h : f s = some (.inl x)) : loopO f s = loopO f x := by rw [loopO_eq, h]
theorem loop_stop {σ τ : Type} {f : σ → Option (σ ⊕ τ)} {s : σ} {r : τ} (h : f s = some (.inr r)) : loopO f s = some r := by rw [loopO_eq, h]
theorem loop_list {α β σ τ : Type} (xs : List α) (f : σ → Option (σ ⊕ τ)) (mk : Nat → β → σ) (step : β → α → β) (p : Nat → Bool) (bad : τ) (r : β → τ) (I : Nat → β → Prop)
    (hI : ∀ i x b, I i b → xs[i]? = some x → I (i + 1) (step b x))
    (hgo : ∀ i x b, I i b → xs[i]? = some x → p i = true → f (mk i b) = some (.inl (mk (i + 1) (step b x))))
    (hbad : ∀ i x b, I i b → xs[i]? = some x → p i = false → f (mk i b) = some (.inr bad))
    (hend : ∀ b, I xs.length b → f (mk xs.length b) = some (.inr (r b))) (b0 : β) (h0 : I 0 b0) :
    loopO f (mk 0 b0) = some (if (List.range xs.length).all p = true then r (xs.foldl step b0) else bad) := by
  have key : ∀ (m k : Nat) (b : β), k + m = xs.length → I k b → loopO f (mk k b) = some (if (List.range' k m).all p = true then r ((xs.drop k).foldl step b) else bad) := by
    intro m
    induction m with
    | zero =>
      intro k b hk hb
      have : k = xs.length := by omega
      subst this
      rw [loop_stop (hend b hb)]
      simp
    | succ m ih =>
      intro k b hk hb
      have hlt : k < xs.length := by omega
      have hx : xs[k]? = some xs[k] := geq hlt
      cases hp : p k with
      | true =>
        rw [loop_step (hgo k _ b hb hx hp), ih (k + 1) _ (by omega) (hI k _ b hb hx)]
        rw [List.drop_eq_getElem_cons hlt, List.foldl_cons, List.range'_succ, List.all_cons, hp, Bool.true_and]
      | false =>
        rw [loop_stop (hbad k _ b hb hx hp), List.range'_succ, List.all_cons, hp, Bool.false_and]
        simp
  have := key xs.length 0 b0 (by omega) h0
  rwa [← List.range_eq_range', List.drop_zero] at this
theorem loop_fold {α β σ τ : Type} (xs : List α) (f : σ → Option (σ ⊕ τ)) (mk : Nat → β → σ) (step : β → α → β) (r : β → τ) (I : Nat → β → Prop)
    (hI : ∀ i x b, I i b → xs[i]? = some x → I (i + 1) (step b x))
    (hgo : ∀ i x b, I i b → xs[i]? = some x → f (mk i b) = some (.inl (mk (i + 1) (step b x))))
    (hend : ∀ b, I xs.length b → f (mk xs.length b) = some (.inr (r b))) (b0 : β) (h0 : I 0 b0) :
    loopO f (mk 0 b0) = some (r (xs.foldl step b0)) := by
  have key : ∀ (m k : Nat) (b : β), k + m = xs.length → I k b → loopO f (mk k b) = some (r ((xs.drop k).foldl step b)) := by
    intro m
    induction m with
    | zero =>
      intro k b hk hb
      have : k = xs.length := by omega
      subst this
      rw [loop_stop (hend b hb)]
      simp
    | succ m ih =>
      intro k b hk hb
      have hlt : k < xs.length := by omega
      have hx : xs[k]? = some xs[k] := geq hlt
      rw [loop_step (hgo k _ b hb hx), ih (k + 1) _ (by omega) (hI k _ b hb hx), List.drop_eq_getElem_cons hlt, List.foldl_cons]
  have := key xs.length 0 b0 (by omega) h0
  rwa [List.drop_zero] at this
theorem w64 {n : Int} (h : -9223372036854775808 ≤ n ∧ n ≤ 9223372036854775807) : IntKind.i64.wrap n = n := IntWalk.i64_in n h
theorem bl_total : ∀ a b : List UInt8, (Op.bytesLess a b || a == b) = !Op.bytesLess b a
 | [], [] => by simp [Op.bytesLess]
 | [], y :: b => by simp [Op.bytesLess]
 | x :: a, [] => by simp [Op.bytesLess]
 | x :: a, y :: b => by
  have ih := bl_total a b
  simp only [Op.bytesLess]
  by_cases h1 : x < y
  ·have h2 : ¬ y < x := fun h => absurd (UInt8.lt_trans h1 h) (UInt8.lt_irrefl x)
   have h3 : x ≠ y := fun h => by subst h; exact UInt8.lt_irrefl x h1
   simp [h1, h2, h3, Ne.symm h3]
  ·by_cases h2 : y < x
   ·have h3 : x ≠ y := fun h => by subst h; exact UInt8.lt_irrefl x h2
    simp [h1, h2, h3, Ne.symm h3]
   ·have h3 : x = y := UInt8.le_antisymm (UInt8.not_lt.1 h2) (UInt8.not_lt.1 h1)
    subst h3
    simp [ih]
def isL (b : UInt8) : Bool := decide (97 ≤ b.toNat) && decide (b.toNat ≤ 122)
def isW (s : List UInt8) : Bool := decide (1 ≤ s.length) && (decide (s.length ≤ 12) && (List.range s.length).all fun i => isL (s.getD i 0))
theorem rune_low (s : List UInt8) (p : Nat) (h : p < s.length) (hb : (s.getD p 0).toNat < 128) : runeI s p = ((s.getD p 0).toNat : Int) ∧ runeW s p = 1 := by
 have hs : p < (⟨⟨s⟩⟩ : ByteArray).size := h
 have e : (⟨⟨s⟩⟩ : ByteArray)[p]'hs = s.getD p 0 := by
  show s[p] = _
  simp [List.getD_eq_getElem?_getD, geq h]
 have := decode_ascii ⟨⟨s⟩⟩ p hs (by rw [e]; exact hb)
 unfold runeI runeW
 rw [this, e]
 exact ⟨rfl, rfl⟩
theorem rune_high (s : List UInt8) (p : Nat) (h : p < s.length) (hb : 128 ≤ (s.getD p 0).toNat) : 128 ≤ runeI s p := by
 have hs : p < (⟨⟨s⟩⟩ : ByteArray).size := h
 have e : (⟨⟨s⟩⟩ : ByteArray)[p]'hs = s.getD p 0 := by
  show s[p] = _
  simp [List.getD_eq_getElem?_getD, geq h]
 have := (decode_high ⟨⟨s⟩⟩ p hs (by rw [e]; exact hb)).1
 unfold runeI
 omega
theorem rng_f {a lo hi : Int} (h : lo ≤ a ∧ a ≤ hi) : ¬ ((bif (decide (a < lo)) then true else (decide (hi < a))) = true) := by
 have e1 : ¬ a < lo := by omega
 have e2 : ¬ hi < a := by omega
 simp [e1, e2]
theorem rng_t {a lo hi : Int} (h : a < lo ∨ hi < a) : (bif (decide (a < lo)) then true else (decide (hi < a))) = true := by
 rcases h with h | h
 ·simp [h]
 ·simp [h]
end Go.C
end
section
set_option linter.unusedVariables false
set_option linter.unusedSimpArgs false
namespace Go.C
open Go.V
theorem isL_iff (b : UInt8) : isL b = true ↔ 97 ≤ b.toNat ∧ b.toNat ≤ 122 := by simp [isL]
theorem isL_not (b : UInt8) : isL b = false ↔ b.toNat < 97 ∨ 122 < b.toNat := by
 rw [← Bool.not_eq_true, isL_iff]; omega
theorem zK1 {α : Type} {xs : List α} {i : Nat} {x : α} (h : xs[i]? = some x) : i < xs.length := (List.getElem?_eq_some_iff.1 h).1
theorem getD_of {α : Type} {xs : List α} {i : Nat} {x d : α} (h : xs[i]? = some x) : xs.getD i d = x := by rw [List.getD_eq_getElem?_getD, h]; rfl
theorem range_all {α : Type} (q : α → Bool) (d : α) : ∀ xs : List α, ((List.range xs.length).all fun i => q (xs.getD i d)) = xs.all q := by
 intro xs
 rw [Bool.eq_iff_iff, List.all_eq_true, List.all_eq_true]
 constructor
 ·intro h x hx
  obtain ⟨i, hi, rfl⟩ := List.getElem_of_mem hx
  have := h i (List.mem_range.2 hi)
  rwa [List.getD_eq_getElem?_getD, geq hi] at this
 ·intro h i hi
  have hi := List.mem_range.1 hi
  rw [List.getD_eq_getElem?_getD, geq hi]
  exact h _ (List.getElem_mem hi)
theorem isWord_eq (s : Str) : isWord s = some (isW s) := by
 unfold isWord isW
 by_cases h1 : 1 ≤ s.length
 ·by_cases h2 : s.length ≤ 12
  ·have hc : (bif (decide ((s.length : Int) < (1 : Int))) then true else (decide ((12 : Int) < (s.length : Int)))) = false := by
    have e1 : ¬ ((s.length : Int) < 1) := by omega
    have e2 : ¬ ((12 : Int) < (s.length : Int)) := by omega
    simp [e1, e2]
   rw [if_neg (by rw [hc]; simp)]
   have hgo : ∀ (i : Nat) (x : UInt8) (b : Unit), True → s[i]? = some x → isL (s.getD i 0) = true → isWord_b1 s i = some (.inl (i + 1)) := fun i x b _ hx hp => by
    have hlt := zK1 hx
    have hp := (isL_iff _).1 hp
    obtain ⟨r1, r2⟩ := rune_low s i hlt (by omega)
    unfold isWord_b1
    rw [if_pos hlt, if_neg (rng_f (by rw [r1]; omega)), r2]
   have hbad : ∀ (i : Nat) (x : UInt8) (b : Unit), True → s[i]? = some x → isL (s.getD i 0) = false → isWord_b1 s i = some (.inr (.inl false)) := fun i x b _ hx hp => by
    have hlt := zK1 hx
    have hp := (isL_not _).1 hp
    have hr : runeI s i < 97 ∨ 122 < runeI s i := by
     by_cases hb : (s.getD i 0).toNat < 128
     ·obtain ⟨r1, r2⟩ := rune_low s i hlt hb
      rw [r1]; omega
     ·have := rune_high s i hlt (by omega)
      omega
    unfold isWord_b1
    rw [if_pos hlt, if_pos (rng_t hr)]
   have hend : ∀ b : Unit, True → isWord_b1 s s.length = some (.inr (.inr ())) := fun b _ => by
    unfold isWord_b1
    rw [if_neg (by omega)]
   have := loop_list (β := Unit) s (isWord_b1 s) (fun i _ => i) (fun _ _ => ()) (fun i => isL (s.getD i 0)) (.inl false) (fun _ => .inr ()) (fun _ _ => True) (fun _ _ _ _ _ => trivial) hgo hbad hend () trivial
   rw [this]
   by_cases hall : ((List.range s.length).all fun i => isL (s.getD i 0)) = true
   ·rw [if_pos hall]; simp only [obs, isWord_j1, hall, h1, h2]; rfl
   ·rw [if_neg hall]; simp only [obs, Bool.not_eq_true] at hall ⊢; rw [hall]; simp
  ·have hc : (bif (decide ((s.length : Int) < (1 : Int))) then true else (decide ((12 : Int) < (s.length : Int)))) = true := by
    have e2 : ((12 : Int) < (s.length : Int)) := by omega
    simp [e2]
   rw [if_pos hc]; simp [h2]
 ·have hc : (bif (decide ((s.length : Int) < (1 : Int))) then true else (decide ((12 : Int) < (s.length : Int)))) = true := by
   have e2 : ((s.length : Int) < 1) := by omega
   simp [e2]
  rw [if_pos hc]; simp [h1]
theorem refWord_eq (s : Str) (hs : s.length ≤ 9223372036854775807) : refWord s = some (isW s) := by
 have hgo : ∀ (i : Nat) (x : UInt8) (b : Unit), True → s[i]? = some x → isL (s.getD i 0) = true → refWord_b1 s (i : Int) = some (.inl ((i + 1 : Nat) : Int)) := fun i x b _ hx hp => by
  have hlt := zK1 hx
  have hp := (isL_iff _).1 hp
  unfold refWord_b1
  dsimp only
  rw [itn, if_pos (by simp; omega), if_pos (by omega), if_pos (fun _ => by omega), if_neg (rng_f (by omega)), w64 (by omega)]
  rfl
 have hbad : ∀ (i : Nat) (x : UInt8) (b : Unit), True → s[i]? = some x → isL (s.getD i 0) = false → refWord_b1 s (i : Int) = some (.inr (.inl false)) := fun i x b _ hx hp => by
  have hlt := zK1 hx
  have hp := (isL_not _).1 hp
  unfold refWord_b1
  dsimp only
  rw [itn, if_pos (by simp; omega), if_pos (by omega), if_pos (fun _ => by omega), if_pos (rng_t (by omega))]
 have hend : ∀ b : Unit, True → refWord_b1 s (s.length : Int) = some (.inr (.inr ())) := fun b _ => by
  unfold refWord_b1
  rw [if_neg (by simp)]
 have := loop_list (β := Unit) s (refWord_b1 s) (fun i _ => (i : Int)) (fun _ _ => ()) (fun i => isL (s.getD i 0)) (.inl false) (fun _ => .inr ()) (fun _ _ => True) (fun _ _ _ _ _ => trivial) hgo hbad hend () trivial
 unfold refWord isW
 rw [show ((0 : Int) = ((0 : Nat) : Int)) from rfl, this]
 by_cases hall : ((List.range s.length).all fun i => isL (s.getD i 0)) = true
 ·rw [if_pos hall]; simp only [obs, refWord_j1, hall]
  have e1 : decide ((1 : Int) ≤ (s.length : Int)) = decide (1 ≤ s.length) := by congr 1; apply propext; omega
  have e2 : decide ((s.length : Int) ≤ (12 : Int)) = decide (s.length ≤ 12) := by congr 1; apply propext; omega
  rw [e1, e2]
  cases decide (1 ≤ s.length) <;> cases decide (s.length ≤ 12) <;> rfl
 ·rw [if_neg hall]; simp only [obs, Bool.not_eq_true] at hall ⊢; rw [hall]; simp
def wp (l : List Str) (i : Nat) : Bool := isW (l.getD i default) && (decide (i = 0) || Op.bytesLess (l.getD (i - 1) default) (l.getD i default))
def wordsOk (l : List Str) : Bool := decide (l.length ≤ 8) && (List.range l.length).all (wp l)
def some1 (l : List Str) : Bool := decide (l ≠ []) && wordsOk l
theorem wp_cond {l : List Str} {i : Nat} : (bif (!isW (l.getD i default)) then true else (bif (decide ((0 : Int) < (i : Int))) then (!Op.bytesLess (l.getD (i - 1) default) (l.getD i default)) else false)) = !wp l i := by
 unfold wp
 by_cases h0 : i = 0
 ·subst h0; cases isW (l.getD 0 default) <;> simp
 ·have e : ((0 : Int) < (i : Int)) := by omega
  simp only [e, h0, decide_true, decide_false, cond_true, Bool.false_or]
  cases isW (l.getD i default) <;> simp
theorem pre_nat {i : Nat} (h : i ≤ 9223372036854775807) (h0 : 0 < i) : (IntKind.i64.wrap ((i : Int) - (1 : Int))).toNat = i - 1 := by
 rw [w64 (by omega)]; omega
theorem validWords_eq (l : List Str) : validWords l = some (wordsOk l) := by
 unfold validWords wordsOk
 by_cases h8 : l.length ≤ 8
 ·rw [if_neg (by simp; omega)]
  have step : ∀ (i : Nat) (x : Str), l[i]? = some x → validWords_b1 l (i : Int) = if (!wp l i) = true then some (.inr (.inl false)) else some (.inl ((i + 1 : Nat) : Int)) := fun i x hx => by
   have hlt := zK1 hx
   unfold validWords_b1
   rw [if_pos (by simp; omega), if_pos (by omega), itn, hx, obs, isWord_eq, obs]
   rw [if_pos (fun h => by
    have : (0 : Int) < (i : Int) := by simp at h; omega
    rw [w64 (by omega)]; omega)]
   rw [← wp_cond, getD_of hx, bl_total, w64 (n := (i : Int) + 1) (by omega)]
   by_cases h0 : i = 0
   ·subst h0; rfl
   ·rw [pre_nat (by omega) (by omega)]; rfl
  have hgo : ∀ (i : Nat) (x : Str) (b : Unit), True → l[i]? = some x → wp l i = true → validWords_b1 l (i : Int) = some (.inl ((i + 1 : Nat) : Int)) := fun i x b _ hx hp => by rw [step i x hx, hp]; rfl
  have hbad : ∀ (i : Nat) (x : Str) (b : Unit), True → l[i]? = some x → wp l i = false → validWords_b1 l (i : Int) = some (.inr (.inl false)) := fun i x b _ hx hp => by rw [step i x hx, hp]; rfl
  have hend : ∀ b : Unit, True → validWords_b1 l (l.length : Int) = some (.inr (.inr ())) := fun b _ => by
   unfold validWords_b1
   rw [if_neg (by simp)]
  have := loop_list (β := Unit) l (validWords_b1 l) (fun i _ => (i : Int)) (fun _ _ => ()) (wp l) (.inl false) (fun _ => .inr ()) (fun _ _ => True) (fun _ _ _ _ _ => trivial) hgo hbad hend () trivial
  rw [show ((0 : Int) = ((0 : Nat) : Int)) from rfl, this]
  simp only [h8, decide_true, Bool.true_and]
  by_cases hall : ((List.range l.length).all (wp l)) = true
  ·rw [if_pos hall, hall]; rfl
  ·rw [if_neg hall]; simp only [obs, Bool.not_eq_true] at hall ⊢; rw [hall]
 ·rw [if_pos (by simp; omega)]; simp [h8]
theorem refWords_eq (l : List Str) (hl : l.length ≤ 9223372036854775807) (hs : ∀ x, x ∈ l → x.length ≤ 9223372036854775807) : refWords l = some (wordsOk l) := by
 have step : ∀ (i : Nat) (x : Str), l[i]? = some x → refWords_b1 l (i : Int) = if (!wp l i) = true then some (.inr (.inl false)) else some (.inl ((i + 1 : Nat) : Int)) := fun i x hx => by
  have hlt := zK1 hx
  unfold refWords_b1
  rw [if_pos (by simp; omega), if_pos (by omega), itn, hx, obs, refWord_eq x (hs x (List.mem_of_getElem? hx)), obs]
  rw [if_pos (fun h => by
   have : (0 : Int) < (i : Int) := by simp at h; omega
   rw [w64 (by omega)]; omega), if_pos (fun h => by omega)]
  rw [← wp_cond, getD_of hx, w64 (n := (i : Int) + 1) (by omega)]
  by_cases h0 : i = 0
  ·subst h0; rfl
  ·rw [pre_nat (by omega) (by omega)]; rfl
 have hgo : ∀ (i : Nat) (x : Str) (b : Unit), True → l[i]? = some x → wp l i = true → refWords_b1 l (i : Int) = some (.inl ((i + 1 : Nat) : Int)) := fun i x b _ hx hp => by rw [step i x hx, hp]; rfl
 have hbad : ∀ (i : Nat) (x : Str) (b : Unit), True → l[i]? = some x → wp l i = false → refWords_b1 l (i : Int) = some (.inr (.inl false)) := fun i x b _ hx hp => by rw [step i x hx, hp]; rfl
 have hend : ∀ b : Unit, True → refWords_b1 l (l.length : Int) = some (.inr (.inr ())) := fun b _ => by
  unfold refWords_b1
  rw [if_neg (by simp)]
 have := loop_list (β := Unit) l (refWords_b1 l) (fun i _ => (i : Int)) (fun _ _ => ()) (wp l) (.inl false) (fun _ => .inr ()) (fun _ _ => True) (fun _ _ _ _ _ => trivial) hgo hbad hend () trivial
 unfold refWords wordsOk
 rw [show ((0 : Int) = ((0 : Nat) : Int)) from rfl, this]
 by_cases hall : ((List.range l.length).all (wp l)) = true
 ·rw [if_pos hall, hall]; simp only [obs, refWords_j1]
  have e1 : decide ((l.length : Int) ≤ (8 : Int)) = decide (l.length ≤ 8) := by congr 1; apply propext; omega
  rw [e1]; simp
 ·rw [if_neg hall]; simp only [obs, Bool.not_eq_true] at hall ⊢; rw [hall]; simp
end Go.C
end
section
set_option linter.unusedVariables false
set_option linter.unusedSimpArgs false
namespace Go.C
open Go.V
theorem within_eq {x n : Int} (hn : 0 < n) (hn2 : n ≤ 4611686018427387904) : within x n = some (x % n) := by
 unfold within
 rw [if_pos (by omega), if_pos (by omega)]
 congr 1
 have h1 : -n < x.tmod n ∧ x.tmod n < n := ⟨by have := Int.lt_tmod_of_pos x hn; omega, Int.tmod_lt_of_pos x hn⟩
 rw [IntWalk.i64_in _ (by omega), Int.tmod_eq_emod_of_nonneg (by omega), Int.add_emod_right]
 rw [Int.tmod_eq_emod]
 split
 ·simp
 ·have : ((n.natAbs : Nat) : Int) = n := by omega
  rw [this, Int.sub_emod_right]
  exact Int.emod_emod_of_dvd x (Int.dvd_refl n)
def SOk (s : YH) : Prop := 0 ≤ s.I ∧ s.I ≤ s.L.length ∧ s.L.length ≤ 1000
theorem next_ok {s : YH} {n : Int} (hs : SOk s) (hn : 0 < n) (hn2 : n ≤ 4611686018427387904) : ∃ r s', srcNext s n = some (r, s') ∧ 0 ≤ r ∧ r < n ∧ SOk s' := by
 obtain ⟨h0, h1, h2⟩ := hs
 unfold srcNext
 split
 ·exact ⟨0, s, rfl, by omega, by omega, h0, h1, h2⟩
 ·rename_i c
  simp at c
  have e : IntKind.i64.wrap (IntKind.i64.wrap (s.I + 1) - 1) = s.I := by
   rw [IntWalk.i64_in (s.I + 1) (by omega), IntWalk.i64_in _ (by omega)]; omega
  rw [e, if_pos h0]
  have hlt : s.I.toNat < s.L.length := by omega
  rw [geq hlt]
  simp only [obs, within_eq hn hn2]
  refine ⟨_, _, rfl, Int.emod_nonneg _ (by omega), Int.emod_lt_of_pos _ hn, ?_⟩
  refine ⟨?_, ?_, h2⟩ <;> simp only <;> rw [IntWalk.i64_in (s.I + 1) (by omega)] <;> omega
theorem cut_ok (l : List Int) (n : Nat) (hn : n ≤ 1000) : ∃ v, madeCut l (n : Int) = some v ∧ v.length ≤ n := by
 unfold madeCut
 split
 ·rename_i c
  simp only [decide_eq_true_eq] at c
  rw [if_pos (by omega)]
  exact ⟨_, rfl, by simp; omega⟩
 ·rename_i c
  simp only [decide_eq_true_eq] at c
  exact ⟨_, rfl, by omega⟩
theorem loop_inv {σ τ : Type} {f : σ → Option (σ ⊕ τ)} (I : Nat → σ → Prop) (R : τ → Prop)
    (hstep : ∀ n s, I n s → (∃ s' m, m < n ∧ f s = some (.inl s') ∧ I m s') ∨ (∃ r, f s = some (.inr r) ∧ R r)) : ∀ n s, I n s → ∃ r, loopO f s = some r ∧ R r := by
  intro n
  induction n using Nat.strongRecOn with
  | ind n ih =>
    intro s h
    rcases hstep n s h with ⟨s', m, hm, h1, h2⟩ | ⟨r, h1, h2⟩
    · obtain ⟨r, h3, h4⟩ := ih m hm s' h2
      exact ⟨r, by rw [loop_step h1]; exact h3, h4⟩
    · exact ⟨r, loop_stop h1, h2⟩
def vocab : List Str := [([99, 104, 97, 105, 114] : Str), ([100, 101, 115, 107] : Str), ([103, 108, 97, 115, 115] : Str), ([108, 97, 109, 112] : Str), ([111, 102, 102, 105, 99, 101] : Str), ([112, 97, 114, 116, 115] : Str), ([115, 101, 97, 116] : Str), ([115, 116, 101, 101, 108] : Str), ([119, 111, 111, 100] : Str)]
def Asc (l : List Str) : Prop := l.Pairwise (fun a b => Op.bytesLess a b = true) ∧ ∀ x, x ∈ l → isW x = true
theorem asc_vocab : Asc vocab := ⟨by decide, by decide⟩
theorem Asc.sub {l m : List Str} (h : Asc m) (hs : l.Sublist m) : Asc l := ⟨h.1.sublist hs, fun x hx => h.2 x (hs.mem hx)⟩
theorem Asc.wp {l : List Str} (h : Asc l) : (List.range l.length).all (wp l) = true := by
 rw [List.all_eq_true]
 intro i hi
 have hi := List.mem_range.1 hi
 have e : l.getD i default = l[i] := by rw [List.getD_eq_getElem?_getD, geq hi]; rfl
 unfold C.wp
 rw [e, h.2 _ (List.getElem_mem hi), Bool.true_and]
 by_cases h0 : i = 0
 ·simp [h0]
 ·have e2 : l.getD (i - 1) default = l[i - 1] := by rw [List.getD_eq_getElem?_getD, geq (by omega)]; rfl
  rw [e2, List.pairwise_iff_getElem.1 h.1 (i - 1) i (by omega) hi (by omega)]
  simp
theorem Asc.some1 {l : List Str} (h : Asc l) (hn : l ≠ []) (h8 : l.length ≤ 8) : some1 l = true := by
 unfold C.some1 wordsOk
 simp [hn, h8, h.wp]
theorem sub_snoc {α : Type} {l m : List α} (k : Nat) (h : l.Sublist (m.take k)) (hk : k < m.length) : (l ++ [m[k]]).Sublist (m.take (k + 1)) ∧ l.Sublist (m.take (k + 1)) := by
 rw [List.take_add_one, geq hk]
 exact ⟨h.append (List.Sublist.refl _), h.trans (List.sublist_append_left _ _)⟩
theorem words_ok {s : YH} (hs : SOk s) (most : Nat) (h1 : 1 ≤ most) (h2 : most ≤ 8) : ∃ l s', srcWords s (most : Int) = some (l, s') ∧ Asc l ∧ l ≠ [] ∧ l.length ≤ most ∧ SOk s' := by
 unfold srcWords
 have hv : vocabulary = some vocab := rfl
 rw [hv, obs]
 obtain ⟨r1, s1, e1, b1, b2, k1⟩ := next_ok (n := 512) hs (by omega) (by omega)
 rw [e1, obs]
 have hlen : vocab.length = 9 := rfl
 obtain ⟨out, eo, ho1, ho2⟩ := loop_inv (f := srcWords_b1 (most : Int) vocab (r1, s1)) (fun n x => ∃ k : Nat, n = 9 - k ∧ k ≤ 9 ∧ x.1 = (k : Int) ∧ x.2.Sublist (vocab.take k) ∧ x.2.length ≤ most) (fun r => r.Sublist vocab ∧ r.length ≤ most) (by
  rintro n ⟨i, out⟩ ⟨k, rfl, hk, hi, hsub, hl⟩
  simp only at hi hsub hl
  subst hi
  unfold srcWords_b1
  dsimp only
  by_cases hc : k < 9 ∧ out.length < most
  ·refine .inl ?_
   have hkl : k < vocab.length := by omega
   rw [if_pos (by
    have e1 : ((k : Int) < (vocab.length : Int)) := by omega
    have e2 : ((out.length : Int) < (most : Int)) := by omega
    simp only [e1, e2, decide_true, cond_true]), if_pos (by omega)]
   obtain ⟨q1, q2⟩ := sub_snoc k hsub hkl
   split
   ·rw [if_pos (by omega), itn, geq hkl, obs, if_pos (by simp; omega)]
    unfold srcWords_j3
    rw [w64 (n := (k : Int) + 1) (by omega)]
    exact ⟨_, 9 - (k + 1), by omega, rfl, k + 1, rfl, by omega, rfl, q1, by simp; omega⟩
   ·unfold srcWords_j3
    rw [w64 (n := (k : Int) + 1) (by omega)]
    exact ⟨_, 9 - (k + 1), by omega, rfl, k + 1, rfl, by omega, rfl, q2, hl⟩
  ·refine .inr ?_
   rw [if_neg (by
    by_cases e1 : ((k : Int) < (vocab.length : Int))
    ·have e2 : ¬ ((out.length : Int) < (most : Int)) := by omega
     simp [e2]
    ·simp [e1])]
   exact ⟨_, rfl, hsub.trans (List.take_sublist _ _), hl⟩) 9 ((0 : Int), []) ⟨0, rfl, by omega, rfl, by simp, by simp⟩
 rw [eo, obs]
 unfold srcWords_j1 srcWords_j2
 dsimp only
 by_cases hn : out = []
 ·subst hn
  have ht : (r1.tmod (vocab.length : Int)) = r1 % 9 := by rw [Int.tmod_eq_emod_of_nonneg b1]; rfl
  rw [if_pos (by rfl), if_pos (by decide), ht, if_pos (by omega)]
  have hlt : (r1 % 9).toNat < vocab.length := by omega
  rw [geq hlt, obs]
  exact ⟨_, _, rfl, asc_vocab.sub (List.singleton_sublist.2 (List.getElem_mem hlt)), by simp, by simp; omega, k1⟩
 ·have : (((out.length : Int)) == 0) = false := by
   have : out.length ≠ 0 := fun h => hn (List.eq_nil_of_length_eq_zero h)
   simp only [beq_eq_false_iff_ne, ne_eq]; omega
  rw [if_neg (by rw [this]; simp)]
  exact ⟨_, _, rfl, asc_vocab.sub ho1, hn, ho2, k1⟩
structure ShOk (l : List Int) : Prop where
  rng : ∀ x, x ∈ l → 1 ≤ x ∧ x ≤ 1000000
  sum : l.sum = 1000000
theorem shares_ok {s : YH} (hs : SOk s) (n : Nat) (h1 : 1 ≤ n) (h2 : n ≤ 8) : ∃ l s', srcShares s (n : Int) = some (l, s') ∧ l.length = n ∧ ShOk l ∧ SOk s' := by
 unfold srcShares
 obtain ⟨⟨left, out, cL, cI⟩, eo, ho1, ho2, ho3, ho4, ho5⟩ := loop_inv (f := srcShares_b1 (n : Int)) (fun m x => ∃ k : Nat, m = n - k ∧ 1 ≤ k ∧ k ≤ n ∧ x.1 = (k : Int) ∧ x.2.2.1.length = k - 1 ∧ (∀ y, y ∈ x.2.2.1 → 1 ≤ y ∧ y ≤ 1000000) ∧ x.2.2.1.sum + x.2.1 = 1000000 ∧ ((n : Int) - k + 1 ≤ x.2.1 ∧ x.2.1 ≤ 1000000) ∧ SOk ⟨x.2.2.2.1, x.2.2.2.2⟩)
  (fun r => r.2.1.length = n - 1 ∧ (∀ y, y ∈ r.2.1 → 1 ≤ y ∧ y ≤ 1000000) ∧ r.2.1.sum + r.1 = 1000000 ∧ (1 ≤ r.1 ∧ r.1 ≤ 1000000) ∧ SOk ⟨r.2.2.1, r.2.2.2⟩) (by
  rintro m ⟨i, left, out, cL, cI⟩ ⟨k, rfl, hk1, hk2, hi, hl, hr, hsum, hle, hso⟩
  simp only at hi hl hr hsum hle hso
  subst hi
  unfold srcShares_b1
  dsimp only
  by_cases hc : k < n
  ·refine .inl ?_
   rw [if_pos (by simp only [decide_eq_true_eq]; omega)]
   obtain ⟨r1, s1, e1, b1, b2, k1⟩ := next_ok (n := 4) hso (by omega) (by omega)
   rw [e1, obs]
   obtain ⟨r2, s2, e2, b3, b4, k2⟩ := next_ok (n := 2) k1 (by omega) (by omega)
   dsimp only
   rw [e2, obs]
   dsimp only
   have fin : ∀ (x : Int) (L : List Int) (I : Int), 1 ≤ x → x ≤ 1000000 → SOk ⟨L, I⟩ → ∃ s' m, m < n - k ∧ srcShares_j2 (n : Int) (k : Int) left x out L I = some (.inl s') ∧ (∃ k' : Nat, m = n - k' ∧ 1 ≤ k' ∧ k' ≤ n ∧ s'.1 = (k' : Int) ∧ s'.2.2.1.length = k' - 1 ∧ (∀ y, y ∈ s'.2.2.1 → 1 ≤ y ∧ y ≤ 1000000) ∧ s'.2.2.1.sum + s'.2.1 = 1000000 ∧ ((n : Int) - k' + 1 ≤ s'.2.1 ∧ s'.2.1 ≤ 1000000) ∧ SOk ⟨s'.2.2.2.1, s'.2.2.2.2⟩) := by
    intro x L I hx1 hx2 hLI
    unfold srcShares_j2
    rw [w64 (n := (n : Int) - (k : Int)) (by omega), w64 (n := left - ((n : Int) - (k : Int))) (by omega)]
    have hz : ∃ z : Int, (if left - ((n : Int) - (k : Int)) < x then left - ((n : Int) - (k : Int)) else x) = z ∧ 1 ≤ z ∧ z ≤ 1000000 ∧ z ≤ left - ((n : Int) - (k : Int)) := by
     split
     ·exact ⟨_, rfl, by omega, by omega, by omega⟩
     ·exact ⟨_, rfl, by omega, by omega, by omega⟩
    obtain ⟨z, hz0, hz1, hz2, hz3⟩ := hz
    rw [hz0, if_pos (by simp; omega), w64 (n := left - z) (by omega), w64 (n := (k : Int) + 1) (by omega)]
    refine ⟨_, n - (k + 1), by omega, rfl, k + 1, rfl, by omega, by omega, rfl, by simp; omega, fun y hy => ?_, by simp; omega, by simp only; omega, hLI⟩
    rcases List.mem_append.1 hy with h | h
    ·exact hr y h
    ·simp at h; subst h; exact ⟨hz1, hz2⟩
   split
   ·rw [if_pos (by omega)]
    have hdiv : (1000000 : Int).tdiv (n : Int) = 1000000 / (n : Int) := Int.tdiv_eq_ediv_of_nonneg (by omega)
    have hd1 : 1 ≤ (1000000 : Int) / (n : Int) := (Int.le_ediv_iff_mul_le (by omega)).2 (by omega)
    have hd2 : (1000000 : Int) / (n : Int) ≤ 1000000 := Int.ediv_le_self _ (by omega)
    rw [hdiv, w64 (n := 1000000 / (n : Int)) (by omega)]
    obtain ⟨r3, s3, e3, b5, b6, k3⟩ := next_ok (n := 1000000 / (n : Int)) k2 (by omega) (by omega)
    rw [e3, obs]
    dsimp only
    rw [w64 (n := 1 + r3) (by omega)]
    exact fin _ _ _ (by omega) (by omega) k3
   ·rw [w64 (n := r1 * 100000) (by omega), w64 (n := 1 + r1 * 100000) (by omega)]
    exact fin _ _ _ (by omega) (by omega) k2
  ·refine .inr ?_
   have : k = n := by omega
   subst this
   rw [if_neg (by simp)]
   exact ⟨_, rfl, hl, hr, hsum, by simp only; omega, hso⟩) (n - 1) ((1 : Int), (1000000 : Int), [], s.L, s.I) ⟨1, rfl, by omega, by omega, rfl, rfl, fun y hy => by simp at hy, by simp, by simp only; omega, hs⟩
 rw [eo, obs]
 simp only at ho1 ho2 ho3 ho4 ho5
 unfold srcShares_j1
 dsimp only
 rw [if_pos (by simp; omega)]
 refine ⟨_, _, rfl, by simp; omega, ⟨fun y hy => ?_, by simp; omega⟩, ho5⟩
 rcases List.mem_append.1 hy with h | h
 ·exact ho2 y h
 ·simp at h; subst h; exact ho4
end Go.C
end
section
set_option linter.unusedVariables false
set_option linter.unusedSimpArgs false
namespace Go.C
open Go.V
open Go.Lib (decDigits)
abbrev dg (n : Nat) : UInt8 := UInt8.ofNat (48 + n)
theorem dec_small {u : Nat} (h : u < 10) : decDigits u = [dg u] := by rw [decDigits, dif_pos h]
theorem dec_big {u : Nat} (h : ¬ u < 10) : decDigits u = decDigits (u / 10) ++ [dg (u % 10)] := by rw [decDigits, dif_neg h]
theorem dec_len (k : Nat) : ∀ u : Nat, u < 10 ^ (k + 1) → (decDigits u).length ≤ k + 1 := by
 induction k with
 | zero => intro u h; rw [dec_small (by simpa using h)]; simp
 | succ k ih =>
  intro u h
  by_cases hu : u < 10
  ·rw [dec_small hu]; simp
  ·rw [dec_big hu, List.length_append]
   have := ih (u / 10) (by rw [Nat.pow_succ] at h; omega)
   simp; omega
theorem itoa_ok {n : Int} (h : 0 ≤ n) (h2 : n ≤ 9223372036854775807) : Go.C.itoa n = some (decDigits n.toNat) := by
 unfold Go.C.itoa Lib.itoa
 rw [if_pos (by unfold i64 okI_i64; omega), if_neg (by omega)]
def IsDig (l : Str) : Prop := ∀ c, c ∈ l → 48 ≤ c.toNat ∧ c.toNat ≤ 57
theorem IsDig.append {l r : Str} (h : IsDig l) (k : IsDig r) : IsDig (l ++ r) := fun c hc => by
 rcases List.mem_append.1 hc with hc | hc
 ·exact h c hc
 ·exact k c hc
theorem join_cons2 (x y : Str) (r : List Str) (sep : Str) : Lib.join (x :: y :: r) sep = x ++ sep ++ Lib.join (y :: r) sep := by
 rw [Lib.join_cons, Lib.join_cons]
 simp [Lib.joinTail]
theorem join_len (l : List Str) (sep : Str) : (Lib.join l sep).length ≤ sep.length * l.length + Lib.lens l := by
 cases l with
 | nil => simp [Lib.join_nil]
 | cons x r =>
  rw [Lib.join_cons, List.length_append, Lib.joinTail_length]
  simp only [Lib.lens, List.map_cons, List.sum_cons, List.length_cons, Nat.mul_succ]
  omega
theorem lens_le {l : List Str} {k : Nat} (h : ∀ x, x ∈ l → x.length ≤ k) : Lib.lens l ≤ k * l.length := by
 induction l with
 | nil => simp [Lib.lens]
 | cons x r ih =>
  have h1 := h x (by simp)
  have h2 := ih (fun y hy => h y (by simp [hy]))
  simp only [Lib.lens, List.map_cons, List.sum_cons, List.length_cons, Nat.mul_succ] at h2 ⊢
  omega
theorem loop_seq {σ τ : Type} {f : σ → Option (σ ⊕ τ)} (n : Nat) (s : Nat → σ) (r : τ) (hgo : ∀ i, i < n → f (s i) = some (.inl (s (i + 1)))) (hend : f (s n) = some (.inr r)) : loopO f (s 0) = some r := by
  have key : ∀ m k, k + m = n → loopO f (s k) = some r := by
    intro m
    induction m with
    | zero => intro k hk; have : k = n := by omega
              subst this; exact loop_stop hend
    | succ m ih => intro k hk; rw [loop_step (hgo k (by omega))]; exact ih (k + 1) (by omega)
  exact key n 0 (by omega)
theorem loop_all {α β σ τ : Type} (xs : List α) (f : σ → Option (σ ⊕ τ)) (mk : Nat → β → σ) (I : Nat → β → Prop) (R : τ → Prop)
    (hgo : ∀ i x b, xs[i]? = some x → I i b → (∃ b', f (mk i b) = some (.inl (mk (i + 1) b')) ∧ I (i + 1) b') ∨ (∃ r, f (mk i b) = some (.inr r) ∧ R r))
    (hend : ∀ b, I xs.length b → ∃ r, f (mk xs.length b) = some (.inr r) ∧ R r) (b0 : β) (h0 : I 0 b0) : ∃ r, loopO f (mk 0 b0) = some r ∧ R r := by
  have key : ∀ (m k : Nat) (b : β), k + m = xs.length → I k b → ∃ r, loopO f (mk k b) = some r ∧ R r := by
    intro m
    induction m with
    | zero =>
      intro k b hk hb
      have : k = xs.length := by omega
      subst this
      obtain ⟨r, h1, h2⟩ := hend b hb
      exact ⟨r, loop_stop h1, h2⟩
    | succ m ih =>
      intro k b hk hb
      have hlt : k < xs.length := by omega
      rcases hgo k xs[k] b (geq hlt) hb with ⟨b', h1, h2⟩ | ⟨r, h1, h2⟩
      · obtain ⟨r, h3, h4⟩ := ih (k + 1) b' (by omega) h2
        exact ⟨r, by rw [loop_step h1]; exact h3, h4⟩
      · exact ⟨r, loop_stop h1, h2⟩
  exact key xs.length 0 b0 (by omega) h0
end Go.C
end
section
set_option linter.unusedVariables false
set_option linter.unusedSimpArgs false
namespace Go.C
open Go.V
open Go.Lib (decDigits)
theorem take_snoc {α : Type} {l : List α} {i : Nat} (h : i < l.length) : l.take (i + 1) = l.take i ++ [l[i]] := by rw [List.take_add_one, geq h]; rfl
end Go.C
end
section
set_option linter.unusedVariables false
set_option linter.unusedSimpArgs false
namespace Go.C
open Go.V
def ferr : Nat → (Nat → Int) → Int
 | 0, _ => 0
 | n + 1, f => if ferr n f = 0 then f n else ferr n f
theorem ferr_zero {f : Nat → Int} : ∀ {n : Nat}, ferr n f = 0 ↔ ∀ i, i < n → f i = 0
 | 0 => by simp [ferr]
 | n + 1 => by
  have ih := ferr_zero (f := f) (n := n)
  unfold ferr
  constructor
  ·intro h i hi
   by_cases h0 : ferr n f = 0
   ·rw [if_pos h0] at h
    by_cases e : i = n
    ·subst e; exact h
    ·exact ih.1 h0 i (by omega)
   ·rw [if_neg h0] at h; exact absurd h h0
  ·intro h
   rw [if_pos (ih.2 fun i hi => h i (by omega))]
   exact h n (by omega)
theorem ferr_first {f : Nat → Int} : ∀ {n k : Nat}, k < n → (∀ i, i < k → f i = 0) → f k ≠ 0 → ferr n f = f k
 | 0, k, h, _, _ => by omega
 | n + 1, k, h, h0, hk => by
  unfold ferr
  by_cases e : k = n
  ·subst e; rw [if_pos (ferr_zero.2 h0)]
  ·have := ferr_first (f := f) (n := n) (k := k) (by omega) h0 hk
   rw [if_neg (by rw [this]; exact hk), this]
theorem loop_err {α : Type} (xs : List α) (body : Int → Option (Int ⊕ (Int ⊕ Unit))) (f : Nat → Int)
    (hstep : ∀ i x, xs[i]? = some x → (∀ j, j < i → f j = 0) → body (i : Int) = if f i = 0 then some (.inl ((i + 1 : Nat) : Int)) else some (.inr (.inl (f i)))) (hend : body (xs.length : Int) = some (.inr (.inr ()))) :
    loopO body (0 : Int) = some (if ferr xs.length f = 0 then .inr () else .inl (ferr xs.length f)) := by
  have key : ∀ m k : Nat, k + m = xs.length → (∀ j, j < k → f j = 0) → loopO body (k : Int) = some (if ferr xs.length f = 0 then .inr () else .inl (ferr xs.length f)) := by
    intro m
    induction m with
    | zero =>
      intro k hk h0
      have : k = xs.length := by omega
      subst this
      rw [loop_stop hend, if_pos (ferr_zero.2 h0)]
    | succ m ih =>
      intro k hk h0
      have hlt : k < xs.length := by omega
      have hs := hstep k _ (geq hlt) h0
      by_cases hf : f k = 0
      · rw [if_pos hf] at hs
        rw [loop_step hs]
        exact ih (k + 1) (by omega) (fun j hj => by
          by_cases e : j = k
          · subst e; exact hf
          · exact h0 j (by omega))
      · rw [if_neg hf] at hs
        rw [loop_stop hs, ferr_first hlt h0 hf, if_neg hf]
  exact key xs.length 0 (by omega) (fun j hj => by omega)
def isD (b : UInt8) : Bool := decide (48 ≤ b.toNat) && decide (b.toNat ≤ 57)
abbrev digs : Str := [48, 49, 50, 51, 52, 53, 54, 55, 56, 57]
theorem digs_eq (b : UInt8) : digs.contains b = isD b := by
 have h : ∀ n : Fin 256, digs.contains (UInt8.ofNat n.val) = isD (UInt8.ofNat n.val) := by decide +kernel
 have := h ⟨b.toNat, b.toNat_lt⟩
 simpa using this
theorem mem_dropWhile {α : Type} {p : α → Bool} {x : α} : ∀ {l : List α}, x ∈ l → p x = false → x ∈ l.dropWhile p
 | [], h, _ => by cases h
 | y :: l, h, hp => by
  rw [List.dropWhile_cons]
  split
  ·rename_i hy
   rcases List.mem_cons.1 h with rfl | h
   ·rw [hp] at hy; cases hy
   ·exact mem_dropWhile h hp
  ·exact h
theorem dropWhile_nil {α : Type} {p : α → Bool} : ∀ {l : List α}, (∀ x, x ∈ l → p x = true) → l.dropWhile p = []
 | [], _ => rfl
 | y :: l, h => by rw [List.dropWhile_cons, if_pos (h y (by simp))]; exact dropWhile_nil (fun x hx => h x (by simp [hx]))
theorem trimS_nil (s : Str) : (Lib.trimS s digs == ([] : Str)) = s.all isD := by
 have hall : s.all isD = s.all (digs.contains ·) := by congr 1; funext b; exact (digs_eq b).symm
 rw [hall, Bool.eq_iff_iff, beq_iff_eq, List.all_eq_true]
 unfold Lib.trimS Lib.trimLeftS Lib.trimRightS
 constructor
 ·intro h x hx
  cases hp : digs.contains x with
  | true => rfl
  | false =>
   have h1 : x ∈ (s.reverse.dropWhile (digs.contains ·)).reverse := List.mem_reverse.2 (mem_dropWhile (List.mem_reverse.2 hx) hp)
   have h2 := mem_dropWhile (p := (digs.contains ·)) h1 hp
   rw [h] at h2; cases h2
 ·intro h
  have : s.reverse.dropWhile (digs.contains ·) = [] := dropWhile_nil (fun x hx => h x (List.mem_reverse.1 hx))
  rw [this]; rfl
theorem trim_some {s : Str} (h : s.length ≤ 9223372036854775807) : trimS s digs = some (Lib.trimS s digs) := by
 unfold trimS
 rw [if_pos ⟨h, by decide, by decide⟩]
def lvl (s : Str) : Int := if s.all isD = true ∧ (s.length = 2 ∨ s.length = 4 ∨ s.length = 6 ∨ s.length = 8) then (s.length : Int) else 0
theorem nomLevel_eq (s : Str) : nomLevel s = some (lvl s) := by
 have ht : ∀ k : Int, k ≤ 8 → (if ((s.length : Int) == k) = true then trimS s digs else some default) = some (if (s.length : Int) = k then Lib.trimS s digs else default) := fun k hk => by
  by_cases h : (s.length : Int) = k
  ·rw [if_pos (by simpa using h), if_pos h, trim_some (by omega)]
  ·rw [if_neg (by simpa using h), if_neg h]
 have hc : ∀ k : Int, (bif ((s.length : Int) == k) then ((if (s.length : Int) = k then Lib.trimS s digs else default) == ([] : Str)) else false) = (decide ((s.length : Int) = k) && s.all isD) := fun k => by
  by_cases h : (s.length : Int) = k
  ·have e : ((s.length : Int) == k) = true := by simpa using h
   rw [e, if_pos h, trimS_nil]; simp [h]
  ·have e : ((s.length : Int) == k) = false := by simpa using h
   rw [e]; simp [h]
 unfold nomLevel nomLevel_j1 lvl
 rw [ht 2 (by omega), obs, hc, ht 4 (by omega), obs, hc, ht 6 (by omega), obs, hc, ht 8 (by omega), obs, hc]
 cases ha : s.all isD with
 | false => simp
 | true =>
  simp only [Bool.and_true, decide_eq_true_eq, true_and]
  by_cases h2 : (s.length : Int) = 2
  ·rw [if_pos h2, if_pos (.inl (by omega)), h2]
  ·rw [if_neg h2]
   by_cases h4 : (s.length : Int) = 4
   ·rw [if_pos h4, if_pos (.inr (.inl (by omega))), h4]
   ·rw [if_neg h4]
    by_cases h6 : (s.length : Int) = 6
    ·rw [if_pos h6, if_pos (.inr (.inr (.inl (by omega)))), h6]
    ·rw [if_neg h6]
     by_cases h8 : (s.length : Int) = 8
     ·rw [if_pos h8, if_pos (.inr (.inr (.inr (by omega)))), h8]
     ·rw [if_neg h8, if_neg (by omega)]
theorem isD_iff (b : UInt8) : isD b = true ↔ 48 ≤ b.toNat ∧ b.toNat ≤ 57 := by simp [isD]
theorem all_range {p : UInt8 → Bool} (s : Str) : ((List.range s.length).all fun i => p (s.getD i 0)) = s.all p := by
 rw [Bool.eq_iff_iff, List.all_eq_true, List.all_eq_true]
 constructor
 ·intro h x hx
  obtain ⟨i, hi, rfl⟩ := List.getElem_of_mem hx
  have := h i (List.mem_range.2 hi)
  rwa [List.getD_eq_getElem?_getD, geq hi] at this
 ·intro h i hi
  have hi := List.mem_range.1 hi
  rw [List.getD_eq_getElem?_getD, geq hi]
  exact h _ (List.getElem_mem hi)
theorem refLevel_eq {s : Str} (hs : s.length ≤ 9223372036854775807) : refLevel s = some (lvl s) := by
 have hgo : ∀ (i : Nat) (x : UInt8) (b : Unit), True → s[i]? = some x → isD (s.getD i 0) = true → refLevel_b1 s (i : Int) = some (.inl ((i + 1 : Nat) : Int)) := fun i x b _ hx hp => by
  have hlt := zK1 hx
  have hp := (isD_iff _).1 hp
  unfold refLevel_b1
  dsimp only
  rw [itn, if_pos (by simp; omega), if_pos (by omega), if_pos (fun _ => by omega), if_neg (rng_f (by omega)), w64 (by omega)]
  rfl
 have hbad : ∀ (i : Nat) (x : UInt8) (b : Unit), True → s[i]? = some x → isD (s.getD i 0) = false → refLevel_b1 s (i : Int) = some (.inr (.inl 0)) := fun i x b _ hx hp => by
  have hlt := zK1 hx
  have hp : ¬ (48 ≤ (s.getD i 0).toNat ∧ (s.getD i 0).toNat ≤ 57) := fun h => by rw [(isD_iff _).2 h] at hp; cases hp
  unfold refLevel_b1
  dsimp only
  rw [itn, if_pos (by simp; omega), if_pos (by omega), if_pos (fun _ => by omega), if_pos (rng_t (by omega))]
 have hend : ∀ b : Unit, True → refLevel_b1 s (s.length : Int) = some (.inr (.inr ())) := fun b _ => by
  unfold refLevel_b1
  rw [if_neg (by simp)]
 have := loop_list (β := Unit) s (refLevel_b1 s) (fun i _ => (i : Int)) (fun _ _ => ()) (fun i => isD (s.getD i 0)) (.inl 0) (fun _ => .inr ()) (fun _ _ => True) (fun _ _ _ _ _ => trivial) hgo hbad hend () trivial
 unfold refLevel lvl
 rw [show ((0 : Int) = ((0 : Nat) : Int)) from rfl, this, all_range]
 cases ha : s.all isD with
 | false => simp
 | true =>
  simp only [if_true, obs, true_and]
  unfold refLevel_j1
  by_cases h : s.length = 2 ∨ s.length = 4 ∨ s.length = 6 ∨ s.length = 8
  ·rw [if_pos h, if_neg]
   rw [Int.tmod_eq_emod_of_nonneg (by omega)]
   simp; omega
  ·rw [if_neg h]
   by_cases h0 : s.length = 0
   ·rw [if_neg (by rw [h0]; decide), h0]
   ·rw [if_pos]
    ·rfl
    ·rw [Int.tmod_eq_emod_of_nonneg (by omega)]
     by_cases h8 : 8 < s.length
     ·simp; omega
     ·simp; omega
def tailE (v : Int) (t o : Bool) : Int := if (if v = 2 then t || o else if v = 4 then !t || o else t == o) = true then 1 else 0
def oneE (e : YB) : Int := if lvl e.Code = 0 then 1 else if e.From < 0 ∨ e.To ≤ e.From ∨ 36525 < e.To then 2 else if 6 < e.Terms.length then 8 else if e.Terms.all some1 = false then 1 else tailE (lvl e.Code) (decide (e.Terms ≠ [])) e.Other
theorem nomDescribed_eq (l : List Str) : nomDescribed l = some (some1 l) := by
 unfold nomDescribed some1
 cases l with
 | nil => rfl
 | cons x l =>
  have e : (0 : Int) < ((x :: l).length : Int) := by simp only [List.length_cons]; omega
  simp only [e, decide_true, if_true, validWords_eq, obs, cond_true]
  simp
theorem pos_ne {α : Type} (l : List α) : decide ((0 : Int) < (l.length : Int)) = decide (l ≠ []) := by
 cases l with
 | nil => rfl
 | cons x l =>
  have e : (0 : Int) < ((x :: l).length : Int) := by simp only [List.length_cons]; omega
  simp only [e]; simp
theorem rngE (e : YB) : (bif (bif (decide (e.From < (0 : Int))) then true else (decide (e.To ≤ e.From))) then true else (decide ((36525 : Int) < e.To))) = decide (e.From < 0 ∨ e.To ≤ e.From ∨ 36525 < e.To) := by
 by_cases h1 : e.From < 0 <;> by_cases h2 : e.To ≤ e.From <;> by_cases h3 : 36525 < e.To <;> simp [h1, h2, h3]
theorem validateEntry_eq (e : YB) : validateEntry e = some (oneE e) := by
 unfold validateEntry oneE
 rw [nomLevel_eq, obs]
 by_cases h1 : lvl e.Code = 0
 ·rw [if_pos (by simpa using h1), if_pos h1]
 rw [if_neg (by simpa using h1), if_neg h1, rngE]
 by_cases h2 : e.From < 0 ∨ e.To ≤ e.From ∨ 36525 < e.To
 ·rw [if_pos (by simpa using h2), if_pos h2]
 rw [if_neg (by simpa using h2), if_neg h2]
 by_cases h3 : 6 < e.Terms.length
 ·rw [if_pos (by simp only [decide_eq_true_eq]; omega), if_pos h3]
 rw [if_neg (by simp only [decide_eq_true_eq]; omega), if_neg h3]
 have step : ∀ (i : Nat) (x : List Str), e.Terms[i]? = some x → validateEntry_b1 e (lvl e.Code) (i : Int) = if (!some1 x) = true then some (.inr (.inl 1)) else some (.inl ((i + 1 : Nat) : Int)) := fun i x hx => by
  have hlt := zK1 hx
  unfold validateEntry_b1
  rw [if_pos (by simp; omega), if_pos (by omega), itn, hx, obs, nomDescribed_eq, obs, w64 (n := (i : Int) + 1) (by omega)]; rfl
 have l1 := loop_list (β := Unit) e.Terms (validateEntry_b1 e (lvl e.Code)) (fun i _ => (i : Int)) (fun _ _ => ()) (fun i => some1 (e.Terms.getD i default)) (.inl (1 : Int)) (fun _ => .inr ()) (fun _ _ => True) (fun _ _ _ _ _ => trivial)
  (fun i x b _ hx hp => by rw [getD_of hx] at hp; rw [step i x hx, hp]; rfl) (fun i x b _ hx hp => by rw [getD_of hx] at hp; rw [step i x hx, hp]; rfl) (fun b _ => by unfold validateEntry_b1; rw [if_neg (by simp)]) () trivial
 rw [show ((0 : Int) = ((0 : Nat) : Int)) from rfl, l1, range_all some1]
 cases ha : e.Terms.all some1 with
 | false => simp
 | true =>
  simp only [if_true, obs, Bool.true_eq_false, if_false]
  unfold validateEntry_j1 validateEntry_j2 tailE
  rw [pos_ne]
  by_cases c2 : lvl e.Code = 2
  ·simp only [c2, beq_self_eq_true, if_true]
   cases decide (e.Terms ≠ []) <;> cases e.Other <;> rfl
  ·rw [if_neg (by simpa using c2), if_neg c2]
   by_cases c4 : lvl e.Code = 4
   ·simp only [c4, beq_self_eq_true, if_true]
    cases decide (e.Terms ≠ []) <;> cases e.Other <;> rfl
   ·rw [if_neg (by simpa using c4), if_neg c4]
    split <;> rfl
theorem refOne_eq {e : YB} (hok : okD e) : refOne e = some (oneE e) := by
 obtain ⟨k1, k2, k3, k4, k5⟩ := hok
 unfold refOne oneE
 rw [refLevel_eq k1, obs]
 by_cases h1 : lvl e.Code = 0
 ·rw [if_pos (by simpa using h1), if_pos h1]
 rw [if_neg (by simpa using h1), if_neg h1, rngE]
 by_cases h2 : e.From < 0 ∨ e.To ≤ e.From ∨ 36525 < e.To
 ·rw [if_pos (by simpa using h2), if_pos h2]
 rw [if_neg (by simpa using h2), if_neg h2]
 by_cases h3 : 6 < e.Terms.length
 ·rw [if_pos (by simp only [decide_eq_true_eq]; omega), if_pos h3]
 rw [if_neg (by simp only [decide_eq_true_eq]; omega), if_neg h3]
 have step : ∀ (i : Nat) (x : List Str), e.Terms[i]? = some x → refOne_b1 e (i : Int) = if (!some1 x) = true then some (.inr (.inl 1)) else some (.inl ((i + 1 : Nat) : Int)) := fun i x hx => by
  have hlt := zK1 hx
  have hr := k5 x (List.mem_of_getElem? hx)
  unfold refOne_b1
  rw [if_pos (by simp; omega), if_pos (by omega), itn, hx, obs, refWords_eq _ hr.1 hr.2, obs, if_pos (fun _ => by omega), getD_of hx, w64 (n := (i : Int) + 1) (by omega)]
  have : (bif (!wordsOk x) then true else ((x.length : Int) == (0 : Int))) = !some1 x := by
   unfold some1
   cases x with
   | nil => cases wordsOk [] <;> rfl
   | cons y l =>
    have e : (((y :: l).length : Int) == 0) = false := by simp only [List.length_cons, beq_eq_false_iff_ne, ne_eq]; omega
    rw [e]; cases wordsOk (y :: l) <;> rfl
  rw [this]; rfl
 have l1 := loop_list (β := Unit) e.Terms (refOne_b1 e) (fun i _ => (i : Int)) (fun _ _ => ()) (fun i => some1 (e.Terms.getD i default)) (.inl (1 : Int)) (fun _ => .inr ()) (fun _ _ => True) (fun _ _ _ _ _ => trivial)
  (fun i x b _ hx hp => by rw [getD_of hx] at hp; rw [step i x hx, hp]; rfl) (fun i x b _ hx hp => by rw [getD_of hx] at hp; rw [step i x hx, hp]; rfl) (fun b _ => by unfold refOne_b1; rw [if_neg (by simp)]) () trivial
 rw [show ((0 : Int) = ((0 : Nat) : Int)) from rfl, l1, range_all some1]
 cases ha : e.Terms.all some1 with
 | false => simp
 | true =>
  simp only [if_true, obs, Bool.true_eq_false, if_false]
  unfold refOne_j1 refOne_j2 tailE
  rw [refLevel_eq k1, obs, pos_ne]
  by_cases c2 : lvl e.Code = 2
  ·simp only [c2, beq_self_eq_true, if_true]
   cases decide (e.Terms ≠ []) <;> cases e.Other <;> rfl
  ·rw [if_neg (by simpa using c2), if_neg c2]
   by_cases c4 : lvl e.Code = 4
   ·simp only [c4, beq_self_eq_true, if_true]
    cases decide (e.Terms ≠ []) <;> cases e.Other <;> rfl
   ·rw [if_neg (by simpa using c4), if_neg c4]
    split <;> rfl
def noteOk (x : YW) : Bool := decide (lvl x.Scope ≠ 0) && (some1 x.Words && (decide (x.Target = []) || decide (lvl x.Target = 4)))
theorem validateNote_eq (x : YW) : validateNote x = some (if noteOk x = true then 0 else 1) := by
 unfold validateNote noteOk
 rw [nomLevel_eq, obs]
 by_cases h1 : lvl x.Scope = 0
 ·rw [if_neg (by simp [h1]), obs, if_pos (by simp [h1]), if_neg (by simp [h1])]
 rw [if_pos (by simp [h1]), nomDescribed_eq, obs]
 cases h2 : some1 x.Words with
 | false => rw [if_pos (by simp), if_neg (by simp)]
 | true =>
  rw [if_neg (by simp [h1])]
  by_cases h3 : x.Target = []
  ·rw [if_neg (by simp [h3]), obs, if_neg (by simp [h3]), if_pos (by simp [h1, h3])]
  ·rw [if_pos (by simp [h3]), nomLevel_eq, obs]
   by_cases h4 : lvl x.Target = 4
   ·rw [if_neg (by simp [h4]), if_pos (by simp [h1, h4])]
   ·rw [if_pos (by simp [h3, h4]), if_neg (by simp [h3, h4])]
theorem lvl_nonneg (s : Str) : 0 ≤ lvl s := by
 unfold lvl
 split
 ·omega
 ·omega
theorem refNote_eq {x : YW} (hok : okY x) : refNote x = some (noteOk x) := by
 obtain ⟨k1, k2, k3⟩ := hok
 unfold refNote noteOk
 rw [refLevel_eq k1, obs]
 have hn := lvl_nonneg x.Scope
 by_cases h1 : lvl x.Scope = 0
 ·rw [if_neg (by simp [h1]), obs, if_neg (by simp [h1]), obs]
  simp [h1]
 have hp : (0 : Int) < lvl x.Scope := by omega
 rw [if_pos (by simp [hp]), refWords_eq _ k2.1 k2.2, obs]
 simp only [hp, decide_true, cond_true, h1, ne_eq, not_false_eq_true, Bool.true_and, pos_ne]
 have hs : (bif wordsOk x.Words then decide (x.Words ≠ []) else false) = some1 x.Words := by
  unfold some1
  cases wordsOk x.Words <;> cases decide (x.Words ≠ []) <;> rfl
 simp only [ne_eq] at hs
 rw [hs]
 by_cases h3 : x.Target = []
 ·rw [if_neg (by simp [h3]), obs]
  cases some1 x.Words <;> simp [h3]
 ·cases h2 : some1 x.Words with
  | false => rw [if_neg (by simp), obs]; simp
  | true =>
   rw [if_pos (by simp [h3]), refLevel_eq k3, obs]
   have e : (x.Target == ([] : Str)) = false := by simpa using h3
   simp only [e, h3, cond_true, cond_false, decide_false, Bool.false_or, Bool.true_and]
   congr 1
end Go.C
end
section
set_option linter.unusedVariables false
set_option linter.unusedSimpArgs false
namespace Go.C
open Go.V
abbrev Ent := YB
def ordE (y x : Ent) : Int := if (Op.bytesLess x.Code y.Code || (decide (x.Code = y.Code) && decide (x.From ≤ y.From))) = true then 9 else if x.Code = y.Code ∧ x.From < y.To then 1 else 0
theorem bl_irrefl : ∀ a : Str, Op.bytesLess a a = false
 | [] => rfl
 | x :: a => by simp [Op.bytesLess, bl_irrefl a, UInt8.lt_irrefl]
theorem versionCmp_eq (y x : Ent) : ((versionOf y).bind fun v => (versionOf x).bind fun v2 => (versionCmp v v2).bind fun v3 => some (decide ((0 : Int) ≤ v3))) = some (Op.bytesLess x.Code y.Code || (decide (x.Code = y.Code) && decide (x.From ≤ y.From))) := by
 unfold versionOf versionCmp cmpStr cmpInt isNaNS isNaN
 simp only [obs]
 have ht := bl_total y.Code x.Code
 by_cases h1 : y.Code = x.Code
 ·have e1 : (y.Code == x.Code) = true := by simpa using h1
  have e2 : Op.bytesLess x.Code y.Code = false := by rw [h1]; exact bl_irrefl _
  by_cases h2 : y.From = x.From
  ·have e3 : (y.From == x.From) = true := by simpa using h2
   simp [e1, e3, e2, h1, h2]
  ·have e3 : (y.From == x.From) = false := by simpa using h2
   simp only [e1, e3, e2, h1, Bool.and_false, Bool.false_eq_true, if_false, Bool.not_true, bne_self_eq_false, decide_true, Bool.false_or, Bool.true_and]
   by_cases h3 : y.From < x.From
   ·have : ¬ x.From ≤ y.From := by omega
    simp [h3, this, bl_irrefl]
   ·have h4 : x.From ≤ y.From := by omega
    have h5 : x.From < y.From := by omega
    simp [h3, h4, h5, bl_irrefl]
 ·have e1 : (y.Code == x.Code) = false := by simpa using h1
  have e2 : ¬ x.Code = y.Code := fun h => h1 h.symm
  simp only [e1, e2, Bool.false_and, Bool.false_eq_true, if_false, Bool.not_false, if_true, beq_self_eq_true, Bool.not_true, decide_false, Bool.or_false]
  rw [e1] at ht
  simp only [Bool.or_false] at ht
  cases hb : Op.bytesLess y.Code x.Code with
  | true => rw [hb] at ht; simp at ht; simp [ht]
  | false => rw [hb] at ht; simp at ht; simp [ht]
theorem validateOrder_eq (y x : Ent) : validateOrder y x = some (ordE y x) := by
 have h := versionCmp_eq y x
 unfold validateOrder ordE
 cases h1 : versionOf y with
 | none => rw [h1] at h; cases h
 | some v =>
  cases h2 : versionOf x with
  | none => rw [h1, h2] at h; cases h
  | some v2 =>
   rw [h1, h2] at h
   simp only [obs] at h ⊢
   cases h3 : versionCmp v v2 with
   | none => rw [h3] at h; cases h
   | some v3 =>
    rw [h3] at h
    simp only [obs, Option.some.injEq] at h ⊢
    rw [h]
    split
    ·rfl
    ·by_cases hc : x.Code = y.Code ∧ x.From < y.To
     ·rw [if_pos (by simp [hc.1, hc.2]), if_pos hc]
     ·rw [if_neg hc, if_neg]
      intro hh
      apply hc
      by_cases e : y.Code = x.Code
      ·have e1 : (y.Code == x.Code) = true := by simpa using e
       rw [e1] at hh
       exact ⟨e.symm, by simpa using hh⟩
      ·have e1 : (y.Code == x.Code) = false := by simpa using e
       rw [e1] at hh; cases hh
theorem refOrder (y x : Ent) (k : Option (Int ⊕ (Int ⊕ Unit))) : (if (bif (Op.bytesLess x.Code y.Code) then true else (bif (x.Code == y.Code) then (decide (x.From ≤ y.From)) else false)) = true then some (.inr (.inl (9 : Int))) else if (bif (x.Code == y.Code) then (decide (x.From < y.To)) else false) = true then some (.inr (.inl (1 : Int))) else k) = if ordE y x = 0 then k else some (.inr (.inl (ordE y x))) := by
 unfold ordE
 cases h1 : Op.bytesLess x.Code y.Code with
 | true => simp
 | false =>
  by_cases h2 : x.Code = y.Code
  ·have e : (x.Code == y.Code) = true := by simpa using h2
   by_cases h3 : x.From ≤ y.From
   ·simp [e, h2, h3]
   ·by_cases h4 : x.From < y.To
    ·simp [e, h2, h3, h4]
    ·simp [e, h2, h3, h4]
  ·have e : (x.Code == y.Code) = false := by simpa using h2
   simp [e, h2]
def cov (l : List Ent) (code : Str) (day : Int) : Int := l.foldl (fun d p => if p.Code = code ∧ p.From ≤ d ∧ d < p.To then p.To else d) day
def parent (c : Str) : Str := c.take (c.length - 2)
def parOk (l : List Ent) (e : Ent) : Bool := decide (e.Code.length = 2) || decide (e.To ≤ cov l (parent e.Code) e.From)
theorem hasParent_eq {b : YE} {e : Ent} (hb : b.Entries.length ≤ 1000) (h2 : 2 ≤ e.Code.length) (h8 : e.Code.length ≤ 8) : hasParent b e = some (parOk b.Entries e) := by
 unfold hasParent parOk
 by_cases h : e.Code.length = 2
 ·rw [if_pos (by simp [h])]; simp [h]
 have hw : IntKind.i64.wrap ((e.Code.length : Int) - 2) = ((e.Code.length - 2 : Nat) : Int) := by rw [w64 (by omega)]; omega
 rw [if_neg (by simp; omega), hw, if_pos (by omega)]
 have l1 := loop_fold (β := Int) b.Entries (hasParent_b1 b e) (fun i d => ((i : Int), d)) (fun d p => if p.Code = parent e.Code ∧ p.From ≤ d ∧ d < p.To then p.To else d) (fun d => d) (fun _ _ => True) (fun _ _ _ _ _ => trivial)
  (fun i x d _ hx => by
   have hlt := zK1 hx
   unfold hasParent_b1 hasParent_j2
   dsimp only
   rw [hw, itn, if_pos (by simp only [decide_eq_true_eq]; omega), if_pos (by omega), itn, hx, obs, w64 (n := (i : Int) + 1) (by omega)]
   show (if (bif (bif (x.Code == parent e.Code) then (decide (x.From ≤ d)) else false) then (decide (d < x.To)) else false) = true then _ else _) = _
   by_cases c1 : x.Code = parent e.Code
   ·have e1 : (x.Code == parent e.Code) = true := by simpa using c1
    by_cases c2 : x.From ≤ d
    ·by_cases c3 : d < x.To
     ·rw [if_pos (by rw [e1]; simp [c2, c3]), if_pos ⟨c1, c2, c3⟩]; rfl
     ·rw [if_neg (by rw [e1]; simp [c2, c3]), if_neg (fun h => c3 h.2.2)]; rfl
    ·rw [if_neg (by rw [e1]; simp [c2]), if_neg (fun h => c2 h.2.1)]; rfl
   ·have e1 : (x.Code == parent e.Code) = false := by simpa using c1
    rw [if_neg (by rw [e1]; simp), if_neg (fun h => c1 h.1)]; rfl)
  (fun d _ => by unfold hasParent_b1; dsimp only; rw [if_neg (by simp)]) e.From trivial
 rw [show ((0 : Int), e.From) = (((0 : Nat) : Int), e.From) from rfl, l1, obs]
 unfold hasParent_j1 cov
 simp [h]
theorem refCovered_eq {b : YE} (code : Str) (f t : Int) (hb : b.Entries.length ≤ 1000) : refCovered b code f t = some (decide (t ≤ cov b.Entries code f)) := by
 unfold refCovered
 have l1 := loop_fold (β := Int) b.Entries (refCovered_b1 b code t) (fun i d => ((i : Int), d)) (fun d p => if p.Code = code ∧ p.From ≤ d ∧ d < p.To then p.To else d) (fun d => d) (fun _ _ => True) (fun _ _ _ _ _ => trivial)
  (fun i x d _ hx => by
   have hlt := zK1 hx
   unfold refCovered_b1 refCovered_j2
   dsimp only
   rw [if_pos (by simp only [decide_eq_true_eq]; omega), if_pos (by omega), itn, hx, obs, w64 (n := (i : Int) + 1) (by omega)]
   by_cases c1 : x.Code = code
   ·have e1 : (x.Code == code) = true := by simpa using c1
    by_cases c2 : x.From ≤ d
    ·rw [if_pos (by rw [e1]; simp [c2])]
     by_cases c3 : d < x.To
     ·rw [if_pos c3, if_pos ⟨c1, c2, c3⟩]; rfl
     ·rw [if_neg (by omega), if_neg (fun h => c3 h.2.2)]; rfl
    ·rw [if_neg (by rw [e1]; simp [c2]), if_neg (fun h => c2 h.2.1)]; rfl
   ·have e1 : (x.Code == code) = false := by simpa using c1
    rw [if_neg (by rw [e1]; simp), if_neg (fun h => c1 h.1)]; rfl)
  (fun d _ => by unfold refCovered_b1; dsimp only; rw [if_neg (by simp)]) f trivial
 rw [show ((0 : Int), f) = (((0 : Nat) : Int), f) from rfl, l1, obs]
 rfl
def entErr (l : List Ent) (i : Nat) : Int := if oneE (l.getD i default) = 0 then (if i = 0 then 0 else ordE (l.getD (i - 1) default) (l.getD i default)) else oneE (l.getD i default)
def parErr (l : List Ent) (i : Nat) : Int := if parOk l (l.getD i default) = true then 0 else 6
def notErr (l : List YW) (i : Nat) : Int := if noteOk (l.getD i default) = true then 0 else 1
def nv (b : YE) : Int :=
  if 300 < b.Entries.length ∨ 100 < b.Notes.length then 8
  else if ferr b.Entries.length (entErr b.Entries) ≠ 0 then ferr b.Entries.length (entErr b.Entries)
  else if ferr b.Entries.length (parErr b.Entries) ≠ 0 then ferr b.Entries.length (parErr b.Entries)
  else ferr b.Notes.length (notErr b.Notes)
theorem oneE_len {e : Ent} (h : oneE e = 0) : 2 ≤ e.Code.length ∧ e.Code.length ≤ 8 ∧ lvl e.Code ≠ 0 := by
 have hl : lvl e.Code ≠ 0 := fun h0 => by unfold oneE at h; rw [if_pos h0] at h; cases h
 refine ⟨?_, ?_, hl⟩
 ·unfold lvl at hl
  split at hl
  ·rename_i hc; omega
  ·exact absurd rfl hl
 ·unfold lvl at hl
  split at hl
  ·rename_i hc; omega
  ·exact absurd rfl hl
theorem entErr_one {l : List Ent} {i : Nat} (h : entErr l i = 0) : oneE (l.getD i default) = 0 := by
 unfold entErr at h
 by_cases h0 : oneE (l.getD i default) = 0
 ·exact h0
 ·rw [if_neg h0] at h; exact h
theorem lim_eq (b : YE) : (bif (decide ((300 : Int) < (b.Entries.length : Int))) then true else (decide ((100 : Int) < (b.Notes.length : Int)))) = decide (300 < b.Entries.length ∨ 100 < b.Notes.length) := by
 by_cases h1 : 300 < b.Entries.length
 ·have : (300 : Int) < (b.Entries.length : Int) := by omega
  simp [h1, this]
 ·have e1 : ¬ (300 : Int) < (b.Entries.length : Int) := by omega
  by_cases h2 : 100 < b.Notes.length
  ·have : (100 : Int) < (b.Notes.length : Int) := by omega
   simp [h1, h2, this]
  ·have e2 : ¬ (100 : Int) < (b.Notes.length : Int) := by omega
   simp [h1, h2, e1, e2]
theorem nomValidate_eq (b : YE) : nomValidate b = some (nv b) := by
 unfold nomValidate nv
 rw [lim_eq]
 by_cases hl : 300 < b.Entries.length ∨ 100 < b.Notes.length
 ·rw [if_pos (by simpa using hl), if_pos hl]
 rw [if_neg (by simpa using hl), if_neg hl]
 have l1 := loop_err b.Entries (nomValidate_b3 b) (entErr b.Entries) (fun i x hx h0 => by
  have hlt := zK1 hx
  unfold nomValidate_b3 nomValidate_j4 entErr
  rw [if_pos (by simp only [decide_eq_true_eq]; omega), if_pos (by omega), itn, hx, obs, validateEntry_eq, obs, w64 (n := (i : Int) + 1) (by omega), getD_of hx]
  by_cases h1 : oneE x = 0
  ·rw [if_neg (by simp [h1]), if_pos h1]
   by_cases hi : i = 0
   ·rw [if_pos (by simp [hi]), if_pos hi, if_pos rfl]; rfl
   ·have hp : IntKind.i64.wrap ((i : Int) - 1) = ((i - 1 : Nat) : Int) := by rw [w64 (by omega)]; omega
    rw [if_neg (by simp; omega), hp, if_pos (by omega), itn, geq (by omega : i - 1 < b.Entries.length), obs, validateOrder_eq, obs, if_neg hi]
    have hg : b.Entries.getD (i - 1) default = b.Entries[i - 1] := by rw [List.getD_eq_getElem?_getD, geq (by omega)]; rfl
    rw [hg]
    by_cases ho : ordE b.Entries[i - 1] x = 0
    ·rw [if_neg (by simp [ho]), if_pos ho]; rfl
    ·rw [if_pos (by simpa using ho), if_neg ho]
  ·rw [if_pos (by simpa using h1), if_neg h1, if_neg h1])
  (by unfold nomValidate_b3; rw [if_neg (by simp)])
 rw [l1, obs]
 by_cases e1 : ¬ ferr b.Entries.length (entErr b.Entries) = 0
 ·simp [e1]
 replace e1 := Decidable.not_not.1 e1
 simp only [e1, if_true, ne_eq, not_true_eq_false, if_false]
 have hall := ferr_zero.1 e1
 unfold nomValidate_j1
 have l2 := loop_err b.Entries (nomValidate_b2 b) (parErr b.Entries) (fun i x hx h0 => by
  have hlt := zK1 hx
  have h1 := oneE_len (entErr_one (hall i hlt))
  rw [getD_of hx] at h1
  unfold nomValidate_b2 parErr
  rw [if_pos (by simp only [decide_eq_true_eq]; omega), if_pos (by omega), itn, hx, obs, hasParent_eq (by omega) h1.1 h1.2.1, obs, w64 (n := (i : Int) + 1) (by omega), getD_of hx]
  cases parOk b.Entries x with
  | true => rfl
  | false => rfl)
  (by unfold nomValidate_b2; rw [if_neg (by simp)])
 rw [l2, obs]
 by_cases e2 : ¬ ferr b.Entries.length (parErr b.Entries) = 0
 ·simp [e2]
 replace e2 := Decidable.not_not.1 e2
 simp only [e2, if_true, ne_eq, not_true_eq_false, if_false]
 unfold nomValidate_j2 nomValidate_j3
 have l3 := loop_err b.Notes (nomValidate_b1 b) (notErr b.Notes) (fun i x hx h0 => by
  have hlt := zK1 hx
  unfold nomValidate_b1 notErr
  rw [if_pos (by simp only [decide_eq_true_eq]; omega), if_pos (by omega), itn, hx, obs, validateNote_eq, obs, w64 (n := (i : Int) + 1) (by omega), getD_of hx]
  cases noteOk x with
  | true => rfl
  | false => rfl)
  (by unfold nomValidate_b1; rw [if_neg (by simp)])
 rw [l3, obs]
 by_cases h : ferr b.Notes.length (notErr b.Notes) = 0
 ·simp [h]
 ·simp [h]
theorem refBook_eq {b : YE} (hok : okG b) : refBook b = some (nv b) := by
 obtain ⟨⟨k1, k2⟩, k3, k4⟩ := hok
 unfold refBook nv
 rw [lim_eq]
 by_cases hl : 300 < b.Entries.length ∨ 100 < b.Notes.length
 ·rw [if_pos (by simpa using hl), if_pos hl]
 rw [if_neg (by simpa using hl), if_neg hl]
 have l1 := loop_err b.Entries (refBook_b3 b) (entErr b.Entries) (fun i x hx h0 => by
  have hlt := zK1 hx
  unfold refBook_b3 refBook_j4 entErr
  rw [if_pos (by simp only [decide_eq_true_eq]; omega), if_pos (by omega), itn, hx, obs, refOne_eq (k2 x (List.mem_of_getElem? hx)), obs, w64 (n := (i : Int) + 1) (by omega), getD_of hx]
  by_cases h1 : oneE x = 0
  ·rw [if_neg (by simp [h1]), if_pos h1]
   by_cases hi : i = 0
   ·rw [if_pos (by simp [hi]), if_pos hi, if_pos rfl]; rfl
   ·have hp : IntKind.i64.wrap ((i : Int) - 1) = ((i - 1 : Nat) : Int) := by rw [w64 (by omega)]; omega
    rw [if_neg (by simp; omega), hp, if_pos (by omega), itn, geq (by omega : i - 1 < b.Entries.length), obs, if_neg hi, refOrder]
    have hg : b.Entries.getD (i - 1) default = b.Entries[i - 1] := by rw [List.getD_eq_getElem?_getD, geq (by omega)]; rfl
    rw [hg]; rfl
  ·rw [if_pos (by simpa using h1), if_neg h1, if_neg h1])
  (by unfold refBook_b3; rw [if_neg (by simp)])
 rw [l1, obs]
 by_cases e1 : ¬ ferr b.Entries.length (entErr b.Entries) = 0
 ·simp [e1]
 replace e1 := Decidable.not_not.1 e1
 simp only [e1, if_true, ne_eq, not_true_eq_false, if_false]
 have hall := ferr_zero.1 e1
 unfold refBook_j1
 have l2 := loop_err b.Entries (refBook_b2 b) (parErr b.Entries) (fun i x hx h0 => by
  have hlt := zK1 hx
  have h1 := oneE_len (entErr_one (hall i hlt))
  rw [getD_of hx] at h1
  have hw : IntKind.i64.wrap ((x.Code.length : Int) - 2) = ((x.Code.length - 2 : Nat) : Int) := by rw [w64 (by omega)]; omega
  unfold refBook_b2 parErr
  rw [if_pos (by simp only [decide_eq_true_eq]; omega), if_pos (by omega), itn, hx, obs, hw, if_pos (fun _ => by omega), itn, w64 (n := (i : Int) + 1) (by omega), getD_of hx, refCovered_eq _ _ _ (by omega)]
  unfold parOk
  by_cases h2 : x.Code.length = 2
  ·rw [if_neg (by simp; omega), obs, if_neg (by simp; omega), if_pos (by simp [h2])]; rfl
  ·rw [if_pos (by simp; omega), obs]
   have e2 : (2 : Int) < (x.Code.length : Int) := by omega
   show (if (bif (decide ((2 : Int) < (x.Code.length : Int))) then (!(decide (x.To ≤ cov b.Entries (parent x.Code) x.From))) else false) = true then _ else _) = _
   by_cases h3 : x.To ≤ cov b.Entries (parent x.Code) x.From
   ·rw [if_neg (by simp [h3]), if_pos (by simp [h3])]; rfl
   ·rw [if_pos (by simp [e2]; omega)]
    have hp : (if (decide (x.Code.length = 2) || decide (x.To ≤ cov b.Entries (parent x.Code) x.From)) = true then (0 : Int) else 6) = 6 := if_neg (by simp only [h2, decide_false, Bool.false_or, decide_eq_true_eq]; exact h3)
    rw [hp]; rfl)
  (by unfold refBook_b2; rw [if_neg (by simp)])
 rw [l2, obs]
 by_cases e2 : ¬ ferr b.Entries.length (parErr b.Entries) = 0
 ·simp [e2]
 replace e2 := Decidable.not_not.1 e2
 simp only [e2, if_true, ne_eq, not_true_eq_false, if_false]
 unfold refBook_j2 refBook_j3
 have l3 := loop_err b.Notes (refBook_b1 b) (notErr b.Notes) (fun i x hx h0 => by
  have hlt := zK1 hx
  unfold refBook_b1 notErr
  rw [if_pos (by simp only [decide_eq_true_eq]; omega), if_pos (by omega), itn, hx, obs, refNote_eq (k4 x (List.mem_of_getElem? hx)), obs, w64 (n := (i : Int) + 1) (by omega), getD_of hx]
  cases noteOk x with
  | true => rfl
  | false => rfl)
  (by unfold refBook_b1; rw [if_neg (by simp)])
 rw [l3, obs]
 by_cases h : ferr b.Notes.length (notErr b.Notes) = 0
 ·simp [h]
 ·simp [h]
end Go.C
end
section
set_option linter.unusedVariables false
set_option linter.unusedSimpArgs false
namespace Go.C
open Go.V
theorem terms_ok {s : YH} (hs : SOk s) : ∃ ts s', srcTerms s = some (ts, s') ∧ ts ≠ [] ∧ ts.length ≤ 2 ∧ (∀ t, t ∈ ts → Asc t ∧ t ≠ [] ∧ t.length ≤ 3) ∧ SOk s' := by
 unfold srcTerms
 obtain ⟨w1, s1, e1, a1, a2, a3, k1⟩ := words_ok hs 2 (by omega) (by omega)
 rw [show (2 : Int) = ((2 : Nat) : Int) from rfl, e1, obs]
 obtain ⟨r, s2, e2, b1, b2, k2⟩ := next_ok (n := 3) k1 (by omega) (by omega)
 dsimp only
 rw [e2, obs]
 dsimp only
 split
 ·obtain ⟨w3, s3, e3, c1, c2, c3, k3⟩ := words_ok k2 3 (by omega) (by omega)
  rw [show (3 : Int) = ((3 : Nat) : Int) from rfl, e3, obs, if_pos (by simp)]
  refine ⟨_, _, rfl, by simp, by simp, fun t ht => ?_, k3⟩
  simp at ht
  rcases ht with rfl | rfl
  ·exact ⟨a1, a2, by omega⟩
  ·exact ⟨c1, c2, c3⟩
 ·refine ⟨_, _, rfl, by simp, by simp, fun t ht => ?_, k2⟩
  simp at ht
  subst ht
  exact ⟨a1, a2, by omega⟩
structure EOk (code : Str) (e : Ent) : Prop where
  code : e.Code = code
  one : oneE e = 0
  days : 0 ≤ e.From ∧ e.From < e.To ∧ e.To ≤ 36525
  terms : e.Terms.length ≤ 2 ∧ ∀ t, t ∈ e.Terms → Asc t ∧ t ≠ [] ∧ t.length ≤ 3
def Vers (code : Str) (T : Int) (vs : List Ent) : Prop :=
  (∃ x, vs = [x] ∧ EOk code x ∧ x.From = 0 ∧ x.To = T) ∨ (∃ y x, vs = [y, x] ∧ EOk code y ∧ EOk code x ∧ y.From = 0 ∧ y.To = 10 ∧ x.From = 10 ∧ x.To = T)
def child (code : Str) (i : Nat) : Str := code ++ [48, UInt8.ofNat (49 + i)]
def Made : Nat → Str → Int → List Ent → Prop
 | 0, _, _, _ => False
 | n + 1, code, stop, out => ∃ T vs ks, Vers code T vs ∧ T ≤ stop ∧ out = vs ++ List.flatten ks ∧ ks.length ≤ 3 ∧ (code.length = 8 → ks = []) ∧ ∀ i k, ks[i]? = some k → Made n (child code i) T k
def Cd (code : Str) : Prop := code.all isD = true ∧ (code.length = 2 ∨ code.length = 4 ∨ code.length = 6 ∨ code.length = 8)
theorem Cd.lvl {code : Str} (h : Cd code) : lvl code = (code.length : Int) := by unfold C.lvl; exact if_pos h
theorem Cd.child {code : Str} (h : Cd code) (h8 : code.length ≠ 8) {i : Nat} (hi : i < 3) : Cd (child code i) := by
 obtain ⟨h1, h2⟩ := h
 have : i = 0 ∨ i = 1 ∨ i = 2 := by omega
 unfold C.child
 refine ⟨?_, by simp; omega⟩
 rw [List.all_append, h1]
 rcases this with rfl | rfl | rfl <;> decide
theorem one_zero {code : Str} (h : Cd code) {f t : Int} {ts : List (List Str)} {o : Bool} (hd : 0 ≤ f ∧ f < t ∧ t ≤ 36525) (hts : ts.length ≤ 2 ∧ ∀ t, t ∈ ts → Asc t ∧ t ≠ [] ∧ t.length ≤ 3)
  (h2 : code.length = 2 → ts = [] ∧ o = false) (h4 : code.length = 4 → ts ≠ [] ∧ o = false) (h6 : 4 < code.length → (ts = [] ↔ o = true)) : EOk code ⟨code, f, t, ts, o⟩ := by
 refine ⟨rfl, ?_, hd, hts⟩
 have hall : ts.all some1 = true := by
  rw [List.all_eq_true]
  intro x hx
  obtain ⟨a1, a2, a3⟩ := hts.2 x hx
  exact a1.some1 a2 (by omega)
 have hl := h.2
 unfold oneE tailE
 simp only
 rw [h.lvl, if_neg (by omega), if_neg (by omega), if_neg (by omega), hall, if_neg (by simp)]
 by_cases c2 : code.length = 2
 ·obtain ⟨rfl, rfl⟩ := h2 c2
  rw [c2]; simp
 ·have e2 : ¬ ((code.length : Int) = 2) := by omega
  rw [if_neg e2]
  by_cases c4 : code.length = 4
  ·obtain ⟨h5, rfl⟩ := h4 c4
   rw [if_pos (by omega : (code.length : Int) = 4)]
   simp [h5]
  ·rw [if_neg (by omega : ¬ ((code.length : Int) = 4))]
   have := h6 (by omega)
   cases o with
   | true => have := this.2 rfl; subst this; rfl
   | false =>
    have : ts ≠ [] := fun e => by have := this.1 e; cases this
    simp [this]
theorem byte_child {i : Nat} (h : i < 3) : bytesI [(IntKind.u8.wrap (IntKind.i64.wrap ((48 : Int) + ((i + 1 : Nat) : Int))))] = [UInt8.ofNat (49 + i)] := by
 have : i = 0 ∨ i = 1 ∨ i = 2 := by omega
 rcases this with rfl | rfl | rfl <;> decide
def FOk (n : Nat) (code : Str) (F : YH → Str → Int → Option (List Ent × YH)) : Prop :=
  code.length ≠ 8 → ∀ (s : YH) (i : Nat) (T : Int), i < 3 → SOk s → 0 < T → T ≤ 36525 → ∃ out s', F s (child code i) T = some (out, s') ∧ SOk s' ∧ Made n (child code i) T out ∧ out.length ≤ 1000
theorem tail_ok {n : Nat} {code : Str} (hc : Cd code) {F : YH → Str → Int → Option (List Ent × YH)} (hF : FOk n code F) {ts : List (List Str)} {o : Bool} {pre : List Ent} {L : List Int} {I : Int} (hs : SOk ⟨L, I⟩) {f T stop : Int}
  (hv : Vers code T (pre ++ [⟨code, f, T, ts, o⟩])) (hT : T ≤ stop) (h0 : 0 < T) (h1 : T ≤ 36525) : ∃ out s', srcEntry_j3 F code ts o pre L I f T = some (out, s') ∧ SOk s' ∧ Made (n + 1) code stop out := by
 have hpl : pre.length ≤ 1 := by
  rcases hv with ⟨x, hx, _⟩ | ⟨y, x, hx, _⟩ <;> (have := congrArg List.length hx; simp only [List.length_append, List.length_cons, List.length_nil] at this; omega)
 unfold srcEntry_j3
 rw [if_pos (by simp; omega)]
 by_cases h8 : code.length = 8
 ·rw [if_pos (by simp [h8])]
  exact ⟨_, _, rfl, hs, T, _, [], hv, hT, by simp, by simp, fun _ => rfl, fun i k hk => by simp at hk⟩
 ·rw [if_neg (by simp; omega)]
  obtain ⟨r, s2, e2, b1, b2, k2⟩ := next_ok (n := 4) hs (by omega) (by omega)
  rw [e2, obs]
  obtain ⟨m, rfl⟩ : ∃ m : Nat, r = (m : Int) := ⟨r.toNat, by omega⟩
  obtain ⟨⟨out, L2, I2⟩, er, ks, hk1, hk2, hk3, hk4⟩ := loop_inv (f := srcEntry_b1 F code ts o f T ((m : Int), s2)) (fun q x => ∃ (k : Nat) (ks : List (List Ent)), q = m - k ∧ k ≤ m ∧ x.1 = ((k + 1 : Nat) : Int) ∧ x.2.1 = pre ++ [⟨code, f, T, ts, o⟩] ++ ks.flatten ∧ ks.length = k ∧ x.2.1.length ≤ 10 + k * 1000 ∧ (∀ i k, ks[i]? = some k → Made n (child code i) T k) ∧ SOk ⟨x.2.2.1, x.2.2.2⟩)
   (fun r => ∃ ks : List (List Ent), r.1 = pre ++ [⟨code, f, T, ts, o⟩] ++ ks.flatten ∧ ks.length ≤ 3 ∧ (∀ i k, ks[i]? = some k → Made n (child code i) T k) ∧ SOk ⟨r.2.1, r.2.2⟩) (by
   rintro q ⟨i, out, cL, cI⟩ ⟨k, ks, rfl, hk, hi, ho, hkl, hol, hm, hso⟩
   simp only at hi ho hol hso
   subst hi
   unfold srcEntry_b1
   dsimp only
   by_cases hlt : k < m
   ·refine .inl ?_
    obtain ⟨o1, s3, e3, k3, hm3, hl3⟩ := hF h8 ⟨cL, cI⟩ k T (by omega) hso h0 h1
    have hcl := hc.2
    rw [if_pos (by simp only [decide_eq_true_eq]; omega), if_pos (by simp; omega), byte_child (by omega), if_pos (by simp; omega)]
    have ech : (code ++ [48]) ++ [UInt8.ofNat (49 + k)] = child code k := by simp [child]
    rw [ech, e3, obs, if_pos (by simp only; omega), w64 (n := ((k + 1 : Nat) : Int) + 1) (by omega)]
    refine ⟨_, m - (k + 1), by omega, rfl, k + 1, ks ++ [o1], rfl, by omega, rfl, ?_, by simp [hkl], ?_, fun i k' hk' => ?_, k3⟩
    ·simp only; rw [ho]; simp
    ·simp only [List.length_append]; omega
    ·rcases Nat.lt_trichotomy i ks.length with hl | hl | hl
     ·rw [List.getElem?_append_left hl] at hk'; exact hm i k' hk'
     ·rw [hl, List.getElem?_append_right (Nat.le_refl _)] at hk'
      simp at hk'; subst hk'; rw [hl, hkl]; exact hm3
     ·rw [List.getElem?_append_right (by omega)] at hk'
      have : (([o1] : List (List Ent)))[i - ks.length]? = none := by rw [List.getElem?_eq_none]; simp; omega
      rw [this] at hk'; cases hk'
   ·refine .inr ?_
    have : k = m := by omega
    subst this
    rw [if_neg (by simp only [decide_eq_true_eq]; omega)]
    exact ⟨_, rfl, ks, ho, by omega, hm, hso⟩) m ((1 : Int), pre ++ [⟨code, f, T, ts, o⟩], s2.L, s2.I) ⟨0, [], rfl, by omega, rfl, by simp, rfl, by simp; omega, fun i k hk => by simp at hk, k2⟩
  rw [er, obs]
  simp only at hk1 hk4
  exact ⟨_, _, rfl, hk4, T, _, ks, hv, hT, hk1, hk2, fun h => absurd h h8, hk3⟩
theorem mid_ok {n : Nat} {code : Str} (hc : Cd code) {F : YH → Str → Int → Option (List Ent × YH)} (hF : FOk n code F) {ts : List (List Str)} {o : Bool} {L : List Int} {I : Int} (hs : SOk ⟨L, I⟩) {stop : Int} (h0 : 0 < stop) (h1 : stop ≤ 36525)
  (hts : ts.length ≤ 2 ∧ ∀ t, t ∈ ts → Asc t ∧ t ≠ [] ∧ t.length ≤ 3) (h2 : code.length = 2 → ts = [] ∧ o = false) (h4 : code.length = 4 → ts ≠ [] ∧ o = false) (h6 : 4 < code.length → (ts = [] ↔ o = true)) : ∃ out s', srcEntry_j5 F code stop L I ts o = some (out, s') ∧ SOk s' ∧ Made (n + 1) code stop out := by
 have one : ∀ f t : Int, 0 ≤ f ∧ f < t ∧ t ≤ 36525 → EOk code ⟨code, f, t, ts, o⟩ := fun f t hd => one_zero hc hd hts h2 h4 h6
 have hj : ∀ (pre : List Ent) (L : List Int) (I f T : Int), srcEntry_j6 F code ts o pre L I f T = srcEntry_j3 F code ts o pre L I f T := fun _ _ _ _ _ => rfl
 unfold srcEntry_j5
 split
 ·rename_i hcond
  have hcnd : 2 < code.length ∧ 12 < stop := by
   by_cases c1 : (2 : Int) < (code.length : Int)
   ·simp [c1] at hcond; omega
   ·simp [c1] at hcond
  obtain ⟨r, s2, e2, b1, b2, k2⟩ := next_ok (n := 6) hs (by omega) (by omega)
  rw [e2, obs]
  dsimp only
  split
  ·obtain ⟨t2, s3, e3, d1, d2, d3, k3⟩ := terms_ok k2
   rw [e3, obs, if_pos (by simp), hj]
   refine tail_ok hc hF k3 (.inr ⟨_, _, rfl, one_zero hc (by omega) ⟨d2, d3⟩ (fun h => by omega) (fun _ => ⟨d1, rfl⟩) (fun _ => ⟨fun h => absurd h d1, fun h => by cases h⟩), one 10 stop (by omega), rfl, rfl, rfl, rfl⟩) (by omega) h0 h1
  ·split
   ·rw [hj]
    exact tail_ok hc hF k2 (.inl ⟨_, rfl, one 0 12 (by omega), rfl, rfl⟩) (by omega) (by omega) (by omega)
   ·rw [hj]
    exact tail_ok hc hF k2 (.inl ⟨_, rfl, one 0 stop (by omega), rfl, rfl⟩) (by omega) h0 h1
 ·rw [hj]
  exact tail_ok hc hF hs (.inl ⟨_, rfl, one 0 stop (by omega), rfl, rfl⟩) (by omega) h0 h1
theorem entry_F {n : Nat} {code : Str} (hc : Cd code) {F : YH → Str → Int → Option (List Ent × YH)} (hF : FOk n code F) {s : YH} (hs : SOk s) {stop : Int} (h0 : 0 < stop) (h1 : stop ≤ 36525) :
  ∃ out s', srcEntry_F F s code stop = some (out, s') ∧ SOk s' ∧ Made (n + 1) code stop out := by
 have hj : ∀ (v : Int × YH) (ts : List (List Str)) (o : Bool), srcEntry_j2 F code stop v ts o = srcEntry_j5 F code stop v.2.L v.2.I ts o := fun _ _ _ => rfl
 have hl := hc.2
 have key : ∀ (L : List Int) (I : Int) (ts : List (List Str)), SOk ⟨L, I⟩ → (ts.length ≤ 2 ∧ ∀ t, t ∈ ts → Asc t ∧ t ≠ [] ∧ t.length ≤ 3) → (code.length = 2 → ts = []) → (2 < code.length → ts ≠ []) → ∃ out s', srcEntry_j1 F code stop L I ts = some (out, s') ∧ SOk s' ∧ Made (n + 1) code stop out := fun L I ts hso hts hn hne => by
  unfold srcEntry_j1
  by_cases h4 : 4 < code.length
  ·obtain ⟨r, s2, e2, b1, b2, k2⟩ := next_ok (n := 3) hso (by omega) (by omega)
   rw [if_pos (by simp only [decide_eq_true_eq]; omega), e2, obs]
   have c4 : (4 : Int) < (code.length : Int) := by omega
   simp only [c4, decide_true, cond_true]
   split
   ·rw [hj]
    exact mid_ok hc hF k2 h0 h1 ⟨by simp, fun t ht => by cases ht⟩ (fun h => by omega) (fun h => by omega) (fun _ => by simp)
   ·rw [hj]
    exact mid_ok hc hF k2 h0 h1 hts (fun h => by omega) (fun h => by omega) (fun _ => ⟨fun h => absurd h (hne (by omega)), fun h => by cases h⟩)
  ·rw [if_neg (by simp only [decide_eq_true_eq]; omega), if_neg (by simp)]
   exact mid_ok hc hF hso h0 h1 hts (fun h => ⟨hn h, rfl⟩) (fun h => ⟨hne (by omega), rfl⟩) (fun h => by omega)
 unfold srcEntry_F
 split
 ·rename_i h2
  simp only [decide_eq_true_eq] at h2
  obtain ⟨ts, s1, e1, a1, a2, a3, k1⟩ := terms_ok hs
  rw [e1, obs]
  exact key _ _ _ k1 ⟨a2, a3⟩ (fun h => by omega) (fun _ => a1)
 ·rename_i h2
  simp only [decide_eq_true_eq] at h2
  exact key _ _ _ hs ⟨by simp, fun t ht => by cases ht⟩ (fun _ => rfl) (fun h => by omega)
theorem Vers.len {code : Str} {T : Int} {vs : List Ent} (h : Vers code T vs) : vs.length ≤ 2 := by
 rcases h with ⟨x, rfl, _⟩ | ⟨y, x, rfl, _⟩ <;> simp
theorem flat_len {ks : List (List Ent)} {m : Nat} (h : ∀ k, k ∈ ks → k.length ≤ m) : ks.flatten.length ≤ ks.length * m := by
 induction ks with
 | nil => simp
 | cons k ks ih =>
  have h1 := h k (by simp)
  have h2 := ih (fun k hk => h k (by simp [hk]))
  simp only [List.flatten_cons, List.length_append, List.length_cons, Nat.succ_mul]; omega
def maxL : Nat → Nat
 | 0 => 0
 | n + 1 => 2 + 3 * maxL n
theorem Made.len : ∀ {n : Nat} {code : Str} {T : Int} {out : List Ent}, Made n code T out → out.length ≤ maxL n
 | 0, _, _, _, h => h.elim
 | n + 1, code, stop, out, h => by
  obtain ⟨T, vs, ks, hv, hT, rfl, hk, hk8, hm⟩ := h
  have h1 := hv.len
  have h2 := flat_len (ks := ks) (m := maxL n) (fun k hk => by
   obtain ⟨i, hi, rfl⟩ := List.getElem_of_mem hk
   exact (hm i _ (geq hi)).len)
  have h3 : ks.length * maxL n ≤ 3 * maxL n := Nat.mul_le_mul hk (Nat.le_refl _)
  simp only [List.length_append, maxL]; omega
theorem Made.len2 : ∀ {n : Nat} {code : Str} {T : Int} {out : List Ent}, Made n code T out → (code.length = 2 ∨ code.length = 4 ∨ code.length = 6 ∨ code.length = 8) → out.length ≤ maxL ((10 - code.length) / 2)
 | 0, _, _, _, h, _ => h.elim
 | n + 1, code, stop, out, h, hl => by
  obtain ⟨T, vs, ks, hv, hT, rfl, hk, hk8, hm⟩ := h
  have h1 := hv.len
  by_cases h8 : code.length = 8
  ·rw [hk8 h8, h8]; simp [maxL]; exact h1
  ·have h2 := flat_len (ks := ks) (m := maxL ((10 - code.length) / 2 - 1)) (fun k hk => by
    obtain ⟨i, hi, rfl⟩ := List.getElem_of_mem hk
    have := (hm i _ (geq hi)).len2 (by simp [child]; omega)
    rwa [show (10 - (child code i).length) / 2 = (10 - code.length) / 2 - 1 by simp [child]; omega] at this)
   have h3 : ks.length * maxL ((10 - code.length) / 2 - 1) ≤ 3 * maxL ((10 - code.length) / 2 - 1) := Nat.mul_le_mul hk (Nat.le_refl _)
   obtain ⟨m, hmm⟩ : ∃ m, (10 - code.length) / 2 = m + 1 := ⟨(10 - code.length) / 2 - 1, by omega⟩
   rw [hmm] at h2 h3 ⊢
   simp only [Nat.add_sub_cancel] at h2 h3
   simp only [List.length_append, maxL]; omega
theorem entry_n : ∀ (n : Nat) {code : Str}, Cd code → n + 1 ≤ 5 → (8 - code.length) / 2 ≤ n → ∀ {s : YH}, SOk s → ∀ {stop : Int}, 0 < stop → stop ≤ 36525 → ∃ out s', srcEntry_n (n + 1) s code stop = some (out, s') ∧ SOk s' ∧ Made (n + 1) code stop out
  | 0, code, hc, hn, hd, s, hs, stop, h0, h1 => by
    have hl := hc.2
    have h8 : code.length = 8 := by omega
    exact entry_F hc (F := srcEntry_n 0) (fun h => absurd h8 h) hs h0 h1
  | n + 1, code, hc, hn, hd, s, hs, stop, h0, h1 => by
    refine entry_F hc (F := srcEntry_n (n + 1)) (fun h8 s i T hi hso hT0 hT1 => ?_) hs h0 h1
    have hl := hc.2
    have hch := hc.child h8 hi
    have hcl : (child code i).length = code.length + 2 := by simp [child]
    obtain ⟨out, s', e, k, hm⟩ := entry_n n hch (by omega) (by rw [hcl]; omega) hso hT0 hT1
    refine ⟨out, s', e, k, hm, ?_⟩
    have h1 := hm.len
    have h2 : maxL (n + 1) ≤ 1000 := by
      have : n = 0 ∨ n = 1 ∨ n = 2 ∨ n = 3 := by omega
      rcases this with rfl | rfl | rfl | rfl <;> decide
    omega
theorem entry_ok {code : Str} (hc : Cd code) (h2 : code.length = 2) {s : YH} (hs : SOk s) : ∃ out s', srcEntry s code 36525 = some (out, s') ∧ SOk s' ∧ Made 5 code 36525 out := entry_n 4 hc (by omega) (by omega) hs (by omega) (by omega)
theorem entryR_eq (s : YH) (code : Str) (T : Int) : srcEntryR s code T = srcEntry_F srcEntry s code T := rfl
end Go.C
end
end zWa
