/- Packed by pack.py. -/
import Derived.Test.YtaeplfiaahkgpaaGreatDoorQu3
import Derived.Test.YtaeplfiaahkgpaaGreatDoorQu4
import Derived.Test.YtaeplfiaahkgpaaGreatDoorQu6
import Derived.Test.YtaeplfiaahkgpaaGreatDoorQu5
noncomputable section zCo
set_option linter.unusedVariables false
set_option linter.unusedSimpArgs false
set_option maxHeartbeats 4000000
set_option maxRecDepth 20000
namespace Go.Proofs.YtaeplfiaahkgpaaGreatDoor
open Go.V Go.C
theorem setOf_con {wg : World} (hw : WG wg) {l : (List Str)} {r : (List Str)} (h : setOf l = some r) : Con Tryz.prog wg gl 170 [.v (.sl 1 (l.map eStr))] [] (.v (.mp r)) [] := by
 unfold setOf at h;refine cw Tryz.func170 Tryz.ntmps170 ?_;intro F L w ρ0 R hR;try dsimp only [zP1]
 refine sr (lr1 rfl (ns ?_));refine WL.makeSet rfl rfl rfl rfl rfl ?_;refine lr1 rfl (nn (WC.seq (sr (lr1 rfl ?_))));refine WL.q [] rfl rfl rfl (q_ev tbOk (iv (l.length : Int)) rfl tr lenT) ?_;refine lr1 rfl (nn ?_);refine WC.thenCut (X := (List Str)) (fun gG => ⟨[(3, .r 6)], [(6, .set gG)]⟩) (fun gG => setOf_j1 gG = some r) ?_ ?_
 ·refine WC.block ?_;obtain ⟨eQ1, hl1, hk1⟩ := bnd h;clear h;refine WC.loop (σ := Int × (List Str)) (τ := ((List Str))) (fun sS => ⟨[(9, iv sS.1), (8, iv (l.length : Int)), (7, .v (.sl 1 (l.map eStr))), (3, .r 6)], [(6, .set sS.2)]⟩) (setOf_b1 l) [] ((0 : Int), []) hl1 sub ?_;rintro ⟨t9, keys2⟩ m hn1 he1 hx1;obtain ⟨o1, hf1⟩ := zQ1 hx1;have h := hf1;unfold setOf_b1 at h;try dsimp only
  refine sr (lr1 rfl (nn (WC.seq ?_)));revert h;refine ci (fun hc1 h => ?_) (fun hc1 h => ?_)
  ·refine kn (sb (sr ?_));obtain ⟨g1, h⟩ := grd h;revert h;refine zb fun x2 hxx2 h => ?_;refine WL.q [] rfl rfl rfl (q_idx tbOk rfl tr g1 (zM1 (f := eStr) hxx2)) ?_;refine lr2 rfl (nn (WC.region (lr2 rfl ?_)));refine WL.setPut Tryz.underlying184 Tryz.underlying9 rfl rfl rfl tr rfl ?_;refine WL.nil (bn (WC.region (lr2 rfl (WL.nil ?_))));cases h;exact WQ.next [] ((IntKind.i64.wrap (t9 + (1 : Int))), (addKey keys2 x2)) sub (hn1 _ hf1)
  ·refine WC.exit (WQ.thenExit ?_);cases h;obtain rfl := he1 _ hf1;replace h := hk1;try dsimp only at h
   refine eb ?_;exact WQ.cut [] keys2 sub h
 ·intro keys h;try dsimp only at h;unfold setOf_j1 at h;try dsimp only
  refine sr (lr2 rfl (nr ?_));refine WQ.pubSet 6 rfl rfl ?_;cases h;exact rt tbOk hR
theorem memberIn2_con {wg : World} (hw : WG wg) {s : Str} {a1 : (List Str)} {r : Bool} (h : memberIn2 s a1 = some r) : Con Tryz.prog wg gl 171 [tv s, .p 1 0] [(1, .blk 184 [.v (.mp a1)])] (ov r) [(1, .blk 184 [.v (.mp a1)])] := by
 unfold memberIn2 at h;refine cw Tryz.func171 Tryz.ntmps171 ?_;intro F L w ρ0 R hR;try dsimp only [zP1]
 refine sr (lr1 rfl (ns (lr2 rfl ?_)));refine WL.q [] rfl rfl rfl (q_look tbOk Tryz.underlying184 Tryz.underlying9 (et := 4) rfl rfl rfl tr) ?_;refine lr1 rfl (nr ?_);cases h;exact rt tbOk hR
theorem memberB_con {wg : World} (hw : WG wg) {l : (List Str)} {r : (List Str)} (h : memberB l = some r) : Con Tryz.prog wg gl 148 [.v (.sl 1 (l.map eStr))] [] (.fn 171 [.p 500 0]) [(500, .blk 184 [.v (.mp r)])] := by
 unfold memberB at h;refine cw Tryz.func148 Tryz.ntmps148 ?_;intro F L w ρ0 R hR;try dsimp only [zP1]
 refine sr (lr2 rfl (nn (WC.seq (sr (lr1 rfl ?_)))));refine WL.q [] rfl rfl rfl (q_ev tbOk (iv (l.length : Int)) rfl tr lenT) ?_;refine lr1 rfl (nn ?_);revert h;refine ci (fun hc1 h => ?_) (fun hc1 h => ?_)
 ·refine sr (lr2 rfl (nr (WQ.thenRet ?_)));cases h
 ·refine kn (sr (lr1 rfl ?_));revert h;refine zb fun v hvv h => ?_;refine WL.call0 fn170 rfl rfl rfl rfl tr rfl (setOf_con hw hvv) ?_;refine lr2 rfl (ns (lr2 rfl (nr ?_)));cases h;exact WQ.rets tbOk hR [(500, 3)] (.inl rfl) rfl rfl (Le.refl _) eqs rfl rfl rfl rfl
theorem commonS_con {wg : World} (hw : WG wg) {a : (List Str)} {b : (List Str)} {r : Int} (h : commonS a b = some r) : Con Tryz.prog wg gl 150 [.v (.sl 1 (a.map eStr)), .v (.sl 1 (b.map eStr))] [] (iv r) [] := by
 unfold commonS at h;refine cw Tryz.func150 Tryz.ntmps150 ?_;intro F L w ρ0 R hR;try dsimp only [zP1]
 refine sr (lr1 rfl (ns (lr1 rfl ?_)));revert h;refine zb fun v hvv h => ?_;refine WL.callO [] [(500, 9)] [9] fn148 rfl rfl rfl rfl tr (member_con hw hvv) rfl rfl tr rfl rfl rfl rfl rfl rfl ?_;refine lr1 rfl (ns (lr1 rfl (nn (WC.seq (sr (lr1 rfl ?_))))));revert h;refine zb fun v2 hvv2 h => ?_;refine WL.call0 fn170 rfl rfl rfl rfl tr rfl (setOf_con hw hvv2) ?_;refine WL.rangeSet Tryz.underlying184 rfl rfl rfl rfl tr rfl ?_;refine nn ?_;refine WC.thenCut (X := Int) (fun gG => ⟨[(6, iv gG)], []⟩) (fun gG => commonS_j1 gG = some r) ?_ ?_
 ·refine WC.block ?_;obtain ⟨eQ1, hl1, hk_1⟩ := bnd h;clear h;refine WC.loopM (σ := (List Str) × (Int)) (fun sS => ⟨[(12, .r 12), (6, iv sS.2), (5, .fn 169 [.p 9 0])], [(9, .blk 28 [.v (.sl 1 (v.map eStr))]), (12, .sit sS.1 none)]⟩) (fun sS => ∀ o : List Str, o.Perm sS.1 → foldO (commonS_b1 v) o sS.2 = some eQ1) (fun sS => sS.1.length) [] (v2, (0 : Int)) (setFold_all hl1) sub ?_;rintro ⟨left, count2⟩ hI1;try dsimp only
  refine sr ?_;refine WL.nextSet rfl rfl rfl rfl sideR rfl (fun kx1 hkx1 => ?_) (fun hkn1 => ?_)
  ·obtain ⟨o1, hf1, hI2_1⟩ := set_step hI1 hkx1;have h := hf1;unfold commonS_b1 at h;refine lr1 rfl (nn (WC.seq ?_));refine WC.cond (b := true) rfl (fun hc2 => ?_) (fun hc2 => by cases hc2);refine kn (WC.block (sr ?_));refine WL.q [12] rfl rfl rfl (q_entry rfl tr rfl) ?_;refine lr2 rfl (ns (lr2 rfl ?_));revert h;refine zb fun v4 hvv4 h => ?_;refine WL.callO [(1, 9)] [(1, 9)] [9] fn169 rfl rfl rfl rfl tr (memberIn_con hw hvv4) rfl rfl eqs rfl rfl rfl rfl rfl rfl ?_;refine nn ?_;revert h;refine ci (fun hc3 h => ?_) (fun hc3 h => ?_)
   ·refine WC.region (lr3 rfl (WL.nil (WQ.blockNormal ?_)));refine WQ.weakenO 12 (.sit (left.erase kx1) none) rfl LeO.sit rfl ?_;cases h;exact WQ.nextM [] (left.erase kx1, (IntKind.i64.wrap (count2 + (1 : Int)))) sub hI2_1 (erase_lt hkx1)
   ·refine WC.skip (WQ.blockNormal ?_);refine WQ.weakenO 12 (.sit (left.erase kx1) none) rfl LeO.sit rfl ?_;cases h;exact WQ.nextM [] (left.erase kx1, count2) sub hI2_1 (erase_lt hkx1)
  ·refine lr1 rfl (nn (WC.seq ?_));refine WC.cond (b := false) rfl (fun hc1 => by cases hc1) (fun hc1 => ?_);refine WC.exit (WQ.thenExit ?_);have he := (set_end hI1 hkn1).symm;subst he;have h := hk_1;try dsimp only at h
   refine eb ?_;exact WQ.cut [] count2 sub h
 ·intro count h;try dsimp only at h;unfold commonS_j1 at h;try dsimp only
  refine sr (lr2 rfl (nr ?_));cases h;exact rt tbOk hR
theorem commonB_con {wg : World} (hw : WG wg) {a : (List Str)} {b : (List Str)} {r : Int} (h : commonB a b = some r) : Con Tryz.prog wg gl 150 [.v (.sl 1 (a.map eStr)), .v (.sl 1 (b.map eStr))] [] (iv r) [] := by
 unfold commonB at h;refine cw Tryz.func150 Tryz.ntmps150 ?_;intro F L w ρ0 R hR;try dsimp only [zP1]
 refine sr (lr1 rfl (ns (lr1 rfl ?_)));revert h;refine zb fun v hvv h => ?_;refine WL.callO [] [(500, 9)] [9] fn148 rfl rfl rfl rfl tr (memberB_con hw hvv) rfl rfl tr rfl rfl rfl rfl rfl rfl ?_;refine lr1 rfl (ns (lr1 rfl (nn (WC.seq (sr (lr1 rfl ?_))))));revert h;refine zb fun v2 hvv2 h => ?_;refine WL.call0 fn170 rfl rfl rfl rfl tr rfl (setOf_con hw hvv2) ?_;refine WL.rangeSet Tryz.underlying184 rfl rfl rfl rfl tr rfl ?_;refine nn ?_;refine WC.thenCut (X := Int) (fun gG => ⟨[(6, iv gG)], []⟩) (fun gG => commonB_j1 gG = some r) ?_ ?_
 ·refine WC.block ?_;obtain ⟨eQ1, hl1, hk_1⟩ := bnd h;clear h;refine WC.loopM (σ := (List Str) × (Int)) (fun sS => ⟨[(12, .r 12), (6, iv sS.2), (5, .fn 171 [.p 9 0])], [(9, .blk 184 [.v (.mp v)]), (12, .sit sS.1 none)]⟩) (fun sS => ∀ o : List Str, o.Perm sS.1 → foldO (commonB_b1 v) o sS.2 = some eQ1) (fun sS => sS.1.length) [] (v2, (0 : Int)) (setFold_all hl1) sub ?_;rintro ⟨left, count2⟩ hI1;try dsimp only
  refine sr ?_;refine WL.nextSet rfl rfl rfl rfl sideR rfl (fun kx1 hkx1 => ?_) (fun hkn1 => ?_)
  ·obtain ⟨o1, hf1, hI2_1⟩ := set_step hI1 hkx1;have h := hf1;unfold commonB_b1 at h;refine lr1 rfl (nn (WC.seq ?_));refine WC.cond (b := true) rfl (fun hc2 => ?_) (fun hc2 => by cases hc2);refine kn (WC.block (sr ?_));refine WL.q [12] rfl rfl rfl (q_entry rfl tr rfl) ?_;refine lr2 rfl (ns (lr2 rfl ?_));revert h;refine zb fun v4 hvv4 h => ?_;refine WL.callO [(1, 9)] [(1, 9)] [9] fn171 rfl rfl rfl rfl tr (memberIn2_con hw hvv4) rfl rfl eqs rfl rfl rfl rfl rfl rfl ?_;refine nn ?_;revert h;refine ci (fun hc3 h => ?_) (fun hc3 h => ?_)
   ·refine WC.region (lr3 rfl (WL.nil (WQ.blockNormal ?_)));refine WQ.weakenO 12 (.sit (left.erase kx1) none) rfl LeO.sit rfl ?_;cases h;exact WQ.nextM [] (left.erase kx1, (IntKind.i64.wrap (count2 + (1 : Int)))) sub hI2_1 (erase_lt hkx1)
   ·refine WC.skip (WQ.blockNormal ?_);refine WQ.weakenO 12 (.sit (left.erase kx1) none) rfl LeO.sit rfl ?_;cases h;exact WQ.nextM [] (left.erase kx1, count2) sub hI2_1 (erase_lt hkx1)
  ·refine lr1 rfl (nn (WC.seq ?_));refine WC.cond (b := false) rfl (fun hc1 => by cases hc1) (fun hc1 => ?_);refine WC.exit (WQ.thenExit ?_);have he := (set_end hI1 hkn1).symm;subst he;have h := hk_1;try dsimp only at h
   refine eb ?_;exact WQ.cut [] count2 sub h
 ·intro count h;try dsimp only at h;unfold commonB_j1 at h;try dsimp only
  refine sr (lr2 rfl (nr ?_));cases h;exact rt tbOk hR
theorem growStr_con {wg : World} (hw : WG wg) {n1 : Int} {r : (List Str)} (h : growStr n1 = some r) : Con Tryz.prog wg gl 172 [.v (.raw (.slice none 0 0)), iv n1] [] (.r 500) [(500, .row 9 1 (r.map eStr))] := by
 unfold growStr at h;refine cw Tryz.func172 Tryz.ntmps172 ?_;intro F L w ρ0 R hR;try dsimp only [zP1]
 refine sr (lr1 rfl (nn (WC.seq (sr (lr2 rfl (nn ?_))))));revert h;refine ci (fun hc1 h => ?_) (fun hc1 h => ?_)
 ·cases h
 ·refine kn (WC.seq (sr (lr2 rfl ?_)));refine WL.q [] rfl rfl rfl (q_nil ap28 rfl tr) ?_;refine lr5 rfl (ns (lr2 rfl (nn ?_)));refine WC.thenCut (X := (List Str)) (fun gG => ⟨[(0, .r 1000)], [(1000, .row 9 1 (gG.map eStr))]⟩) (fun gG => growStr_j1 gG = some r) ?_ ?_
  ·revert h;refine ci (fun hc2 h => ?_) (fun hc2 h => ?_)
   ·refine WC.region (lr2 rfl ?_);refine WL.q [] rfl rfl rfl (q_nil ap28 rfl tr) ?_;refine WL.q [] rfl rfl rfl (q_nil ap28 rfl sideR) ?_;refine lr1 rfl ?_;obtain ⟨g1, h⟩ := grd h;refine WL.growRow tbOk (List.replicate (IntKind.i64.wrap (n1 - (IntKind.i64.wrap ((0 : Int) - (0 : Int))))).toNat [.raw (.string ⟨⟨[]⟩⟩)]) ap28 rfl rfl rfl rfl rfl sideR g1 rfl rfl ?_;refine lr2 rfl ?_;refine WL.rcut tbOk (([] : (List Str)).map eStr) rfl rfl rfl rfl sideR rfl ⟨Int.le_refl 0, Int.natCast_nonneg _⟩ rfl rfl ?_;refine lr1 rfl (WL.nil ?_);exact WQ.cut [(1000, 25)] [] sub h
   ·refine WC.skip ?_;refine WQ.rowNil 0 1000 9 1 rfl rfl ?_;exact WQ.cut [] [] sub h
  ·intro s h;try dsimp only at h;unfold growStr_j1 at h;try dsimp only
   refine sr (lr2 rfl (nr ?_));cases h;exact WQ.rets tbOk hR [(500, 1000)] (.inl rfl) rfl rfl (Le.refl _) eqs rfl rfl rfl rfl
theorem concatStr_con {wg : World} (hw : WG wg) {slices : (List (List Str))} {r : (List Str)} (h : concatStr slices = some r) : Con Tryz.prog wg gl 151 [.v (.sl 1 (slices.map zH1))] [] (.r 500) [(500, .row 9 1 (r.map eStr))] := by
 unfold concatStr at h;refine cw Tryz.func151 Tryz.ntmps151 ?_;intro F L w ρ0 R hR;try dsimp only [zP1]
 refine sr (lr1 rfl (ns (lr1 rfl (nn (WC.seq (sr (lr1 rfl ?_)))))));refine WL.q [] rfl rfl rfl (q_ev tbOk (iv (slices.length : Int)) rfl tr lenT) ?_;refine lr1 rfl (nn ?_);refine WC.thenCut (X := Int) (fun gG => ⟨[(3, iv gG), (0, .v (.sl 1 (slices.map zH1)))], []⟩) (fun gG => concatStr_j1 slices gG = some r) ?_ ?_
 ·refine WC.block ?_;obtain ⟨eQ2, hl2, hk2⟩ := bnd h;clear h;refine WC.loop (σ := Int × Int) (τ := (Int)) (fun sS => ⟨[(11, iv sS.1), (10, iv (slices.length : Int)), (9, .v (.sl 1 (slices.map zH1))), (3, iv sS.2), (0, .v (.sl 1 (slices.map zH1)))], []⟩) (concatStr_b2 slices) [] ((0 : Int), (0 : Int)) hl2 sub ?_;rintro ⟨t11, size2⟩ m hn2 he2 hx2;obtain ⟨o2, hf2⟩ := zQ1 hx2;have h := hf2;unfold concatStr_b2 at h;try dsimp only
  refine sr (lr1 rfl (nn (WC.seq ?_)));revert h;refine ci (fun hc2 h => ?_) (fun hc2 h => ?_)
  ·refine kn (sb (sr ?_));obtain ⟨g3, h⟩ := grd h;revert h;refine zb fun x4 hxx4 h => ?_;refine WL.q [] rfl rfl rfl (q_idx tbOk rfl tr g3 (zM1 (f := zH1) hxx4)) ?_;refine lr2 rfl (ns (lr2 rfl ?_));refine WL.q [] rfl rfl rfl (q_ev tbOk (iv (x4.length : Int)) rfl tr lenT) ?_;refine lr2 rfl (ns (lr2 rfl (nn ?_)));revert h;refine ci (fun hc3 h => ?_) (fun hc3 h => ?_)
   ·cases h
   ·refine WC.skip (bn (WC.region (lr2 rfl (WL.nil ?_))));cases h;exact WQ.next [] ((IntKind.i64.wrap (t11 + (1 : Int))), (IntKind.i64.wrap (size2 + (x4.length : Int)))) sub (hn2 _ hf2)
  ·refine WC.exit (WQ.thenExit ?_);cases h;obtain rfl := he2 _ hf2;replace h := hk2;try dsimp only at h
   refine eb ?_;exact WQ.cut [] size2 sub h
 ·intro size h;try dsimp only at h;unfold concatStr_j1 at h;try dsimp only
  refine sr (lr1 rfl ?_);revert h;refine zb fun v hvv h => ?_;refine WL.callO [] [(500, 24)] [24] fn172 rfl rfl rfl rfl tr (growStr_con hw hvv) rfl rfl tr rfl rfl rfl rfl rfl rfl ?_;refine lr1 rfl (nn (WC.seq (sr (lr1 rfl ?_))));refine WL.q [] rfl rfl rfl (q_ev tbOk (iv (slices.length : Int)) rfl tr lenT) ?_;refine lr1 rfl (nn ?_);refine WC.thenCut (X := (List Str)) (fun gG => ⟨[(6, .r 1006)], [(1006, .row 9 1 (gG.map eStr))]⟩) (fun gG => concatStr_j2 gG = some r) ?_ ?_
  ·refine WC.block ?_;obtain ⟨eQ1, hl1, hk1⟩ := bnd h;clear h;refine WC.loop (σ := Int × (List Str)) (τ := ((List Str))) (fun sS => ⟨[(27, iv sS.1), (26, iv (slices.length : Int)), (25, .v (.sl 1 (slices.map zH1))), (6, .r 1006)], [(1006, .row 9 1 (sS.2.map eStr))]⟩) (concatStr_b1 slices) [(1006, 24)] ((0 : Int), v) hl1 sub ?_;rintro ⟨t27, newslice2⟩ m hn1 he1 hx1;obtain ⟨o1, hf1⟩ := zQ1 hx1;have h := hf1;unfold concatStr_b1 at h;try dsimp only
   refine sr (lr1 rfl (nn (WC.seq ?_)));revert h;refine ci (fun hc1 h => ?_) (fun hc1 h => ?_)
   ·refine kn (sb (sr ?_));obtain ⟨g1, h⟩ := grd h;revert h;refine zb fun x2 hxx2 h => ?_;refine WL.q [] rfl rfl rfl (q_idx tbOk rfl tr g1 (zM1 (f := zH1) hxx2)) ?_;refine lr2 rfl (nn (WC.region (lr2 rfl ?_)));obtain ⟨g2, h⟩ := grd h;refine WL.append tbOk ((newslice2 ++ x2).map eStr) [33, 1006] ap28 rfl rfl rfl rfl ce tr (zL1 (f := eStr) (xs := x2) fun _ => rfl) (al g2) rfl rfl ma rfl ?_;refine lr1 rfl (WL.nil (bn (WC.region (lr2 rfl (WL.nil ?_)))));cases h;exact WQ.next [(1006, 33)] ((IntKind.i64.wrap (t27 + (1 : Int))), (newslice2 ++ x2)) sub (hn1 _ hf1)
   ·refine WC.exit (WQ.thenExit ?_);cases h;obtain rfl := he1 _ hf1;replace h := hk1;try dsimp only at h
    refine eb ?_;exact WQ.cut [] newslice2 sub h
  ·intro newslice h;try dsimp only at h;unfold concatStr_j2 at h;try dsimp only
   refine sr (lr2 rfl (nr ?_));cases h;exact WQ.rets tbOk hR [(500, 1006)] (.inl rfl) rfl rfl (Le.refl _) eqs rfl rfl rfl rfl
theorem union_con {wg : World} (hw : WG wg) {a : (List Str)} {b : (List Str)} {r : (List Str)} (h : union a b = some r) : Con Tryz.prog wg gl 120 [.v (.sl 1 (a.map eStr)), .v (.sl 1 (b.map eStr))] [] (.v (.sl 1 (r.map eStr))) [] := by
 unfold union at h;refine cw Tryz.func120 Tryz.ntmps120 ?_;intro F L w ρ0 R hR;try dsimp only [zP1]
 refine sr (lr1 rfl (ns (lr3 rfl ?_)));revert h;refine zb fun v hvv h => ?_;refine WL.callO [] [(500, 9)] [9] fn151 rfl rfl rfl rfl tr (concatStr_con hw hvv) rfl rfl tr rfl rfl rfl rfl rfl rfl ?_;refine lr1 rfl (ns (lr1 rfl ?_));revert h;refine zb fun v2 hvv2 h => ?_;refine WL.callO [(0, 9)] [(0, 9)] [9] fn152 rfl rfl rfl rfl tr (sortS_con hw hvv2) rfl rfl eqs rfl rfl rfl rfl rfl rfl ?_;refine ns (lr1 rfl ?_);revert h;refine zb fun v3 hvv3 h => ?_;refine WL.callO [(0, 9)] [(0, 9), (500, 13)] [9, 13] fn153 rfl rfl rfl rfl tr (compactS_con hw hvv3) rfl rfl eqs rfl rfl rfl rfl rfl rfl ?_;refine lr1 rfl (nr ?_);refine WQ.publish 13 rfl rfl ?_;cases h;exact rt tbOk hR
end Go.Proofs.YtaeplfiaahkgpaaGreatDoor
end zCo
noncomputable section zCp
set_option linter.unusedVariables false
set_option linter.unusedSimpArgs false
set_option maxHeartbeats 4000000
set_option maxRecDepth 20000
namespace Go.Proofs.YtaeplfiaahkgpaaGreatDoor
open Go.V Go.C
theorem refCommon_con {wg : World} (hw : WG wg) {a : (List Str)} {b : (List Str)} {r : Int} (h : refCommon a b = some r) : Con Tryz.prog wg gl 131 [.v (.sl 1 (a.map eStr)), .v (.sl 1 (b.map eStr))] [] (iv r) [] := by
 unfold refCommon at h;refine cw Tryz.func131 Tryz.ntmps131 ?_;intro F L w ρ0 R hR;try dsimp only [zP1]
 refine sr (lr1 rfl (ns (lr1 rfl ?_)));revert h;refine zb fun v hvv h => ?_;refine WL.call0 fn129 rfl rfl rfl rfl tr rfl (con_le (.cons (Le.refl _) (.cons (Le.nil 1) .nil)) (refUnion_con hw hvv)) ?_;refine lr1 rfl (ns (lr1 rfl (nn (WC.seq (sr (lr1 rfl (nn ?_)))))));refine WC.thenCut (X := Int) (fun gG => ⟨[(6, iv gG)], []⟩) (fun gG => refCommon_j1 gG = some r) ?_ ?_
 ·refine WC.block ?_;obtain ⟨eQ1, hl1, hk1⟩ := bnd h;clear h;refine WC.loop (σ := Int × Int) (τ := (Int)) (fun sS => ⟨[(7, iv sS.1), (6, iv sS.2), (5, .v (.sl 1 (v.map eStr))), (1, .v (.sl 1 (b.map eStr)))], []⟩) (refCommon_b1 b v) [] ((0 : Int), (0 : Int)) hl1 sub ?_;rintro ⟨i, n12⟩ m hn1 he1 hx1;obtain ⟨o1, hf1⟩ := zQ1 hx1;have h := hf1;unfold refCommon_b1 at h;try dsimp only
  refine WC.seq (sr (lr2 rfl ?_));refine WL.q [] rfl rfl rfl (q_ev tbOk (iv (v.length : Int)) rfl tr lenT) ?_;refine lr1 rfl (nn ?_);revert h;refine ci (fun hc1 h => ?_) (fun hc1 h => ?_)
  ·refine kn (WC.seq ?_);refine WC.thenCut (X := Int) (fun gG => ⟨[(6, iv gG), (7, iv i), (5, .v (.sl 1 (v.map eStr))), (1, .v (.sl 1 (b.map eStr)))], []⟩) (fun gG => refCommon_j2 b v i gG = some o1) ?_ ?_
   ·refine WC.block (sr (lr3 rfl ?_));obtain ⟨g1, h⟩ := grd h;revert h;refine zb fun x2 hxx2 h => ?_;refine WL.q [] rfl rfl rfl (q_idx tbOk rfl tr g1 (zM1 (f := eStr) hxx2)) ?_;refine lr1 rfl ?_;revert h;refine zb fun v3 hvv3 h => ?_;refine WL.call0 fn98 rfl rfl rfl rfl tr rfl (refHas_con hw hvv3) ?_;refine nn ?_;revert h;refine ci (fun hc2 h => ?_) (fun hc2 h => ?_)
    ·refine WC.region (lr3 rfl (WL.nil (WQ.blockNormal ?_)));exact WQ.cut [] (IntKind.i64.wrap (n12 + (1 : Int))) sub h
    ·refine WC.skip (WQ.blockNormal ?_);exact WQ.cut [] n12 sub h
   ·intro n16 h;try dsimp only at h;unfold refCommon_j2 at h;try dsimp only
    refine WC.region (lr3 rfl (WL.nil ?_));cases h;exact WQ.next [] ((IntKind.i64.wrap (i + (1 : Int))), n16) sub (hn1 _ hf1)
  ·refine WC.exit (WQ.thenExit ?_);cases h;obtain rfl := he1 _ hf1;replace h := hk1;try dsimp only at h
   refine eb ?_;exact WQ.cut [] n12 sub h
 ·intro n1 h;try dsimp only at h;unfold refCommon_j1 at h;try dsimp only
  refine sr (lr2 rfl (nr ?_));cases h;exact rt tbOk hR
theorem rIncomplete_con {wg : World} (hw : WG wg) {g : YR} {r : (List Str)} (h : rIncomplete g = some r) : Con Tryz.prog wg gl 135 [.v (.agg (eS g))] [] (.v (.sl 1 (r.map eStr))) [] := by
 unfold rIncomplete at h;refine cw Tryz.func135 Tryz.ntmps135 ?_;intro F L w ρ0 R hR;try dsimp only [zP1]
 refine sr (lr2 rfl (ns (lr3 rfl ?_)));revert h;refine zb fun v hvv h => ?_;refine WL.call0 fn129 rfl rfl rfl rfl tr rfl (refUnion_con hw hvv) ?_;refine lr1 rfl (nr ?_);cases h;exact rt tbOk hR
theorem rLikeness_con {wg : World} (hw : WG wg) {b : YE} {x : YB} {g : YR} {r : Int} (h : rLikeness b x g = some r) : Con Tryz.prog wg gl 81 [.v (.agg (eF b)), .v (.agg (eC x)), .v (.agg (eS g))] [] (iv r) [] := by
 unfold rLikeness at h;refine cw Tryz.func81 Tryz.ntmps81 ?_;intro F L w ρ0 R hR;try dsimp only [zP1]
 refine sr (lr4 rfl (nn (WC.seq (sr (lr5 rfl ?_)))));revert h;refine zb fun v hvv h => ?_;refine WL.call0 fn97 rfl rfl rfl rfl tr rfl (refExcluded_con hw hvv) ?_;refine nn ?_;revert h;refine ci (fun hc1 h => ?_) (fun hc1 h => ?_)
 ·refine sr (lr1 rfl (nr (WQ.thenRet ?_)));cases h;exact rt tbOk hR
 ·refine kn (sr (lr3 rfl (nn (WC.seq (sr (lr1 rfl (nn ?_)))))));refine WC.thenCut (X := (List Str)) (fun gG => ⟨[(7, .v (.sl 1 (gG.map eStr))), (5, .p 5 0), (4, .p 4 0), (3, .p 3 0)], [(3, .blk 26 (kv (eF b))), (4, .blk 53 (kv (eC x))), (5, .blk 32 (kv (eS g)))]⟩) (fun gG => rLikeness_j1 b x g gG = some r) ?_ ?_
  ·refine WC.block ?_;obtain ⟨eQ3, hl3, hk3⟩ := bnd h;clear h;refine WC.loop (σ := Int × (List Str)) (τ := ((List Str))) (fun sS => ⟨[(8, iv sS.1), (7, .v (.sl 1 (sS.2.map eStr))), (5, .p 5 0), (4, .p 4 0), (3, .p 3 0)], [(3, .blk 26 (kv (eF b))), (4, .blk 53 (kv (eC x))), (5, .blk 32 (kv (eS g)))]⟩) (rLikeness_b3 b x g) [] ((0 : Int), g.Words) hl3 sub ?_;rintro ⟨i5, w16⟩ m hn3 he3 hx3;obtain ⟨o3, hf3⟩ := zQ1 hx3;have h := hf3;unfold rLikeness_b3 at h;try dsimp only
   refine WC.seq (sr (lr3 rfl ?_));refine WL.q [] rfl rfl rfl (q_ev tbOk (iv (g.Materials.length : Int)) rfl tr lenT) ?_;refine lr1 rfl (nn ?_);revert h;refine ci (fun hc4 h => ?_) (fun hc4 h => ?_)
   ·refine kn (sb (WC.region (lr4 rfl ?_)));obtain ⟨g3, h⟩ := grd h;revert h;refine zb fun x7 hxx7 h => ?_;refine WL.q [] rfl rfl rfl (q_idx tbOk rfl tr g3 (zM1 (f := eA1) hxx7)) ?_;refine lr2 rfl ?_;revert h;refine zb fun v8 hvv8 h => ?_;refine WL.call0 fn128 rfl rfl rfl rfl tr rfl (refWith_con hw hvv8) ?_;refine lr1 rfl (WL.nil (bn (WC.region (lr3 rfl (WL.nil ?_)))));cases h;exact WQ.next [] ((IntKind.i64.wrap (i5 + (1 : Int))), v8) sub (hn3 _ hf3)
   ·refine WC.exit (WQ.thenExit ?_);cases h;obtain rfl := he3 _ hf3;replace h := hk3;try dsimp only at h
    refine eb ?_;exact WQ.cut [] w16 sub h
  ·intro w1 h;try dsimp only at h;unfold rLikeness_j1 at h;try dsimp only
   refine WC.seq (sr (lr1 rfl (nn ?_)));refine WC.thenCut (X := (List Str)) (fun gG => ⟨[(7, .v (.sl 1 (gG.map eStr))), (4, .p 4 0), (3, .p 3 0)], [(3, .blk 26 (kv (eF b))), (4, .blk 53 (kv (eC x)))]⟩) (fun gG => rLikeness_j2 b x gG = some r) ?_ ?_
   ·refine WC.block ?_;obtain ⟨eQ2, hl2, hk2⟩ := bnd h;clear h;refine WC.loop (σ := Int × (List Str)) (τ := ((List Str))) (fun sS => ⟨[(9, iv sS.1), (7, .v (.sl 1 (sS.2.map eStr))), (5, .p 5 0), (4, .p 4 0), (3, .p 3 0)], [(3, .blk 26 (kv (eF b))), (4, .blk 53 (kv (eC x))), (5, .blk 32 (kv (eS g)))]⟩) (rLikeness_b2 b x g) [] ((0 : Int), w1) hl2 sub ?_;rintro ⟨i3, w13⟩ m hn2 he2 hx2;obtain ⟨o2, hf2⟩ := zQ1 hx2;have h := hf2;unfold rLikeness_b2 at h;try dsimp only
    refine WC.seq (sr (lr3 rfl ?_));refine WL.q [] rfl rfl rfl (q_ev tbOk (iv (g.Parts.length : Int)) rfl tr lenT) ?_;refine lr1 rfl (nn ?_);revert h;refine ci (fun hc3 h => ?_) (fun hc3 h => ?_)
    ·refine kn (sb (WC.region (lr4 rfl ?_)));obtain ⟨g2, h⟩ := grd h;revert h;refine zb fun x5 hxx5 h => ?_;refine WL.q [] rfl rfl rfl (q_idx tbOk rfl tr g2 (zM1 (f := eJ) hxx5)) ?_;refine lr2 rfl ?_;revert h;refine zb fun v6 hvv6 h => ?_;refine WL.call0 fn129 rfl rfl rfl rfl tr rfl (refUnion_con hw hvv6) ?_;refine lr1 rfl (WL.nil (bn (WC.region (lr3 rfl (WL.nil ?_)))));cases h;exact WQ.next [] ((IntKind.i64.wrap (i3 + (1 : Int))), v6) sub (hn2 _ hf2)
    ·refine WC.exit (WQ.thenExit ?_);cases h;obtain rfl := he2 _ hf2;replace h := hk2;try dsimp only at h
     refine eb ?_;exact WQ.cut [] w13 sub h
   ·intro w12 h;try dsimp only at h;unfold rLikeness_j2 at h;try dsimp only
    refine sr (lr1 rfl (ns (lr2 rfl ?_)));revert h;refine zb fun v2 hvv2 h => ?_;refine WL.call0 fn130 rfl rfl rfl rfl tr rfl (refAlts_con hw hvv2) ?_;refine lr1 rfl (nn (WC.seq (sr (lr1 rfl (nn ?_)))));refine WC.thenCut (X := Int) (fun gG => ⟨[(10, iv gG)], []⟩) (fun gG => rLikeness_j3 gG = some r) ?_ ?_
    ·refine WC.block ?_;obtain ⟨eQ1, hl1, hk1⟩ := bnd h;clear h;refine WC.loop (σ := Int × Int) (τ := (Int)) (fun sS => ⟨[(12, iv sS.1), (11, .v (.sl 1 (v2.map zH1))), (10, iv sS.2), (7, .v (.sl 1 (w12.map eStr)))], []⟩) (rLikeness_b1 w12 v2) [] ((0 : Int), (0 : Int)) hl1 sub ?_;rintro ⟨i, n12⟩ m hn1 he1 hx1;obtain ⟨o1, hf1⟩ := zQ1 hx1;have h := hf1;unfold rLikeness_b1 at h;try dsimp only
     refine WC.seq (sr (lr2 rfl ?_));refine WL.q [] rfl rfl rfl (q_ev tbOk (iv (v2.length : Int)) rfl tr lenT) ?_;refine lr1 rfl (nn ?_);revert h;refine ci (fun hc2 h => ?_) (fun hc2 h => ?_)
     ·refine kn (sb (WC.region (lr3 rfl ?_)));obtain ⟨g1, h⟩ := grd h;revert h;refine zb fun x3 hxx3 h => ?_;refine WL.q [] rfl rfl rfl (q_idx tbOk rfl tr g1 (zM1 (f := zH1) hxx3)) ?_;refine lr2 rfl ?_;revert h;refine zb fun v4 hvv4 h => ?_;refine WL.call0 fn131 rfl rfl rfl rfl tr rfl (refCommon_con hw hvv4) ?_;refine lr2 rfl (WL.nil (bn (WC.region (lr3 rfl (WL.nil ?_)))));cases h;exact WQ.next [] ((IntKind.i64.wrap (i + (1 : Int))), (if v4 > n12 then v4 else n12)) sub (hn1 _ hf1)
     ·refine WC.exit (WQ.thenExit ?_);cases h;obtain rfl := he1 _ hf1;replace h := hk1;try dsimp only at h
      refine eb ?_;exact WQ.cut [] n12 sub h
    ·intro n1 h;try dsimp only at h;unfold rLikeness_j3 at h;try dsimp only
     refine sr (lr2 rfl (nr ?_));cases h;exact rt tbOk hR
theorem rAsParts_con {wg : World} (hw : WG wg) {b : YE} {x : YB} {g : YR} {r : Bool} (h : rAsParts b x g = some r) : Con Tryz.prog wg gl 132 [.v (.agg (eF b)), .v (.agg (eC x)), .v (.agg (eS g))] [] (ov r) [] := by
 unfold rAsParts at h;refine cw Tryz.func132 Tryz.ntmps132 ?_;intro F L w ρ0 R hR;try dsimp only [zP1]
 refine sr (lr4 rfl (ns (lr1 rfl ?_)));revert h;refine zb fun v hvv h => ?_;refine WL.call0 fn135 rfl rfl rfl rfl tr rfl (rIncomplete_con hw hvv) ?_;refine lr1 rfl (ns (lr2 rfl ?_));revert h;refine zb fun v2 hvv2 h => ?_;refine WL.call0 fn130 rfl rfl rfl rfl tr rfl (refAlts_con hw hvv2) ?_;refine lr1 rfl (nn (WC.seq (sr (lr1 rfl (nn ?_)))));refine WC.thenCut (X := Unit) (fun gG => ⟨[], []⟩) (fun gG => rAsParts_j1  = some r) ?_ ?_
 ·refine WC.block ?_;obtain ⟨eQ1, hl1, hk1⟩ := bnd h;clear h;refine WC.loop (σ := Int) (τ := ((Bool) ⊕ (Unit))) (fun sS => ⟨[(9, iv sS), (8, .v (.sl 1 (v2.map zH1))), (7, .v (.sl 1 (v.map eStr))), (4, .p 4 0), (3, .p 3 0)], [(3, .blk 26 (kv (eF b))), (4, .blk 53 (kv (eC x)))]⟩) (rAsParts_b1 b x v v2) [] (0 : Int) hl1 sub ?_;intro i m hn1 he1 hx1;obtain ⟨o1, hf1⟩ := zQ1 hx1;have h := hf1;unfold rAsParts_b1 at h;try dsimp only
  refine WC.seq (sr (lr2 rfl ?_));refine WL.q [] rfl rfl rfl (q_ev tbOk (iv (v2.length : Int)) rfl tr lenT) ?_;refine lr1 rfl (nn ?_);revert h;refine ci (fun hc1 h => ?_) (fun hc1 h => ?_)
  ·refine kn (sb (sr (lr2 rfl ?_)));obtain ⟨g1, h⟩ := grd h;revert h;refine zb fun x3 hxx3 h => ?_;refine WL.q [] rfl rfl rfl (q_idx tbOk rfl tr g1 (zM1 (f := zH1) hxx3)) ?_;refine lr1 rfl ?_;revert h;refine zb fun v6 hvv6 h => ?_;refine WL.call0 fn98 rfl rfl rfl rfl tr rfl (refHas_con hw hvv6) ?_;refine lr 3 rfl sideR ?_;obtain ⟨g2, h⟩ := grd h;refine WL.gq [] rfl rfl rfl rfl (fun hg => q_idx tbOk rfl sideR (g2 hg).1 (map_getD (f := zH1) (g2 hg).2 (g2 hg).1)) ?_;refine lr 2 rfl sideR ?_;revert h;refine zb fun v7 hvv7 h => ?_;refine WL.gcall0 fn142 rfl rfl rfl rfl rfl (fun _ => sideR) rfl (fun hg => (refSubset_con hw (ite_t hg hvv7))) ?_;refine lr 1 rfl sideR ?_;refine nn ?_;revert h;refine ci (fun hc2 h => ?_) (fun hc2 h => ?_)
   ·refine sr (lr4 rfl ?_);revert h;refine zb fun v8 hvv8 h => ?_;refine WL.call0 fn97 rfl rfl rfl rfl tr rfl (refExcluded_con hw hvv8) ?_;refine lr2 rfl (nr (rb ?_));cases h;obtain rfl := he1 _ hf1;have h : some (!v8) = some _ := hk1;refine WQ.thenRet (rb ?_);cases h;exact rt tbOk hR
   ·refine WC.skip (bn (WC.region (lr3 rfl (WL.nil ?_))));cases h;exact WQ.next [] (IntKind.i64.wrap (i + (1 : Int))) sub (hn1 _ hf1)
  ·refine WC.exit (WQ.thenExit ?_);cases h;obtain rfl := he1 _ hf1;replace h := hk1;try dsimp only at h
   refine eb ?_;exact WQ.cut [] () sub h
 ·intro _ h;try dsimp only at h;unfold rAsParts_j1 at h;try dsimp only
  refine sr (lr1 rfl (nr ?_));cases h;exact rt tbOk hR
theorem rByCharacter_con {wg : World} (hw : WG wg) {b : YE} {x : YB} {g : YR} {r : Bool} (h : rByCharacter b x g = some r) : Con Tryz.prog wg gl 134 [.v (.agg (eF b)), .v (.agg (eC x)), .v (.agg (eS g))] [] (ov r) [] := by
 unfold rByCharacter at h;refine cw Tryz.func134 Tryz.ntmps134 ?_;intro F L w ρ0 R hR;try dsimp only [zP1]
 refine sr (lr4 rfl (ns (lr1 rfl ?_)));revert h;refine zb fun v hvv h => ?_;refine WL.call0 fn136 rfl rfl rfl rfl tr rfl (refCharacters_con hw hvv) ?_;refine lr1 rfl (nn (WC.seq (sr (lr1 rfl (nn ?_)))));refine WC.thenCut (X := Unit) (fun gG => ⟨[], []⟩) (fun gG => rByCharacter_j1  = some r) ?_ ?_
 ·refine WC.block ?_;obtain ⟨eQ1, hl1, hk1⟩ := bnd h;clear h;refine WC.loop (σ := Int) (τ := ((Bool) ⊕ (Unit))) (fun sS => ⟨[(8, iv sS), (7, .v (.sl 2 (v.map eJ))), (4, .p 4 0), (3, .p 3 0)], [(3, .blk 26 (kv (eF b))), (4, .blk 53 (kv (eC x)))]⟩) (rByCharacter_b1 b x v) [] (0 : Int) hl1 sub ?_;intro i m hn1 he1 hx1;obtain ⟨o1, hf1⟩ := zQ1 hx1;have h := hf1;unfold rByCharacter_b1 at h;try dsimp only
  refine WC.seq (sr (lr2 rfl ?_));refine WL.q [] rfl rfl rfl (q_ev tbOk (iv (v.length : Int)) rfl tr lenT) ?_;refine lr1 rfl (nn ?_);revert h;refine ci (fun hc1 h => ?_) (fun hc1 h => ?_)
  ·refine kn (sb (WC.seq (WC.order mixed ?_)));refine wr 4 rfl trivial ?_;obtain ⟨g1, h⟩ := grd h;revert h;refine zb fun x3 hxx3 h => ?_;refine WR.q [] rfl rfl rfl (q_idx tbOk rfl tr g1 (zM1 (f := eJ) hxx3)) ?_;refine wr 2 rfl trivial ?_;revert h;refine zb fun v3 hvv3 h => ?_;refine WR.call0 fn133 rfl rfl rfl rfl tr rfl (refScore_con hw hvv3) ?_;refine wr 1 rfl trivial ?_;refine WR.nil (by kernel_rfl) (WQ.thenNormal ?_);revert h;refine ci (fun hc2 h => ?_) (fun hc2 h => ?_)
   ·refine sr (lr1 rfl (nr (rb ?_)));cases h;obtain rfl := he1 _ hf1;have h : some true = some _ := hk1;refine WQ.thenRet (rb ?_);cases h;exact rt tbOk hR
   ·refine WC.skip (bn (WC.region (lr3 rfl (WL.nil ?_))));cases h;exact WQ.next [] (IntKind.i64.wrap (i + (1 : Int))) sub (hn1 _ hf1)
  ·refine WC.exit (WQ.thenExit ?_);cases h;obtain rfl := he1 _ hf1;replace h := hk1;try dsimp only at h
   refine eb ?_;exact WQ.cut [] () sub h
 ·intro _ h;try dsimp only at h;unfold rByCharacter_j1 at h;try dsimp only
  refine sr (lr1 rfl (nr ?_));cases h;exact rt tbOk hR
theorem rFits_con {wg : World} (hw : WG wg) {b : YE} {x : YB} {g : YR} {way : Int} {top : Bool} {best : Int} {r : Bool} (h : rFits b x g way top best = some r) : Con Tryz.prog wg gl 82 [.v (.agg (eF b)), .v (.agg (eC x)), .v (.agg (eS g)), iv way, ov top, iv best] [] (ov r) [] := by
 unfold rFits at h;refine cw Tryz.func82 Tryz.ntmps82 ?_;intro F L w ρ0 R hR;try dsimp only [zP1]
 refine sr (lr4 rfl (nn (WC.seq (sr (lr1 rfl (nn (WC.block (sr (lr2 rfl (nn ?_))))))))));revert h;refine ci (fun hc1 h => ?_) (fun hc1 h => ?_)
 ·refine WC.seq (sr (lr2 rfl (nn ?_)));revert h;refine ci (fun hc2 h => ?_) (fun hc2 h => ?_)
  ·refine sr (lr3 rfl ?_);revert h;refine zb fun v hvv h => ?_;refine WL.call0 fn132 rfl rfl rfl rfl tr rfl (rAsParts_con hw hvv) ?_;refine lr1 rfl (nr (WQ.thenRet (rb ?_)));cases h;exact rt tbOk hR
  ·refine kn (sr (lr4 rfl ?_));revert h;refine zb fun v2 hvv2 h => ?_;refine WL.call0 fn133 rfl rfl rfl rfl tr rfl (refScore_con hw hvv2) ?_;refine lr2 rfl (nr (rb ?_));cases h;exact rt tbOk hR
 ·refine sr (lr2 rfl (nn ?_));revert h;refine ci (fun hc3 h => ?_) (fun hc3 h => ?_)
  ·refine sr ?_;refine lr 7 rfl sideR ?_;revert h;refine zb fun v3 hvv3 h => ?_;refine WL.gcall0 fn133 rfl rfl rfl rfl rfl (fun _ => sideR) rfl (fun hg => (refScore_con hw (ite_t hg hvv3))) ?_;refine lr 3 rfl sideR ?_;refine nr (rb ?_);cases h;exact rt tbOk hR
  ·refine sr (lr2 rfl (nn ?_));revert h;refine ci (fun hc4 h => ?_) (fun hc4 h => ?_)
   ·refine sr (lr3 rfl ?_);revert h;refine zb fun v4 hvv4 h => ?_;refine WL.call0 fn134 rfl rfl rfl rfl tr rfl (rByCharacter_con hw hvv4) ?_;refine lr1 rfl (nr (rb ?_));cases h;exact rt tbOk hR
   ·refine sr (lr2 rfl (nn ?_));revert h;refine ci (fun hc5 h => ?_) (fun hc5 h => ?_)
    ·refine sr ?_;refine lr 7 rfl sideR ?_;refine nr (rb ?_);cases h;exact rt tbOk hR
    ·refine sr (lr2 rfl (nn ?_));revert h;refine ci (fun hc6 h => ?_) (fun hc6 h => ?_)
     ·refine sr ?_;refine lr 6 rfl sideR ?_;revert h;refine zb fun v5 hvv5 h => ?_;refine WL.gcall0 fn81 rfl rfl rfl rfl rfl (fun _ => sideR) rfl (fun hg => (rLikeness_con hw (ite_t hg hvv5))) ?_;refine lr 4 rfl sideR ?_;refine nr (rb ?_);cases h;exact rt tbOk hR
     ·refine WC.skip (bn (sr (lr3 rfl (nr ?_))));cases h;exact rt tbOk hR
theorem rBasis_con {wg : World} (hw : WG wg) {b : YE} {day : Int} {g : YR} {parent : Str} {r : Int × (List YB)} (h : rBasis b day g parent = some r) : Con Tryz.prog wg gl 36 [.v (.agg (eF b)), iv day, .v (.agg (eS g)), tv parent] [] (.tup [iv r.1, .v (.sl 5 (r.2.map eC))]) [] := by
 unfold rBasis at h;refine cw Tryz.func36 Tryz.ntmps36 ?_;intro F L w ρ0 R hR;try dsimp only [zP1]
 refine sr (lr4 rfl (ns (lr3 rfl ?_)));revert h;refine zb fun v hvv h => ?_;refine WL.call0 fn80 rfl rfl rfl rfl tr rfl (refBelow_con hw hvv) ?_;refine lr1 rfl (ns (lr1 rfl (nn (WC.seq (sr (lr1 rfl (nn ?_)))))));refine WC.thenCut (X := Int) (fun gG => ⟨[(11, iv gG), (10, .v (.sl 5 (v.map eC))), (6, .p 6 0), (4, .p 4 0), (3, tv parent)], [(4, .blk 26 (kv (eF b))), (6, .blk 32 (kv (eS g)))]⟩) (fun gG => rBasis_j1 b g parent v gG = some r) ?_ ?_
 ·refine WC.block ?_;obtain ⟨eQ3, hl3, hk3⟩ := bnd h;clear h;refine WC.loop (σ := Int × Int) (τ := (Int)) (fun sS => ⟨[(12, iv sS.1), (11, iv sS.2), (10, .v (.sl 5 (v.map eC))), (6, .p 6 0), (4, .p 4 0), (3, tv parent)], [(4, .blk 26 (kv (eF b))), (6, .blk 32 (kv (eS g)))]⟩) (rBasis_b3 b g parent v) [] ((0 : Int), (0 : Int)) hl3 sub ?_;rintro ⟨i5, best2⟩ m hn3 he3 hx3;obtain ⟨o3, hf3⟩ := zQ1 hx3;have h := hf3;unfold rBasis_b3 at h;try dsimp only
  refine WC.seq (sr (lr2 rfl ?_));refine WL.q [] rfl rfl rfl (q_ev tbOk (iv (v.length : Int)) rfl tr lenT) ?_;refine lr1 rfl (nn ?_);revert h;refine ci (fun hc5 h => ?_) (fun hc5 h => ?_)
  ·refine kn (sb (WC.order mixed ?_));refine wr 4 rfl trivial ?_;obtain ⟨g5, h⟩ := grd h;revert h;refine zb fun x16 hxx16 h => ?_;refine WR.q [] rfl rfl rfl (q_idx tbOk rfl tr g5 (zM1 (f := eC) hxx16)) ?_;refine wr 2 rfl trivial ?_;revert h;refine zb fun v9 hvv9 h => ?_;refine WR.call0 fn81 rfl rfl rfl rfl tr rfl (rLikeness_con hw hvv9) ?_;refine wr 2 rfl trivial ?_;refine WR.nil (by kernel_rfl) (bn (WC.region (lr3 rfl (WL.nil ?_))));cases h;exact WQ.next [] ((IntKind.i64.wrap (i5 + (1 : Int))), (if v9 > best2 then v9 else best2)) sub (hn3 _ hf3)
  ·refine WC.exit (WQ.thenExit ?_);cases h;obtain rfl := he3 _ hf3;replace h := hk3;try dsimp only at h
   refine eb ?_;exact WQ.cut [] best2 sub h
 ·intro best h;try dsimp only at h;unfold rBasis_j1 at h;try dsimp only
  refine WC.seq (sr (lr1 rfl (nn ?_)));refine WC.thenCut (X := Unit) (fun gG => ⟨[], []⟩) (fun gG => rBasis_j2  = some r) ?_ ?_
  ·refine WC.block ?_;obtain ⟨eQ1, hl1, hk1⟩ := bnd h;clear h;refine WC.loop (σ := Int) (τ := ((Int × (List YB)) ⊕ (Unit))) (fun sS => ⟨[(13, iv sS), (11, iv best), (10, .v (.sl 5 (v.map eC))), (6, .p 6 0), (4, .p 4 0), (3, tv parent)], [(4, .blk 26 (kv (eF b))), (6, .blk 32 (kv (eS g)))]⟩) (rBasis_b1 b g parent v best) [] (1 : Int) hl1 sub ?_;intro way m hn1 he1 hx1;obtain ⟨o1, hf1⟩ := zQ1 hx1;have h := hf1;unfold rBasis_b1 at h;try dsimp only
   refine WC.seq (sr (lr2 rfl (nn ?_)));revert h;refine ci (fun hc1 h => ?_) (fun hc1 h => ?_)
   ·refine kn (WC.seq ?_);refine WC.thenCut (X := Unit) (fun gG => ⟨[(13, iv way), (11, iv best), (10, .v (.sl 5 (v.map eC))), (6, .p 6 0), (4, .p 4 0), (3, tv parent)], [(4, .blk 26 (kv (eF b))), (6, .blk 32 (kv (eS g)))]⟩) (fun gG => rBasis_j3 b g parent v best way = some o1) ?_ ?_
    ·refine WC.block (sr (lr1 rfl (nn (WC.seq (sr (lr1 rfl (nn ?_)))))));refine WC.thenCut (X := (List YB)) (fun gG => ⟨[(14, .r 1014), (13, iv way), (11, iv best), (10, .v (.sl 5 (v.map eC))), (6, .p 6 0), (4, .p 4 0), (3, tv parent)], [(1014, .row 53 5 (gG.map eC)), (4, .blk 26 (kv (eF b))), (6, .blk 32 (kv (eS g)))]⟩) (fun gG => rBasis_j4 b g parent v best way gG = some o1) ?_ ?_
     ·refine WC.block ?_;obtain ⟨eQ2, hl2, hk2⟩ := bnd h;clear h;refine WC.rowNil 14 1014 53 5 rfl rfl ?_;refine WC.loop (σ := Int × (List YB)) (τ := ((List YB))) (fun sS => ⟨[(15, iv sS.1), (14, .r 1014), (13, iv way), (11, iv best), (10, .v (.sl 5 (v.map eC))), (6, .p 6 0), (4, .p 4 0), (3, tv parent)], [(1014, .row 53 5 (sS.2.map eC)), (4, .blk 26 (kv (eF b))), (6, .blk 32 (kv (eS g)))]⟩) (rBasis_b2 b g parent v best way) [] ((0 : Int), []) hl2 sub ?_;rintro ⟨i4, c9⟩ m hn2 he2 hx2;obtain ⟨o2, hf2⟩ := zQ1 hx2;have h := hf2;unfold rBasis_b2 at h;try dsimp only
      refine WC.seq (sr (lr2 rfl ?_));refine WL.q [] rfl rfl rfl (q_ev tbOk (iv (v.length : Int)) rfl tr lenT) ?_;refine lr1 rfl (nn ?_);revert h;refine ci (fun hc3 h => ?_) (fun hc3 h => ?_)
      ·refine kn (WC.seq ?_);refine WC.thenCut (X := (List YB)) (fun gG => ⟨[(14, .r 1014), (15, iv i4), (13, iv way), (11, iv best), (10, .v (.sl 5 (v.map eC))), (6, .p 6 0), (4, .p 4 0), (3, tv parent)], [(1014, .row 53 5 (gG.map eC)), (4, .blk 26 (kv (eF b))), (6, .blk 32 (kv (eS g)))]⟩) (fun gG => rBasis_j5 b g parent v best way i4 gG = some o2) ?_ ?_
       ·refine WC.block (WC.seq (WC.order mixed ?_));refine wr 3 rfl trivial ?_;obtain ⟨g2, h⟩ := grd h;revert h;refine zb fun x13 hxx13 h => ?_;refine WR.q [] rfl rfl rfl (q_idx tbOk rfl tr g2 (zM1 (f := eC) hxx13)) ?_;refine wr 6 rfl trivial ?_;revert h;refine zb fun v7 hvv7 h => ?_;refine WR.call0 fn82 rfl rfl rfl rfl tr rfl (rFits_con hw hvv7) ?_;refine WR.nil (by kernel_rfl) (WQ.thenNormal ?_);revert h;refine ci (fun hc4 h => ?_) (fun hc4 h => ?_)
        ·refine WC.region (lr3 rfl ?_);obtain ⟨g3, h⟩ := grd h;revert h;refine zb fun x14 hxx14 h => ?_;refine WL.q [] rfl rfl rfl (q_idx tbOk rfl tr g3 (zM1 (f := eC) hxx14)) ?_;refine lr2 rfl ?_;obtain ⟨g4, h⟩ := grd h;refine WL.append tbOk ((c9 ++ [x14]).map eC) [62, 1014] ap23 rfl rfl rfl rfl ce tr (zL1 (f := eC) (xs := [x14]) fun _ => rfl) (al g4) rfl rfl ma rfl ?_;refine lr1 rfl (WL.nil (WQ.blockNormal ?_));exact WQ.cut [(1014, 62)] (c9 ++ [x14]) sub h
        ·refine WC.skip (WQ.blockNormal ?_);exact WQ.cut [] c9 sub h
       ·intro c12 h;try dsimp only at h;unfold rBasis_j5 at h;try dsimp only
        refine WC.region (lr3 rfl (WL.nil ?_));cases h;exact WQ.next [] ((IntKind.i64.wrap (i4 + (1 : Int))), c12) sub (hn2 _ hf2)
      ·refine WC.exit (WQ.thenExit ?_);cases h;obtain rfl := he2 _ hf2;replace h := hk2;try dsimp only at h
       refine eb ?_;exact WQ.cut [] c9 sub h
     ·intro c7 h;try dsimp only at h;unfold rBasis_j4 at h;try dsimp only
      refine sr (lr1 rfl ?_);refine WL.q [1014] rfl rfl rfl (q_ev tbOk (iv (c7.length : Int)) rfl tr lenT) ?_;refine lr1 rfl (nn ?_);revert h;refine ci (fun hc2 h => ?_) (fun hc2 h => ?_)
      ·refine sr (lr2 rfl ?_);obtain ⟨g1, h⟩ := grd h;revert h;refine zb fun x8 hxx8 h => ?_;refine WL.q [] rfl rfl rfl (q_idx tbOk rfl tr g1 (zM1 (f := zG1) hxx8)) ?_;refine lr4 rfl (nr (rb ?_));cases h;obtain rfl := he1 _ hf1;have h : some (x8, c7) = some _ := hk1;refine WQ.thenRet (rb ?_);refine WQ.publish 1014 rfl rfl ?_;cases h;exact WQ.rets tbOk (r := .tup [iv x8, .v (.sl 5 (c7.map eC))]) hR [] (.inl rfl) rfl rfl (Le.tup (.cons (Le.refl _) (.cons (Le.refl _) .nil))) tr rfl rfl rfl rfl
      ·refine WC.skip (WQ.blockNormal ?_);exact WQ.cut [] () sub h
    ·intro _ h;try dsimp only at h;unfold rBasis_j3 at h;try dsimp only
     refine WC.region (lr3 rfl (WL.nil ?_));cases h;exact WQ.next [] (IntKind.i64.wrap (way + (1 : Int))) sub (hn1 _ hf1)
   ·refine WC.exit (WQ.thenExit ?_);cases h;obtain rfl := he1 _ hf1;replace h := hk1;try dsimp only at h
    refine eb ?_;exact WQ.cut [] () sub h
  ·intro _ h;try dsimp only at h;unfold rBasis_j2 at h;try dsimp only
   refine sr (lr2 rfl (nr ?_));cases h;exact WQ.rets tbOk (r := .tup [iv (0 : Int), .v (.sl 5 ([].map eC))]) hR [] (.inl rfl) rfl rfl (Le.tup (.cons (Le.refl _) (.cons (Le.nil 5) .nil))) tr rfl rfl rfl rfl
theorem rSpecific_con {wg : World} (hw : WG wg) {b : YE} {g : YR} {basis : Int} {c : (List YB)} {r : (List YB)} (h : rSpecific b g basis c = some r) : Con Tryz.prog wg gl 83 [.v (.agg (eF b)), .v (.agg (eS g)), iv basis, .v (.sl 5 (c.map eC))] [] (.v (.sl 5 (r.map eC))) [] := by
 unfold rSpecific at h;refine cw Tryz.func83 Tryz.ntmps83 ?_;intro F L w ρ0 R hR;try dsimp only [zP1]
 refine sr (lr3 rfl (nn (WC.seq (sr ?_))));refine lr 6 rfl sideR ?_;refine nn ?_;revert h;refine ci (fun hc1 h => ?_) (fun hc1 h => ?_)
 ·refine sr (lr2 rfl (nr (WQ.thenRet ?_)));cases h;exact rt tbOk hR
 ·refine kn (sr (lr3 rfl (nn (WC.seq (sr ?_)))));refine lr 6 rfl sideR ?_;refine nn ?_;refine WC.thenCut (X := (List Str)) (fun gG => ⟨[(9, .v (.sl 1 (gG.map eStr))), (4, .p 4 0), (3, .v (.sl 5 (c.map eC)))], [(4, .blk 26 (kv (eF b)))]⟩) (fun gG => rSpecific_j1 b c gG = some r) ?_ ?_
  ·revert h;refine ci (fun hc5 h => ?_) (fun hc5 h => ?_)
   ·refine WC.region (lr1 rfl ?_);revert h;refine zb fun v6 hvv6 h => ?_;refine WL.call0 fn135 rfl rfl rfl rfl tr rfl (rIncomplete_con hw hvv6) ?_;refine lr1 rfl (WL.nil ?_);exact WQ.cut [] v6 sub h
   ·refine WC.skip ?_;exact WQ.cut [] g.Words sub h
  ·intro w1 h;try dsimp only at h;unfold rSpecific_j1 at h;try dsimp only
   refine sr (lr1 rfl (nn (WC.seq (sr (lr1 rfl (nn ?_))))));refine WC.thenCut (X := Int) (fun gG => ⟨[(10, iv gG), (9, .v (.sl 1 (w1.map eStr))), (4, .p 4 0), (3, .v (.sl 5 (c.map eC)))], [(4, .blk 26 (kv (eF b)))]⟩) (fun gG => rSpecific_j2 b c w1 gG = some r) ?_ ?_
   ·refine WC.block ?_;obtain ⟨eQ2, hl2, hk2⟩ := bnd h;clear h;refine WC.loop (σ := Int × Int) (τ := (Int)) (fun sS => ⟨[(11, iv sS.1), (10, iv sS.2), (9, .v (.sl 1 (w1.map eStr))), (4, .p 4 0), (3, .v (.sl 5 (c.map eC)))], [(4, .blk 26 (kv (eF b)))]⟩) (rSpecific_b2 b c w1) [] ((0 : Int), (0 : Int)) hl2 sub ?_;rintro ⟨i3, best2⟩ m hn2 he2 hx2;obtain ⟨o2, hf2⟩ := zQ1 hx2;have h := hf2;unfold rSpecific_b2 at h;try dsimp only
    refine WC.seq (sr (lr2 rfl ?_));refine WL.q [] rfl rfl rfl (q_ev tbOk (iv (c.length : Int)) rfl tr lenT) ?_;refine lr1 rfl (nn ?_);revert h;refine ci (fun hc4 h => ?_) (fun hc4 h => ?_)
    ·refine kn (sb (WC.order mixed ?_));refine wr 4 rfl trivial ?_;obtain ⟨g4, h⟩ := grd h;revert h;refine zb fun x8 hxx8 h => ?_;refine WR.q [] rfl rfl rfl (q_idx tbOk rfl tr g4 (zM1 (f := eC) hxx8)) ?_;refine wr 2 rfl trivial ?_;revert h;refine zb fun v5 hvv5 h => ?_;refine WR.call0 fn133 rfl rfl rfl rfl tr rfl (refScore_con hw hvv5) ?_;refine wr 2 rfl trivial ?_;refine WR.nil (by kernel_rfl) (bn (WC.region (lr3 rfl (WL.nil ?_))));cases h;exact WQ.next [] ((IntKind.i64.wrap (i3 + (1 : Int))), (if v5 > best2 then v5 else best2)) sub (hn2 _ hf2)
    ·refine WC.exit (WQ.thenExit ?_);cases h;obtain rfl := he2 _ hf2;replace h := hk2;try dsimp only at h
     refine eb ?_;exact WQ.cut [] best2 sub h
   ·intro best h;try dsimp only at h;unfold rSpecific_j2 at h;try dsimp only
    refine sr (lr1 rfl (nn (WC.seq (sr (lr1 rfl (nn ?_))))));refine WC.thenCut (X := (List YB)) (fun gG => ⟨[(12, .r 1012)], [(1012, .row 53 5 (gG.map eC))]⟩) (fun gG => rSpecific_j3 gG = some r) ?_ ?_
    ·refine WC.block ?_;obtain ⟨eQ1, hl1, hk1⟩ := bnd h;clear h;refine WC.rowNil 12 1012 53 5 rfl rfl ?_;refine WC.loop (σ := Int × (List YB)) (τ := ((List YB))) (fun sS => ⟨[(13, iv sS.1), (12, .r 1012), (10, iv best), (9, .v (.sl 1 (w1.map eStr))), (4, .p 4 0), (3, .v (.sl 5 (c.map eC)))], [(1012, .row 53 5 (sS.2.map eC)), (4, .blk 26 (kv (eF b)))]⟩) (rSpecific_b1 b c w1 best) [] ((0 : Int), []) hl1 sub ?_;rintro ⟨i2, out3⟩ m hn1 he1 hx1;obtain ⟨o1, hf1⟩ := zQ1 hx1;have h := hf1;unfold rSpecific_b1 at h;try dsimp only
     refine WC.seq (sr (lr2 rfl ?_));refine WL.q [] rfl rfl rfl (q_ev tbOk (iv (c.length : Int)) rfl tr lenT) ?_;refine lr1 rfl (nn ?_);revert h;refine ci (fun hc2 h => ?_) (fun hc2 h => ?_)
     ·refine kn (WC.seq ?_);refine WC.thenCut (X := (List YB)) (fun gG => ⟨[(12, .r 1012), (13, iv i2), (10, iv best), (9, .v (.sl 1 (w1.map eStr))), (4, .p 4 0), (3, .v (.sl 5 (c.map eC)))], [(1012, .row 53 5 (gG.map eC)), (4, .blk 26 (kv (eF b)))]⟩) (fun gG => rSpecific_j4 b c w1 best i2 gG = some o1) ?_ ?_
      ·refine WC.block (WC.seq (WC.order mixed ?_));refine wr 3 rfl trivial ?_;obtain ⟨g1, h⟩ := grd h;revert h;refine zb fun x5 hxx5 h => ?_;refine WR.q [] rfl rfl rfl (q_idx tbOk rfl tr g1 (zM1 (f := eC) hxx5)) ?_;refine wr 2 rfl trivial ?_;revert h;refine zb fun v3 hvv3 h => ?_;refine WR.call0 fn133 rfl rfl rfl rfl tr rfl (refScore_con hw hvv3) ?_;refine wr 2 rfl trivial ?_;refine WR.nil (by kernel_rfl) (WQ.thenNormal ?_);revert h;refine ci (fun hc3 h => ?_) (fun hc3 h => ?_)
       ·refine WC.region (lr3 rfl ?_);obtain ⟨g2, h⟩ := grd h;revert h;refine zb fun x6 hxx6 h => ?_;refine WL.q [] rfl rfl rfl (q_idx tbOk rfl tr g2 (zM1 (f := eC) hxx6)) ?_;refine lr2 rfl ?_;obtain ⟨g3, h⟩ := grd h;refine WL.append tbOk ((out3 ++ [x6]).map eC) [67, 1012] ap23 rfl rfl rfl rfl ce tr (zL1 (f := eC) (xs := [x6]) fun _ => rfl) (al g3) rfl rfl ma rfl ?_;refine lr1 rfl (WL.nil (WQ.blockNormal ?_));exact WQ.cut [(1012, 67)] (out3 ++ [x6]) sub h
       ·refine WC.skip (WQ.blockNormal ?_);exact WQ.cut [] out3 sub h
      ·intro out6 h;try dsimp only at h;unfold rSpecific_j4 at h;try dsimp only
       refine WC.region (lr3 rfl (WL.nil ?_));cases h;exact WQ.next [] ((IntKind.i64.wrap (i2 + (1 : Int))), out6) sub (hn1 _ hf1)
     ·refine WC.exit (WQ.thenExit ?_);cases h;obtain rfl := he1 _ hf1;replace h := hk1;try dsimp only at h
      refine eb ?_;exact WQ.cut [] out3 sub h
    ·intro out h;try dsimp only at h;unfold rSpecific_j3 at h;try dsimp only
     refine sr (lr2 rfl (nr ?_));refine WQ.publish 1012 rfl rfl ?_;cases h;exact rt tbOk hR
theorem rEssential_con {wg : World} (hw : WG wg) {b : YE} {g : YR} {c : (List YB)} {r : (List YB) × Bool} (h : rEssential b g c = some r) : Con Tryz.prog wg gl 84 [.v (.agg (eF b)), .v (.agg (eS g)), .v (.sl 5 (c.map eC))] [] (.tup [.v (.sl 5 (r.1.map eC)), ov r.2]) [] := by
 unfold rEssential at h;refine cw Tryz.func84 Tryz.ntmps84 ?_;intro F L w ρ0 R hR;try dsimp only [zP1]
 refine sr (lr4 rfl (ns (lr1 rfl ?_)));revert h;refine zb fun v hvv h => ?_;refine WL.call0 fn136 rfl rfl rfl rfl tr rfl (refCharacters_con hw hvv) ?_;refine lr1 rfl (nn (WC.seq (sr (lr1 rfl (nn ?_)))));refine WC.thenCut (X := Unit) (fun gG => ⟨[(2, .v (.sl 5 (c.map eC)))], []⟩) (fun gG => rEssential_j1 c = some r) ?_ ?_
 ·refine WC.block ?_;obtain ⟨eQ1, hl1, hk1⟩ := bnd h;clear h;refine WC.loop (σ := Int) (τ := (((List YB) × Bool) ⊕ (Unit))) (fun sS => ⟨[(9, iv sS), (8, .v (.sl 2 (v.map eJ))), (3, .p 3 0), (2, .v (.sl 5 (c.map eC)))], [(3, .blk 26 (kv (eF b)))]⟩) (rEssential_b1 b c v) [] (0 : Int) hl1 sub ?_;intro i m hn1 he1 hx1;obtain ⟨o1, hf1⟩ := zQ1 hx1;have h := hf1;unfold rEssential_b1 at h;try dsimp only
  refine WC.seq (sr (lr2 rfl ?_));refine WL.q [] rfl rfl rfl (q_ev tbOk (iv (v.length : Int)) rfl tr lenT) ?_;refine lr1 rfl (nn ?_);revert h;refine ci (fun hc1 h => ?_) (fun hc1 h => ?_)
  ·refine kn (WC.seq ?_);refine WC.thenCut (X := Unit) (fun gG => ⟨[(9, iv i), (8, .v (.sl 2 (v.map eJ))), (3, .p 3 0), (2, .v (.sl 5 (c.map eC)))], [(3, .blk 26 (kv (eF b)))]⟩) (fun gG => rEssential_j2 b c v i = some o1) ?_ ?_
   ·refine WC.block (sr (lr1 rfl (nn (WC.seq (sr (lr1 rfl (nn ?_)))))));refine WC.thenCut (X := (List YB)) (fun gG => ⟨[(10, .r 1010), (9, iv i), (8, .v (.sl 2 (v.map eJ))), (3, .p 3 0), (2, .v (.sl 5 (c.map eC)))], [(1010, .row 53 5 (gG.map eC)), (3, .blk 26 (kv (eF b)))]⟩) (fun gG => rEssential_j3 b c v i gG = some o1) ?_ ?_
    ·refine WC.block ?_;obtain ⟨eQ2, hl2, hk2⟩ := bnd h;clear h;refine WC.rowNil 10 1010 53 5 rfl rfl ?_;refine WC.loop (σ := Int × (List YB)) (τ := ((List YB))) (fun sS => ⟨[(11, iv sS.1), (10, .r 1010), (9, iv i), (8, .v (.sl 2 (v.map eJ))), (3, .p 3 0), (2, .v (.sl 5 (c.map eC)))], [(1010, .row 53 5 (sS.2.map eC)), (3, .blk 26 (kv (eF b)))]⟩) (rEssential_b2 b c v i) [] ((0 : Int), []) hl2 sub ?_;rintro ⟨k4, out9⟩ m hn2 he2 hx2;obtain ⟨o2, hf2⟩ := zQ1 hx2;have h := hf2;unfold rEssential_b2 at h;try dsimp only
     refine WC.seq (sr (lr2 rfl ?_));refine WL.q [] rfl rfl rfl (q_ev tbOk (iv (c.length : Int)) rfl tr lenT) ?_;refine lr1 rfl (nn ?_);revert h;refine ci (fun hc3 h => ?_) (fun hc3 h => ?_)
     ·refine kn (WC.seq ?_);refine WC.thenCut (X := (List YB)) (fun gG => ⟨[(10, .r 1010), (11, iv k4), (9, iv i), (8, .v (.sl 2 (v.map eJ))), (3, .p 3 0), (2, .v (.sl 5 (c.map eC)))], [(1010, .row 53 5 (gG.map eC)), (3, .blk 26 (kv (eF b)))]⟩) (fun gG => rEssential_j4 b c v i k4 gG = some o2) ?_ ?_
      ·refine WC.block (WC.seq (WC.order mixed ?_));refine wr 3 rfl trivial ?_;obtain ⟨g1, h⟩ := grd h;revert h;refine zb fun x16 hxx16 h => ?_;refine WR.q [] rfl rfl rfl (q_idx tbOk rfl tr g1 (zM1 (f := eC) hxx16)) ?_;refine wr 3 rfl trivial ?_;obtain ⟨g2, h⟩ := grd h;revert h;refine zb fun x17 hxx17 h => ?_;refine WR.q [] rfl rfl rfl (q_idx tbOk rfl tr g2 (zM1 (f := eJ) hxx17)) ?_;refine wr 2 rfl trivial ?_;revert h;refine zb fun v7 hvv7 h => ?_;refine WR.call0 fn133 rfl rfl rfl rfl tr rfl (refScore_con hw hvv7) ?_;refine wr 1 rfl trivial ?_;refine WR.nil (by kernel_rfl) (WQ.thenNormal ?_);revert h;refine ci (fun hc4 h => ?_) (fun hc4 h => ?_)
       ·refine WC.region (lr3 rfl ?_);obtain ⟨g3, h⟩ := grd h;revert h;refine zb fun x18 hxx18 h => ?_;refine WL.q [] rfl rfl rfl (q_idx tbOk rfl tr g3 (zM1 (f := eC) hxx18)) ?_;refine lr2 rfl ?_;obtain ⟨g4, h⟩ := grd h;refine WL.append tbOk ((out9 ++ [x18]).map eC) [44, 1010] ap23 rfl rfl rfl rfl ce tr (zL1 (f := eC) (xs := [x18]) fun _ => rfl) (al g4) rfl rfl ma rfl ?_;refine lr1 rfl (WL.nil (WQ.blockNormal ?_));exact WQ.cut [(1010, 44)] (out9 ++ [x18]) sub h
       ·refine WC.skip (WQ.blockNormal ?_);exact WQ.cut [] out9 sub h
      ·intro out12 h;try dsimp only at h;unfold rEssential_j4 at h;try dsimp only
       refine WC.region (lr3 rfl (WL.nil ?_));cases h;exact WQ.next [] ((IntKind.i64.wrap (k4 + (1 : Int))), out12) sub (hn2 _ hf2)
     ·refine WC.exit (WQ.thenExit ?_);cases h;obtain rfl := he2 _ hf2;replace h := hk2;try dsimp only at h
      refine eb ?_;exact WQ.cut [] out9 sub h
    ·intro out7 h;try dsimp only at h;unfold rEssential_j3 at h;try dsimp only
     refine sr (lr1 rfl ?_);refine WL.q [1010] rfl rfl rfl (q_ev tbOk (iv (out7.length : Int)) rfl tr lenT) ?_;refine lr1 rfl (nn ?_);revert h;refine ci (fun hc2 h => ?_) (fun hc2 h => ?_)
     ·refine sr (lr3 rfl (nr (rb ?_)));cases h;obtain rfl := he1 _ hf1;have h : some (out7, true) = some _ := hk1;refine WQ.thenRet (rb ?_);refine WQ.publish 1010 rfl rfl ?_;cases h;exact WQ.rets tbOk (r := .tup [.v (.sl 5 (out7.map eC)), ov true]) hR [] (.inl rfl) rfl rfl (Le.tup (.cons (Le.refl _) (.cons (Le.refl _) .nil))) tr rfl rfl rfl rfl
     ·refine WC.skip (WQ.blockNormal ?_);exact WQ.cut [] () sub h
   ·intro _ h;try dsimp only at h;unfold rEssential_j2 at h;try dsimp only
    refine WC.region (lr3 rfl (WL.nil ?_));cases h;exact WQ.next [] (IntKind.i64.wrap (i + (1 : Int))) sub (hn1 _ hf1)
  ·refine WC.exit (WQ.thenExit ?_);cases h;obtain rfl := he1 _ hf1;replace h := hk1;try dsimp only at h
   refine eb ?_;exact WQ.cut [] () sub h
 ·intro _ h;try dsimp only at h;unfold rEssential_j1 at h;try dsimp only
  refine sr (lr3 rfl (nr ?_));cases h;exact WQ.rets tbOk (r := .tup [.v (.sl 5 (c.map eC)), ov false]) hR [] (.inl rfl) rfl rfl (Le.tup (.cons (Le.refl _) (.cons (Le.refl _) .nil))) tr rfl rfl rfl rfl
theorem rReduce_con {wg : World} (hw : WG wg) {b : YE} {g : YR} {basis : Int} {c : (List YB)} {r : Int × YB} (h : rReduce b g basis c = some r) : Con Tryz.prog wg gl 37 [.v (.agg (eF b)), .v (.agg (eS g)), iv basis, .v (.sl 5 (c.map eC))] [] (.tup [iv r.1, .v (.agg (eC r.2))]) [] := by
 unfold rReduce at h;refine cw Tryz.func37 Tryz.ntmps37 ?_;intro F L w ρ0 R hR;try dsimp only [zP1]
 refine sr (lr4 rfl (nn (WC.seq (sr (lr1 rfl ?_)))));refine WL.q [] rfl rfl rfl (q_ev tbOk (iv (c.length : Int)) rfl tr lenT) ?_;refine lr 9 rfl sideR ?_;refine nn ?_;revert h;refine ci (fun hc1 h => ?_) (fun hc1 h => ?_)
 ·refine WC.seq (WC.order mixed ?_);refine wr 3 rfl trivial ?_;refine WR.q [] rfl rfl rfl (q_ev tbOk (iv (c.length : Int)) rfl tr lenT) ?_;refine wr 1 rfl trivial ?_;obtain ⟨g1, h⟩ := grd h;revert h;refine zb fun x hxx h => ?_;refine WR.q [] rfl rfl rfl (q_idx tbOk rfl tr g1 (zM1 (f := eC) hxx)) ?_;refine wr 3 rfl trivial ?_;refine WR.nil (by kernel_rfl) (WQ.thenNormal (WC.ret (WQ.thenRet ?_)));cases h;exact WQ.rets tbOk (r := .tup [iv basis, .v (.agg (eC x))]) hR [] (.inl rfl) rfl rfl (Le.tup (.cons (Le.refl _) (.cons (Le.refl _) .nil))) tr rfl rfl rfl rfl
 ·refine kn (sr (lr4 rfl ?_));revert h;refine zb fun v hvv h => ?_;refine WL.call0 fn83 rfl rfl rfl rfl tr rfl (rSpecific_con hw hvv) ?_;refine lr1 rfl (nn (WC.seq (sr (lr1 rfl ?_))));refine WL.q [] rfl rfl rfl (q_ev tbOk (iv (v.length : Int)) rfl tr lenT) ?_;refine lr 9 rfl sideR ?_;refine nn ?_;revert h;refine ci (fun hc2 h => ?_) (fun hc2 h => ?_)
  ·refine WC.seq (WC.order mixed ?_);refine wr 1 rfl trivial ?_;revert h;refine zb fun x2 hxx2 h => ?_;refine WR.q [] rfl rfl rfl (q_idx tbOk rfl tr (by decide) (zM1 (f := eC) hxx2)) ?_;refine wr 3 rfl trivial ?_;refine WR.nil (by kernel_rfl) (WQ.thenNormal (WC.ret (WQ.thenRet ?_)));cases h;exact WQ.rets tbOk (r := .tup [iv (4 : Int), .v (.agg (eC x2))]) hR [] (.inl rfl) rfl rfl (Le.tup (.cons (Le.refl _) (.cons (Le.refl _) .nil))) tr rfl rfl rfl rfl
  ·refine kn (sr (lr3 rfl ?_));revert h;refine zb fun v2 hvv2 h => ?_;refine WL.call0 fn84 rfl rfl rfl rfl tr rfl (rEssential_con hw hvv2) ?_;refine lr5 rfl (nn (WC.seq (sr ?_)));refine lr 3 rfl sideR ?_;refine WL.gq [] rfl rfl rfl rfl (fun hg => q_ev tbOk (iv (v2.1.length : Int)) rfl sideR lenT) ?_;refine lr 2 rfl sideR ?_;refine nn ?_;revert h;refine ci (fun hc3 h => ?_) (fun hc3 h => ?_)
   ·refine WC.seq (WC.order mixed ?_);refine wr 1 rfl trivial ?_;revert h;refine zb fun x3 hxx3 h => ?_;refine WR.q [] rfl rfl rfl (q_idx tbOk rfl tr (by decide) (zM1 (f := eC) hxx3)) ?_;refine wr 3 rfl trivial ?_;refine WR.nil (by kernel_rfl) (WQ.thenNormal (WC.ret (WQ.thenRet ?_)));cases h;exact WQ.rets tbOk (r := .tup [iv (5 : Int), .v (.agg (eC x3))]) hR [] (.inl rfl) rfl rfl (Le.tup (.cons (Le.refl _) (.cons (Le.refl _) .nil))) tr rfl rfl rfl rfl
   ·refine kn (WC.seq (WC.order mixed ?_));refine wr 2 rfl trivial ?_;refine WR.q [] rfl rfl rfl (q_ev tbOk (iv (v2.1.length : Int)) rfl tr lenT) ?_;refine wr 1 rfl trivial ?_;obtain ⟨g2, h⟩ := grd h;revert h;refine zb fun x4 hxx4 h => ?_;refine WR.q [] rfl rfl rfl (q_idx tbOk rfl tr g2 (zM1 (f := eC) hxx4)) ?_;refine wr 3 rfl trivial ?_;refine WR.nil (by kernel_rfl) (WQ.thenNormal (WC.ret ?_));cases h;exact WQ.rets tbOk (r := .tup [iv (6 : Int), .v (.agg (eC x4))]) hR [] (.inl rfl) rfl rfl (Le.tup (.cons (Le.refl _) (.cons (Le.refl _) .nil))) tr rfl rfl rfl rfl
theorem rCodes_con {wg : World} (hw : WG wg) {l : (List YB)} {r : (List Str)} (h : rCodes l = some r) : Con Tryz.prog wg gl 38 [.v (.sl 5 (l.map eC))] [] (.v (.sl 1 (r.map eStr))) [] := by
 unfold rCodes at h;refine cw Tryz.func38 Tryz.ntmps38 ?_;intro F L w ρ0 R hR;try dsimp only [zP1]
 refine sr (lr1 rfl (ns (lr1 rfl (nn (WC.seq (sr (lr1 rfl (nn ?_))))))));refine WC.thenCut (X := (List Str)) (fun gG => ⟨[(3, .r 1003)], [(1003, .row 9 1 (gG.map eStr))]⟩) (fun gG => rCodes_j1 gG = some r) ?_ ?_
 ·refine WC.block ?_;obtain ⟨eQ1, hl1, hk1⟩ := bnd h;clear h;refine WC.rowNil 3 1003 9 1 rfl rfl ?_;refine WC.loop (σ := Int × (List Str)) (τ := ((List Str))) (fun sS => ⟨[(4, iv sS.1), (3, .r 1003), (0, .v (.sl 5 (l.map eC)))], [(1003, .row 9 1 (sS.2.map eStr))]⟩) (rCodes_b1 l) [] ((0 : Int), []) hl1 sub ?_;rintro ⟨i2, out2⟩ m hn1 he1 hx1;obtain ⟨o1, hf1⟩ := zQ1 hx1;have h := hf1;unfold rCodes_b1 at h;try dsimp only
  refine WC.seq (sr (lr2 rfl ?_));refine WL.q [] rfl rfl rfl (q_ev tbOk (iv (l.length : Int)) rfl tr lenT) ?_;refine lr1 rfl (nn ?_);revert h;refine ci (fun hc1 h => ?_) (fun hc1 h => ?_)
  ·refine kn (sb (WC.region (lr3 rfl ?_)));obtain ⟨g1, h⟩ := grd h;revert h;refine zb fun x3 hxx3 h => ?_;refine WL.q [] rfl rfl rfl (q_idx tbOk rfl tr g1 (zM1 (f := eC) hxx3)) ?_;refine lr3 rfl ?_;obtain ⟨g2, h⟩ := grd h;refine WL.append tbOk ((out2 ++ [x3.Code]).map eStr) [18, 1003] ap28 rfl rfl rfl rfl ce tr (zL1 (f := eStr) (xs := [x3.Code]) fun _ => rfl) (al g2) rfl rfl ma rfl ?_;refine lr1 rfl (WL.nil (bn (WC.region (lr3 rfl (WL.nil ?_)))));cases h;exact WQ.next [(1003, 18)] ((IntKind.i64.wrap (i2 + (1 : Int))), (out2 ++ [x3.Code])) sub (hn1 _ hf1)
  ·refine WC.exit (WQ.thenExit ?_);cases h;obtain rfl := he1 _ hf1;replace h := hk1;try dsimp only at h
   refine eb ?_;exact WQ.cut [] out2 sub h
 ·intro out h;try dsimp only at h;unfold rCodes_j1 at h;try dsimp only
  refine sr (lr2 rfl (nr ?_));refine WQ.publish 1003 rfl rfl ?_;cases h;exact rt tbOk hR
theorem rClassify_con {wg : World} (hw : WG wg) {b : YE} {day : Int} {g : YR} {r : Str × (List YL) × Int} (h : rClassify b day g = some r) : Con Tryz.prog wg gl 16 [.v (.agg (eF b)), iv day, .v (.agg (eS g))] [] (.tup [tv r.1, .v (.sl 5 (r.2.1.map eM)), iv r.2.2]) [] := by
 unfold rClassify at h;refine cw Tryz.func16 Tryz.ntmps16 ?_;intro F L w ρ0 R hR;try dsimp only [zP1]
 refine sr (lr5 rfl (nn (WC.seq (sr (lr1 rfl ?_)))));revert h;refine zb fun v hvv h => ?_;refine WL.call0 fn34 rfl rfl rfl rfl tr rfl (refBook_con hw hvv) ?_;refine lr1 rfl (ns (lr2 rfl (nn ?_)));revert h;refine ci (fun hc1 h => ?_) (fun hc1 h => ?_)
 ·refine sr (lr4 rfl (nr (WQ.thenRet ?_)));cases h;exact WQ.rets tbOk (r := .tup [tv ([] : Str), .v (.sl 5 ([].map eM)), iv v]) hR [] (.inl rfl) rfl rfl (Le.tup (.cons (Le.refl _) (.cons (Le.nil 5) (.cons (Le.refl _) .nil)))) tr rfl rfl rfl rfl
 ·refine kn (WC.seq (sr (lr1 rfl ?_)));revert h;refine zb fun v2 hvv2 h => ?_;refine WL.call0 fn35 rfl rfl rfl rfl tr rfl (refGood_con hw hvv2) ?_;refine lr1 rfl (ns (lr2 rfl (nn ?_)));revert h;refine ci (fun hc2 h => ?_) (fun hc2 h => ?_)
  ·refine sr (lr4 rfl (nr (WQ.thenRet ?_)));cases h;exact WQ.rets tbOk (r := .tup [tv ([] : Str), .v (.sl 5 ([].map eM)), iv v2]) hR [] (.inl rfl) rfl rfl (Le.tup (.cons (Le.refl _) (.cons (Le.nil 5) (.cons (Le.refl _) .nil)))) tr rfl rfl rfl rfl
  ·refine kn (WC.seq (sr ?_));refine lr 6 rfl sideR ?_;refine nn ?_;revert h;refine ci (fun hc3 h => ?_) (fun hc3 h => ?_)
   ·refine sr (lr3 rfl (nr (WQ.thenRet ?_)));cases h;exact WQ.rets tbOk (r := .tup [tv ([] : Str), .v (.sl 5 ([].map eM)), iv (2 : Int)]) hR [] (.inl rfl) rfl rfl (Le.tup (.cons (Le.refl _) (.cons (Le.nil 5) (.cons (Le.refl _) .nil)))) tr rfl rfl rfl rfl
   ·refine kn (sr (lr1 rfl (ns (lr1 rfl (nn (WC.seq ?_))))));refine WC.thenCut (X := (List YL) × Str) (fun gG => ⟨[(12, .r 1012), (11, tv gG.2)], [(1012, .row 45 5 (gG.1.map eM))]⟩) (fun gG => rClassify_j1 gG.1 gG.2 = some r) ?_ ?_
    ·refine WC.block ?_;obtain ⟨eQ1, hl1, hk1⟩ := bnd h;clear h;refine WC.rowNil 12 1012 45 5 rfl rfl ?_;refine WC.loop (σ := (List YL) × Str) (τ := ((List YL) × Str)) (fun sS => ⟨[(12, .r 1012), (11, tv sS.2), (5, .p 5 0), (3, .p 3 0), (1, iv day)], [(1012, .row 45 5 (sS.1.map eM)), (3, .blk 26 (kv (eF b))), (5, .blk 32 (kv (eS g)))]⟩) (rClassify_b1 b day g) [] ([], ([] : Str)) hl1 sub ?_;rintro ⟨steps2, code3⟩ m hn1 he1 hx1;obtain ⟨o1, hf1⟩ := zQ1 hx1;have h := hf1;unfold rClassify_b1 at h;try dsimp only
     refine WC.block (sr (lr4 rfl ?_));revert h;refine zb fun v9 hvv9 h => ?_;refine WL.call0 fn36 rfl rfl rfl rfl tr rfl (rBasis_con hw hvv9) ?_;refine lr5 rfl (nn (WC.seq (sr (lr1 rfl ?_))));refine WL.q [] rfl rfl rfl (q_ev tbOk (iv (v9.2.length : Int)) rfl tr lenT) ?_;refine lr1 rfl (nn ?_);revert h;refine ci (fun hc5 h => ?_) (fun hc5 h => ?_)
     ·refine WC.exit (WQ.thenExit ?_);refine WQ.blockPass rfl ?_;cases h;obtain rfl := he1 _ hf1;replace h := hk1;try dsimp only at h
      refine eb ?_;exact WQ.cut [] (steps2, code3) sub h
     ·refine kn (sr (lr4 rfl ?_));revert h;refine zb fun v10 hvv10 h => ?_;refine WL.call0 fn37 rfl rfl rfl rfl tr rfl (rReduce_con hw hvv10) ?_;refine lr6 rfl (nn (WC.seq (WC.order mixed ?_)));refine wr 4 rfl trivial ?_;revert h;refine zb fun v11 hvv11 h => ?_;refine WR.call0 fn38 rfl rfl rfl rfl tr rfl (rCodes_con hw hvv11) ?_;refine wr 5 rfl trivial ?_;obtain ⟨g1, h⟩ := grd h;refine WR.append tbOk ((steps2 ++ [(⟨code3, v9.1, v11, v10.1, v10.2.Code⟩ : YL)]).map eM) [62, 1012] ap34 rfl rfl rfl rfl ce tr (zL1 (f := eM) (xs := [(⟨code3, v9.1, v11, v10.1, v10.2.Code⟩ : YL)]) fun _ => rfl) (al g1) rfl rfl ma rfl rfl ?_;refine wr 1 rfl trivial ?_;refine WR.nil (by kernel_rfl) (WQ.thenNormal (WC.region (lr3 rfl (WL.nil (WQ.blockNormal ?_)))));cases h;exact WQ.next [(1012, 62)] ((steps2 ++ [(⟨code3, v9.1, v11, v10.1, v10.2.Code⟩ : YL)]), v10.2.Code) sub (hn1 _ hf1)
    ·rintro ⟨steps, code⟩ h;try dsimp only at h;unfold rClassify_j1 at h;try dsimp only
     refine WC.seq (sr (lr2 rfl (nn ?_)));revert h;refine ci (fun hc4 h => ?_) (fun hc4 h => ?_)
     ·refine sr (lr3 rfl (nr (WQ.thenRet ?_)));cases h;exact WQ.rets tbOk (r := .tup [tv ([] : Str), .v (.sl 5 ([].map eM)), iv (7 : Int)]) hR [] (.inl rfl) rfl rfl (Le.tup (.cons (Le.refl _) (.cons (Le.nil 5) (.cons (Le.refl _) .nil)))) tr rfl rfl rfl rfl
     ·refine kn (sr (lr5 rfl (nr ?_)));refine WQ.publish 1012 rfl rfl ?_;cases h;exact WQ.rets tbOk (r := .tup [tv code, .v (.sl 5 (steps.map eM)), iv (0 : Int)]) hR [] (.inl rfl) rfl rfl (Le.tup (.cons (Le.refl _) (.cons (Le.refl _) (.cons (Le.refl _) .nil)))) tr rfl rfl rfl rfl
theorem sameStep_con {wg : World} (hw : WG wg) {a : YL} {b : YL} {r : Bool} (h : sameStep a b = some r) : Con Tryz.prog wg gl 39 [.v (.agg (eM a)), .v (.agg (eM b))] [] (ov r) [] := by
 unfold sameStep at h;refine cw Tryz.func39 Tryz.ntmps39 ?_;intro F L w ρ0 R hR;try dsimp only [zP1]
 refine sr (lr3 rfl (ns ?_));refine lr 31 rfl sideR ?_;revert h;refine zb fun v hvv h => ?_;refine WL.gcall0 fn85 rfl rfl rfl rfl rfl (fun _ => sideR) rfl (fun hg => (sameStrings_con hw (ite_t hg hvv))) ?_;refine lr 2 rfl sideR ?_;refine nr ?_;cases h;exact rt tbOk hR
theorem sameSteps_con {wg : World} (hw : WG wg) {a : (List YL)} {b : (List YL)} {r : Bool} (h : sameSteps a b = some r) : Con Tryz.prog wg gl 19 [.v (.sl 5 (a.map eM)), .v (.sl 5 (b.map eM))] [] (ov r) [] := by
 unfold sameSteps at h;refine cw Tryz.func19 Tryz.ntmps19 ?_;intro F L w ρ0 R hR;try dsimp only [zP1]
 refine sr (lr1 rfl (nn (WC.seq (sr (lr1 rfl ?_)))));refine WL.q [] rfl rfl rfl (q_ev tbOk (iv (a.length : Int)) rfl tr lenT) ?_;refine lr1 rfl ?_;refine WL.q [] rfl rfl rfl (q_ev tbOk (iv (b.length : Int)) rfl tr lenT) ?_;refine lr1 rfl (nn ?_);revert h;refine ci (fun hc1 h => ?_) (fun hc1 h => ?_)
 ·refine sr (lr1 rfl (nr (WQ.thenRet ?_)));cases h;exact rt tbOk hR
 ·refine kn (WC.seq (sr (lr1 rfl (nn ?_))));refine WC.thenCut (X := Unit) (fun gG => ⟨[], []⟩) (fun gG => sameSteps_j1  = some r) ?_ ?_
  ·refine WC.block ?_;obtain ⟨eQ1, hl1, hk1⟩ := bnd h;clear h;refine WC.loop (σ := Int) (τ := ((Bool) ⊕ (Unit))) (fun sS => ⟨[(5, iv sS), (0, .v (.sl 5 (a.map eM))), (1, .v (.sl 5 (b.map eM)))], []⟩) (sameSteps_b1 a b) [] (0 : Int) hl1 sub ?_;intro i m hn1 he1 hx1;obtain ⟨o1, hf1⟩ := zQ1 hx1;have h := hf1;unfold sameSteps_b1 at h;try dsimp only
   refine WC.seq (sr (lr2 rfl ?_));refine WL.q [] rfl rfl rfl (q_ev tbOk (iv (a.length : Int)) rfl tr lenT) ?_;refine lr1 rfl (nn ?_);revert h;refine ci (fun hc2 h => ?_) (fun hc2 h => ?_)
   ·refine kn (sb (WC.seq (WC.order mixed ?_)));refine wr 2 rfl trivial ?_;obtain ⟨g1, h⟩ := grd h;revert h;refine zb fun x3 hxx3 h => ?_;refine WR.q [] rfl rfl rfl (q_idx tbOk rfl tr g1 (zM1 (f := eM) hxx3)) ?_;refine wr 3 rfl trivial ?_;obtain ⟨g2, h⟩ := grd h;revert h;refine zb fun x4 hxx4 h => ?_;refine WR.q [] rfl rfl rfl (q_idx tbOk rfl tr g2 (zM1 (f := eM) hxx4)) ?_;refine wr 1 rfl trivial ?_;revert h;refine zb fun v2 hvv2 h => ?_;refine WR.call0 fn39 rfl rfl rfl rfl tr rfl (sameStep_con hw hvv2) ?_;refine wr 1 rfl trivial ?_;refine WR.nil (by kernel_rfl) (WQ.thenNormal ?_);revert h;refine ci (fun hc3 h => ?_) (fun hc3 h => ?_)
    ·refine sr (lr1 rfl (nr (rb ?_)));cases h;obtain rfl := he1 _ hf1;have h : some false = some _ := hk1;refine WQ.thenRet (rb ?_);cases h;exact rt tbOk hR
    ·refine WC.skip (bn (WC.region (lr3 rfl (WL.nil ?_))));cases h;exact WQ.next [] (IntKind.i64.wrap (i + (1 : Int))) sub (hn1 _ hf1)
   ·refine WC.exit (WQ.thenExit ?_);cases h;obtain rfl := he1 _ hf1;replace h := hk1;try dsimp only at h
    refine eb ?_;exact WQ.cut [] () sub h
  ·intro _ h;try dsimp only at h;unfold sameSteps_j1 at h;try dsimp only
   refine sr (lr1 rfl (nr ?_));cases h;exact rt tbOk hR
end Go.Proofs.YtaeplfiaahkgpaaGreatDoor
end zCp
noncomputable section zHo
set_option linter.unusedVariables false
set_option linter.unusedSimpArgs false
namespace Go.Proofs.YtaeplfiaahkgpaaGreatDoor
open Go.V Go.C Go.RowKit
theorem commonP_con {wg : World} (hw : WG wg) {a b : List Str} {r : Int} (h : commonP a b = some r) : Con Tryz.prog wg gl 150 [.v (.sl 1 (a.map eStr)), .v (.sl 1 (b.map eStr))] [] (.v (.int .i64 r)) [] := by
 unfold commonP at h
 split at h
 ·exact commonS_con hw h
 ·exact commonB_con hw h
theorem cloneR_con {wg : World} (hw : WG wg) {l r : List Str} (h : cloneR l = some r) : Con Tryz.prog wg gl 119 [.v (.sl 1 (l.map eStr))] [] (.r 500) [(500, .row 9 1 (r.map eStr))] := by
 unfold cloneR at h
 split at h
 case isFalse => cases h
 rename_i hn
 cases h
 intro w ρ F L vals hlow hdis hext hglob hobs hargs
 simp only [VReps, VRep, Rep] at hargs
 obtain ⟨_, _, rfl, ⟨base, cap, rfl, h2, h3, h4⟩, rfl⟩ := hargs
 have fin : ∀ (v' : Value) (w' : World), w'.ownsRow w.heap.size 9 1 v' l.length (l.map fun s => Value.string ⟨⟨s⟩⟩) → Below w.heap.size w w' →
   ∃ v ρ' L', Ending.returned v' = .returned v ∧ VRep (nmO [(500, Ob.row 9 1 (l.map eStr))]) ρ' w' (un F L') (.r 500) v ∧ ObsOk [(500, Ob.row 9 1 (l.map eStr))] ρ' w' (un F L') L' ∧ Step L w L' w' ∧ (∀ b, L' b → b < w'.heap.size) ∧ ∀ k v, get (pinsOf ρ []) k = some v → nmO [(500, Ob.row 9 1 (l.map eStr))] k → ρ' k = v := fun v' w' ho hb => by
  refine ⟨v', upd ρ 500 v', fun b => L b ∨ ob v' = some b, rfl, by simp only [VRep]; exact ⟨nmO_self, by rw [upd_self]⟩, obs_one ?_, ⟨hb.os, hb.tape, hb.output, hb.size, fun b h1 _ => hb.block b h1, fun b h => ?_⟩, fun b h => ?_, fun k v h => by cases h⟩
  ·rw [upd_self]
   refine ⟨_, reps_strs2 l, fun r hr => ?_, ?_, fun b h => .inr h⟩
   ·obtain ⟨s, _, rfl⟩ := List.mem_map.1 hr; rfl
   ·rw [flat_strs, List.length_map]; exact OwnsR.of ho
  ·rcases h with h | h
   ·exact .inl h
   ·rcases ho.2 with ⟨e, _⟩ | ⟨g, cap, cur, e, hge, _⟩
    ·rw [e] at h; simp [ob] at h
    ·rw [e] at h; simp only [ob, Option.some.injEq] at h; subst h; exact .inr hge
  ·rcases h with h | h
   ·exact Nat.lt_of_lt_of_le (hlow b (.inr h)) hb.size
   ·rcases ho.2 with ⟨e, _⟩ | ⟨g, cap, cur, e, _, hg, _⟩
    ·rw [e] at h; simp [ob] at h
    ·rw [e] at h; simp only [ob, Option.some.injEq] at h; subst h; exact (Array.getElem?_eq_some_iff.1 hg).1
 cases hb : base with
 | none =>
  have := h3 hb
  simp only [List.map_eq_nil_iff] at this
  subst this
  refine (Tryz.slices_Clone_string_nil 0 cap w).mono ?_
  rintro e w' ⟨rfl, rfl⟩
  exact fin _ _ ⟨by simp, .inl ⟨rfl, rfl⟩⟩ (Below.refl _ _)
 | some ad =>
  by_cases hl : l = []
  ·subst hl
   refine (Tryz.slices_Clone_string_zero ad cap w).mono ?_
   rintro e w' ⟨v', rfl, ho, _, hbel⟩
   exact fin _ _ ho hbel
  ·obtain ⟨h5, h6, h7, h8⟩ := h4 ad hb (by simpa using hl)
   obtain ⟨b, o, q⟩ := ad
   simp only at h5; subst h5
   have hcells := reps_strs h8
   rw [List.length_map]
   refine (Tryz.slices_Clone_string b o l.length cap (l.map fun s => (⟨⟨s⟩⟩ : ByteArray)) w (by simp) hn (fun j hj => by
    have := hcells j ((l.map fun s => (⟨⟨s⟩⟩ : ByteArray))[j]) (by simp)
    rw [this]; simp [List.getD_eq_getElem?_getD, List.getElem?_eq_getElem hj])).mono ?_
   rintro e w' ⟨v', rfl, ho, _, hbel⟩
   have e1 : ((l.map fun s => (⟨⟨s⟩⟩ : ByteArray)).take l.length).map Value.string = l.map fun s => Value.string ⟨⟨s⟩⟩ := by rw [List.take_of_length_le (by simp), List.map_map]; rfl
   rw [e1] at ho
   exact fin _ _ ho hbel
end Go.Proofs.YtaeplfiaahkgpaaGreatDoor
end zHo
