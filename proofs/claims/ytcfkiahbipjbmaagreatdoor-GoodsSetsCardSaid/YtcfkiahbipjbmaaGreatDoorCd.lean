/- Contracts: the program's functions compute the plain ones; by program (gen.py). -/
import Derived.Test.YtcfkiahbipjbmaaGreatDoorLib
import Derived.Test.YtcfkiahbipjbmaaGreatDoorPd
import Derived.Test.YtcfkiahbipjbmaaGreatDoorCa
import Derived.Test.YtcfkiahbipjbmaaGreatDoorCb
import Derived.Test.YtcfkiahbipjbmaaGreatDoorCc
set_option linter.unusedVariables false
set_option linter.unusedSimpArgs false
set_option maxHeartbeats 4000000
set_option maxRecDepth 20000
namespace Go.Proofs.YtcfkiahbipjbmaaGreatDoor
open Go.V Go.C

theorem isNaN_con {wg : World} (hw : WG wg) {x : Int} {r : Bool} (h : isNaN x = some r) : Con Tryz.prog wg gl 70 [.v (.int .i64 x)] [] (.v (.bool r)) [] := by
 unfold isNaN at h
 refine con_of_WC (S := slotsOf 0 _) Tryz.func70 rfl Tryz.ntmps70 rfl (fun t x hx => (slotsOf_get hx).2) ?_
 intro F L w ρ0 R hR
 show WC _ _ _ ⟨[(0, .v (.int .i64 x))], []⟩ _ _
 refine WC.seq (WC.region ?_)
 refine lr 1 rfl trivial ?_
 refine WL.nil (WQ.thenNormal (WC.seq (WC.region ?_)))
 refine lr 4 rfl trivial ?_
 refine WL.nil (WQ.thenNormal (WC.ret ?_))
 cases h
 exact WQ.rets tbOk hR [] (.inl rfl) rfl rfl (Le.refl _) (by exact trivial) rfl rfl rfl rfl

theorem cmpInt_con {wg : World} (hw : WG wg) {x : Int} {y : Int} {r : Int} (h : cmpInt x y = some r) : Con Tryz.prog wg gl 47 [.v (.int .i64 x), .v (.int .i64 y)] [] (.v (.int .i64 r)) [] := by
 unfold cmpInt at h
 refine con_of_WC (S := slotsOf 0 _) Tryz.func47 rfl Tryz.ntmps47 rfl (fun t x hx => (slotsOf_get hx).2) ?_
 intro F L w ρ0 R hR
 show WC _ _ _ ⟨[(0, .v (.int .i64 x)), (1, .v (.int .i64 y))], []⟩ _ _
 refine WC.seq (WC.region ?_)
 refine lr 1 rfl trivial ?_
 refine WL.nil (WQ.thenNormal (WC.seq (WC.region ?_)))
 refine lr 1 rfl trivial ?_
 replace h := bnd h; obtain ⟨v, hvv, h⟩ := h
 refine WL.call0 fn70 rfl rfl rfl rfl (by exact trivial) rfl (isNaN_con hw hvv) ?_
 refine lr 1 rfl trivial ?_
 refine WL.nil (WQ.thenNormal (WC.seq (WC.region ?_)))
 refine lr 1 rfl trivial ?_
 replace h := bnd h; obtain ⟨v2, hvv2, h⟩ := h
 refine WL.call0 fn70 rfl rfl rfl rfl (by exact trivial) rfl (isNaN_con hw hvv2) ?_
 refine lr 1 rfl trivial ?_
 refine WL.nil (WQ.thenNormal (WC.seq (WC.seq (WC.region ?_))))
 refine lr 1 rfl trivial ?_
 refine WL.nil (WQ.thenNormal ?_)
 refine WC.cond rfl (fun hc1 => ?_) (fun hc1 => ?_)
 ·replace h := ite_t hc1 h
  refine WC.seq (WC.seq (WC.region ?_))
  refine lr 1 rfl trivial ?_
  refine WL.nil (WQ.thenNormal ?_)
  refine WC.cond rfl (fun hc2 => ?_) (fun hc2 => ?_)
  ·replace h := ite_t hc2 h
   refine WC.seq (WC.region ?_)
   refine lr 1 rfl trivial ?_
   refine WL.nil (WQ.thenNormal (WC.ret (WQ.thenRet (WQ.thenRet ?_))))
   cases h
   exact WQ.rets tbOk hR [] (.inl rfl) rfl rfl (Le.refl _) (by exact trivial) rfl rfl rfl rfl
  ·replace h := ite_f hc2 h
   refine WC.skip (WQ.thenNormal (WC.seq (WC.region ?_)))
   refine lr 1 rfl trivial ?_
   refine WL.nil (WQ.thenNormal (WC.ret (WQ.thenRet ?_)))
   cases h
   exact WQ.rets tbOk hR [] (.inl rfl) rfl rfl (Le.refl _) (by exact trivial) rfl rfl rfl rfl
 ·replace h := ite_f hc1 h
  refine WC.skip (WQ.thenNormal (WC.seq (WC.seq (WC.region ?_))))
  refine lr 1 rfl trivial ?_
  refine WL.nil (WQ.thenNormal ?_)
  refine WC.cond rfl (fun hc3 => ?_) (fun hc3 => ?_)
  ·replace h := ite_t hc3 h
   refine WC.seq (WC.region ?_)
   refine lr 1 rfl trivial ?_
   refine WL.nil (WQ.thenNormal (WC.ret (WQ.thenRet ?_)))
   cases h
   exact WQ.rets tbOk hR [] (.inl rfl) rfl rfl (Le.refl _) (by exact trivial) rfl rfl rfl rfl
  ·replace h := ite_f hc3 h
   refine WC.skip (WQ.thenNormal (WC.seq (WC.seq (WC.region ?_))))
   refine lr 3 rfl trivial ?_
   refine WL.nil (WQ.thenNormal ?_)
   refine WC.cond rfl (fun hc4 => ?_) (fun hc4 => ?_)
   ·replace h := ite_t hc4 h
    refine WC.seq (WC.region ?_)
    refine lr 1 rfl trivial ?_
    refine WL.nil (WQ.thenNormal (WC.ret (WQ.thenRet ?_)))
    cases h
    exact WQ.rets tbOk hR [] (.inl rfl) rfl rfl (Le.refl _) (by exact trivial) rfl rfl rfl rfl
   ·replace h := ite_f hc4 h
    refine WC.skip (WQ.thenNormal (WC.seq (WC.seq (WC.region ?_))))
    refine lr 3 rfl trivial ?_
    refine WL.nil (WQ.thenNormal ?_)
    refine WC.cond rfl (fun hc5 => ?_) (fun hc5 => ?_)
    ·replace h := ite_t hc5 h
     refine WC.seq (WC.region ?_)
     refine lr 1 rfl trivial ?_
     refine WL.nil (WQ.thenNormal (WC.ret (WQ.thenRet ?_)))
     cases h
     exact WQ.rets tbOk hR [] (.inl rfl) rfl rfl (Le.refl _) (by exact trivial) rfl rfl rfl rfl
    ·replace h := ite_f hc5 h
     refine WC.skip (WQ.thenNormal (WC.seq (WC.region ?_)))
     refine lr 1 rfl trivial ?_
     refine WL.nil (WQ.thenNormal (WC.ret ?_))
     cases h
     exact WQ.rets tbOk hR [] (.inl rfl) rfl rfl (Le.refl _) (by exact trivial) rfl rfl rfl rfl

theorem charLess_con {wg : World} (hw : WG wg) {a : ApiComponent} {b : ApiComponent} {r : Int} (h : charLess a b = some r) : Con Tryz.prog wg gl 46 [.v (.agg [.sl 1 (a.Words.map eStr), .int .i64 a.Share]), .v (.agg [.sl 1 (b.Words.map eStr), .int .i64 b.Share])] [] (.v (.int .i64 r)) [] := by
 unfold charLess at h
 refine con_of_WC (S := slotsOf 0 _) Tryz.func46 rfl Tryz.ntmps46 rfl (fun t x hx => (slotsOf_get hx).2) ?_
 intro F L w ρ0 R hR
 show WC _ _ _ ⟨[(0, .v (.agg [.sl 1 (a.Words.map eStr), .int .i64 a.Share])), (1, .v (.agg [.sl 1 (b.Words.map eStr), .int .i64 b.Share]))], []⟩ _ _
 refine WC.seq (WC.region ?_)
 refine lr 3 rfl trivial ?_
 refine WL.nil (WQ.thenNormal (WC.seq (WC.region ?_)))
 refine lr 4 rfl trivial ?_
 replace h := bnd h; obtain ⟨v, hvv, h⟩ := h
 refine WL.call0 fn47 rfl rfl rfl rfl (by exact trivial) rfl (cmpInt_con hw hvv) ?_
 refine lr 1 rfl trivial ?_
 refine WL.nil (WQ.thenNormal (WC.ret ?_))
 cases h
 exact WQ.rets tbOk hR [] (.inl rfl) rfl rfl (Le.refl _) (by exact trivial) rfl rfl rfl rfl

theorem insSort_con {wg : World} (hw : WG wg) {data : (List ApiComponent)} {a : Int} {b : Int} {r : (List ApiComponent)} (h : insSort data a b = some r) : Con Tryz.prog wg gl 89 [.r 0, .v (.int .i64 a), .v (.int .i64 b), .fn 46 []] [(0, .row 46 2 (data.map eApiComponent))] (.tup []) [(0, .row 46 2 (r.map eApiComponent))] := by
 unfold insSort at h
 refine con_of_WC (S := slotsOf 0 _) Tryz.func89 rfl Tryz.ntmps89 rfl (fun t x hx => (slotsOf_get hx).2) ?_
 intro F L w ρ0 R hR
 show WC _ _ _ ⟨[(0, .r 0), (1, .v (.int .i64 a)), (2, .v (.int .i64 b)), (3, .fn 46 [])], [(0, .row 46 2 (data.map eApiComponent))]⟩ _ _
 refine WC.seq (WC.region ?_)
 refine lr 3 rfl trivial ?_
 refine WL.nil (WQ.thenNormal (WC.block ?_))
 obtain ⟨eQ1, hl1, hk1⟩ := bnd h
 clear h
 refine WC.loop (σ := Int × (List ApiComponent)) (τ := ((List ApiComponent))) (fun sS => ⟨[(8, .v (.int .i64 sS.1)), (0, .r 0), (1, .v (.int .i64 a)), (2, .v (.int .i64 b)), (3, .fn 46 [])], [(0, .row 46 2 (sS.2.map eApiComponent))]⟩) (insSort_b1 a b) [] ((IntKind.i64.wrap (a + (1 : Int))), data) hl1 ⟨(by exact ⟨rfl, rfl, rfl, rfl, rfl, trivial⟩), (by exact ⟨rfl, trivial⟩), rfl, rfl, rfl, rfl⟩ ?_
 rintro ⟨i, row0⟩ m hn1 he1 hx1
 obtain ⟨o1, hf1⟩ := some_of hx1
 have h := hf1
 unfold insSort_b1 at h
 show WC _ _ _ ⟨[(8, .v (.int .i64 i)), (0, .r 0), (1, .v (.int .i64 a)), (2, .v (.int .i64 b)), (3, .fn 46 [])], [(0, .row 46 2 (row0.map eApiComponent))]⟩ _ _
 refine WC.seq (WC.seq (WC.region ?_))
 refine lr 3 rfl trivial ?_
 refine WL.nil (WQ.thenNormal ?_)
 refine WC.cond rfl (fun hc1 => ?_) (fun hc1 => ?_)
 ·replace h := ite_t hc1 h
  refine WC.skip (WQ.thenNormal (WC.seq ?_))
  refine WC.thenCut (X := (List ApiComponent)) (fun gG => ⟨[(8, .v (.int .i64 i)), (0, .r 0), (1, .v (.int .i64 a)), (2, .v (.int .i64 b)), (3, .fn 46 [])], [(0, .row 46 2 (gG.map eApiComponent))]⟩) (fun gG => insSort_j1 a b i gG = some o1) ?_ ?_
  ·refine WC.block (WC.seq (WC.region ?_))
   refine lr 2 rfl trivial ?_
   refine WL.nil (WQ.thenNormal (WC.block ?_))
   obtain ⟨eQ2, hl2, hk2⟩ := bnd h
   clear h
   refine WC.loop (σ := Int × (List ApiComponent)) (τ := ((List ApiComponent))) (fun sS => ⟨[(9, .v (.int .i64 sS.1)), (8, .v (.int .i64 i)), (0, .r 0), (1, .v (.int .i64 a)), (2, .v (.int .i64 b)), (3, .fn 46 [])], [(0, .row 46 2 (sS.2.map eApiComponent))]⟩) (insSort_b2 a b i) [] (i, row0) hl2 ⟨(by exact ⟨rfl, rfl, rfl, rfl, rfl, rfl, trivial⟩), (by exact ⟨rfl, trivial⟩), rfl, rfl, rfl, rfl⟩ ?_
   rintro ⟨j3, row09⟩ m hn2 he2 hx2
   obtain ⟨o2, hf2⟩ := some_of hx2
   have h := hf2
   unfold insSort_b2 at h
   show WC _ _ _ ⟨[(9, .v (.int .i64 j3)), (8, .v (.int .i64 i)), (0, .r 0), (1, .v (.int .i64 a)), (2, .v (.int .i64 b)), (3, .fn 46 [])], [(0, .row 46 2 (row09.map eApiComponent))]⟩ _ _
   refine WC.seq (WC.seq (WC.order mixed ?_))
   refine wr 7 rfl (by exact sideR) ?_
   obtain ⟨g1, h⟩ := grd h
   refine WR.gq [0] rfl rfl rfl rfl (fun hg => q_ridx tbOk rfl (by exact sideR) rfl (by simpa only [List.length_map] using g1 hg)) ?_
   refine WR.gq [0] rfl rfl rfl rfl (x := .v (.agg [.sl 1 (((row09.getD j3.toNat default).Words).map eStr), .int .i64 ((row09.getD j3.toNat default).Share)])) (fun hg => q_rload tbOk rfl (by exact sideR) rfl (map_getD (f := eApiComponent) (g1 hg).2 (g1 hg).1) rfl) ?_
   refine wr 3 rfl (by exact sideR) ?_
   obtain ⟨g2, h⟩ := grd h
   refine WR.gq [0] rfl rfl rfl rfl (fun hg => q_ridx tbOk rfl (by exact sideR) rfl (by simpa only [List.length_map] using g2 hg)) ?_
   refine WR.gq [0] rfl rfl rfl rfl (x := .v (.agg [.sl 1 (((row09.getD (IntKind.i64.wrap (j3 - (1 : Int))).toNat default).Words).map eStr), .int .i64 ((row09.getD (IntKind.i64.wrap (j3 - (1 : Int))).toNat default).Share)])) (fun hg => q_rload tbOk rfl (by exact sideR) rfl (map_getD (f := eApiComponent) (g2 hg).2 (g2 hg).1) rfl) ?_
   replace h := bnd h; obtain ⟨v4, hvv4, h⟩ := h
   refine WR.gcall0 fn46 rfl rfl rfl rfl rfl (fun _ => (by exact sideR)) rfl (fun hg => (charLess_con hw (ite_t hg hvv4))) ?_
   refine wr 2 rfl (by exact sideR) ?_
   refine WR.nil (by kernel_rfl) (WQ.thenNormal ?_)
   refine WC.cond rfl (fun hc2 => ?_) (fun hc2 => ?_)
   ·replace h := ite_t hc2 h
    refine WC.skip (WQ.thenNormal (WC.seq (WC.block (WC.order mixed ?_))))
    refine wr 8 rfl trivial ?_
    obtain ⟨g3, h⟩ := grd h
    refine WR.q [0] rfl rfl rfl (q_ridx tbOk rfl (by exact trivial) rfl (by simpa only [List.length_map] using g3)) ?_
    refine WR.q [0] rfl rfl rfl (x := .v (.agg [.sl 1 (((row09.getD (IntKind.i64.wrap (j3 - (1 : Int))).toNat default).Words).map eStr), .int .i64 ((row09.getD (IntKind.i64.wrap (j3 - (1 : Int))).toNat default).Share)])) (q_rload tbOk rfl (by exact trivial) rfl (map_getD (f := eApiComponent) g3.2 g3.1) rfl) ?_
    refine wr 2 rfl trivial ?_
    obtain ⟨g4, h⟩ := grd h
    refine WR.q [0] rfl rfl rfl (q_ridx tbOk rfl (by exact trivial) rfl (by simpa only [List.length_map] using g4)) ?_
    refine WR.q [0] rfl rfl rfl (x := .v (.agg [.sl 1 (((row09.getD j3.toNat default).Words).map eStr), .int .i64 ((row09.getD j3.toNat default).Share)])) (q_rload tbOk rfl (by exact trivial) rfl (map_getD (f := eApiComponent) g4.2 g4.1) rfl) ?_
    obtain ⟨g5, h⟩ := grd h
    refine WR.q [0] rfl rfl rfl (q_ridx tbOk rfl (by exact trivial) rfl (by simpa only [List.length_map] using g5)) ?_
    refine WR.rstore tbOk ((row09.set j3.toNat (row09.getD (IntKind.i64.wrap (j3 - (1 : Int))).toNat default)).map eApiComponent) rfl rfl rfl (by exact trivial) rfl (map_getD (f := eApiComponent) g5.2 g5.1) rfl (mapset (f := eApiComponent) (x := (row09.getD (IntKind.i64.wrap (j3 - (1 : Int))).toNat default)) (by rfl)) ?_
    obtain ⟨g6, h⟩ := grd h
    refine WR.q [0] rfl rfl rfl (q_ridx tbOk rfl (by exact trivial) rfl (by simpa only [List.length_map] using g6)) ?_
    refine WR.rstore tbOk (((row09.set j3.toNat (row09.getD (IntKind.i64.wrap (j3 - (1 : Int))).toNat default)).set (IntKind.i64.wrap (j3 - (1 : Int))).toNat (row09.getD j3.toNat default)).map eApiComponent) rfl rfl rfl (by exact trivial) rfl (map_getD (f := eApiComponent) g6.2 g6.1) rfl (mapset (f := eApiComponent) (x := (row09.getD j3.toNat default)) (by rfl)) ?_
    refine WR.nil (by kernel_rfl) (WQ.blockNormal (WQ.thenNormal (WC.region ?_)))
    refine lr 3 rfl trivial ?_
    refine WL.nil ?_
    cases h
    exact WQ.next [] ((IntKind.i64.wrap (j3 - (1 : Int))), ((row09.set j3.toNat (row09.getD (IntKind.i64.wrap (j3 - (1 : Int))).toNat default)).set (IntKind.i64.wrap (j3 - (1 : Int))).toNat (row09.getD j3.toNat default))) ⟨(by exact ⟨rfl, rfl, rfl, rfl, rfl, rfl, trivial⟩), (by exact ⟨rfl, trivial⟩), rfl, rfl, rfl, rfl⟩ (hn2 _ hf2)
   ·replace h := ite_f hc2 h
    refine WC.exit (WQ.thenExit ?_)
    cases h
    have he := he2 _ hf2
    subst he
    replace h := hk2
    try dsimp only at h
    refine WQ.thenExit (WQ.blockExit (WQ.blockNormal ?_))
    exact WQ.cut [] row09 ⟨(by exact ⟨rfl, rfl, rfl, rfl, rfl, trivial⟩), (by exact ⟨rfl, trivial⟩), rfl, rfl, rfl, rfl⟩ h
  ·intro row08 h
   replace h : insSort_j1 a b i row08 = some _ := h
   unfold insSort_j1 at h
   show WC _ _ _ ⟨[(8, .v (.int .i64 i)), (0, .r 0), (1, .v (.int .i64 a)), (2, .v (.int .i64 b)), (3, .fn 46 [])], [(0, .row 46 2 (row08.map eApiComponent))]⟩ _ _
   refine WC.region ?_
   refine lr 3 rfl trivial ?_
   refine WL.nil ?_
   cases h
   exact WQ.next [] ((IntKind.i64.wrap (i + (1 : Int))), row08) ⟨(by exact ⟨rfl, rfl, rfl, rfl, rfl, trivial⟩), (by exact ⟨rfl, trivial⟩), rfl, rfl, rfl, rfl⟩ (hn1 _ hf1)
 ·replace h := ite_f hc1 h
  refine WC.exit (WQ.thenExit ?_)
  cases h
  have he := he1 _ hf1
  subst he
  replace h := hk1
  try dsimp only at h
  refine WQ.thenExit (WQ.blockExit ?_)
  cases h
  exact WQ.rets tbOk (r := .tup []) hR [] (.inr rfl) rfl rfl (Le.tup .nil) (by exact ⟨rfl, trivial⟩) rfl rfl rfl rfl

theorem stableSort_con {wg : World} (hw : WG wg) {data : (List ApiComponent)} {n1 : Int} {r : (List ApiComponent)} (h : stableSort data n1 = some r) : Con Tryz.prog wg gl 69 [.r 0, .v (.int .i64 n1), .fn 46 []] [(0, .row 46 2 (data.map eApiComponent))] (.tup []) [(0, .row 46 2 (r.map eApiComponent))] := by
 unfold stableSort at h
 refine con_of_WC (S := slotsOf 0 _) Tryz.func69 rfl Tryz.ntmps69 rfl (fun t x hx => (slotsOf_get hx).2) ?_
 intro F L w ρ0 R hR
 show WC _ _ _ ⟨[(0, .r 0), (1, .v (.int .i64 n1)), (2, .fn 46 [])], [(0, .row 46 2 (data.map eApiComponent))]⟩ _ _
 refine WC.seq (WC.region ?_)
 refine lr 1 rfl trivial ?_
 refine WL.nil (WQ.thenNormal (WC.seq (WC.region ?_)))
 refine lr 3 rfl trivial ?_
 refine WL.nil (WQ.thenNormal (WC.seq ?_))
 refine WC.thenCut (X := Int × (List ApiComponent)) (fun gG => ⟨[(7, .v (.int .i64 gG.1)), (6, .v (.int .i64 (20 : Int))), (0, .r 0), (1, .v (.int .i64 n1)), (2, .fn 46 [])], [(0, .row 46 2 (gG.2.map eApiComponent))]⟩) (fun gG => stableSort_j1 n1 gG.1 gG.2 = some r) ?_ ?_
 ·refine WC.block ?_
  obtain ⟨eQ3, hl3, hk3⟩ := bnd h
  clear h
  refine WC.loop (σ := Int × Int × (List ApiComponent)) (τ := (Int × (List ApiComponent))) (fun sS => ⟨[(8, .v (.int .i64 sS.1)), (7, .v (.int .i64 sS.2.1)), (6, .v (.int .i64 (20 : Int))), (0, .r 0), (1, .v (.int .i64 n1)), (2, .fn 46 [])], [(0, .row 46 2 (sS.2.2.map eApiComponent))]⟩) (stableSort_b3 n1) [] ((20 : Int), (0 : Int), data) hl3 ⟨(by exact ⟨rfl, rfl, rfl, rfl, rfl, rfl, trivial⟩), (by exact ⟨rfl, trivial⟩), rfl, rfl, rfl, rfl⟩ ?_
  rintro ⟨b5, a10, row02⟩ m hn3 he3 hx3
  obtain ⟨o3, hf3⟩ := some_of hx3
  have h := hf3
  unfold stableSort_b3 at h
  show WC _ _ _ ⟨[(8, .v (.int .i64 b5)), (7, .v (.int .i64 a10)), (6, .v (.int .i64 (20 : Int))), (0, .r 0), (1, .v (.int .i64 n1)), (2, .fn 46 [])], [(0, .row 46 2 (row02.map eApiComponent))]⟩ _ _
  refine WC.seq (WC.seq (WC.region ?_))
  refine lr 3 rfl trivial ?_
  refine WL.nil (WQ.thenNormal ?_)
  refine WC.cond rfl (fun hc4 => ?_) (fun hc4 => ?_)
  ·replace h := ite_t hc4 h
   refine WC.skip (WQ.thenNormal (WC.block (WC.seq (WC.region ?_))))
   refine lr 4 rfl trivial ?_
   replace h := bnd h; obtain ⟨v3, hvv3, h⟩ := h
   refine WL.callO [(0, 0)] [(0, 0)] [0] fn89 rfl rfl rfl rfl (by exact trivial) (insSort_con hw hvv3) rfl rfl (by exact ⟨rfl, trivial⟩) rfl rfl rfl rfl rfl rfl ?_
   refine WL.nil (WQ.thenNormal (WC.seq (WC.region ?_)))
   refine lr 2 rfl trivial ?_
   refine WL.nil (WQ.thenNormal (WC.region ?_))
   refine lr 4 rfl trivial ?_
   refine WL.nil (WQ.blockNormal ?_)
   cases h
   exact WQ.next [] ((IntKind.i64.wrap (b5 + (20 : Int))), b5, v3) ⟨(by exact ⟨rfl, rfl, rfl, rfl, rfl, rfl, trivial⟩), (by exact ⟨rfl, trivial⟩), rfl, rfl, rfl, rfl⟩ (hn3 _ hf3)
  ·replace h := ite_f hc4 h
   refine WC.exit (WQ.thenExit ?_)
   cases h
   have he := he3 _ hf3
   subst he
   replace h := hk3
   try dsimp only at h
   refine WQ.thenExit (WQ.blockExit ?_)
   exact WQ.cut [] (a10, row02) ⟨(by exact ⟨rfl, rfl, rfl, rfl, rfl, trivial⟩), (by exact ⟨rfl, trivial⟩), rfl, rfl, rfl, rfl⟩ h
 ·rintro ⟨a, row0⟩ h
  replace h : stableSort_j1 n1 a row0 = some _ := h
  unfold stableSort_j1 at h
  show WC _ _ _ ⟨[(7, .v (.int .i64 a)), (6, .v (.int .i64 (20 : Int))), (0, .r 0), (1, .v (.int .i64 n1)), (2, .fn 46 [])], [(0, .row 46 2 (row0.map eApiComponent))]⟩ _ _
  refine WC.seq (WC.region ?_)
  refine lr 4 rfl trivial ?_
  replace h := bnd h; obtain ⟨v, hvv, h⟩ := h
  refine WL.callO [(0, 0)] [(0, 0)] [0] fn89 rfl rfl rfl rfl (by exact trivial) (insSort_con hw hvv) rfl rfl (by exact ⟨rfl, trivial⟩) rfl rfl rfl rfl rfl rfl ?_
  refine WL.nil (WQ.thenNormal (WC.block ?_))
  obtain ⟨eQ1, hl1, hk1⟩ := bnd h
  clear h
  refine WC.loop (σ := Int) (τ := (Unit)) (fun sS => ⟨[(6, .v (.int .i64 sS)), (0, .r 0), (1, .v (.int .i64 n1)), (2, .fn 46 [])], [(0, .row 46 2 (v.map eApiComponent))]⟩) (stableSort_b1 n1 v) [] (20 : Int) hl1 ⟨(by exact ⟨rfl, rfl, rfl, rfl, trivial⟩), (by exact ⟨rfl, trivial⟩), rfl, rfl, rfl, rfl⟩ ?_
  intro blockSize m hn1 he1 hx1
  obtain ⟨o1, hf1⟩ := some_of hx1
  have h := hf1
  unfold stableSort_b1 at h
  show WC _ _ _ ⟨[(6, .v (.int .i64 blockSize)), (0, .r 0), (1, .v (.int .i64 n1)), (2, .fn 46 [])], [(0, .row 46 2 (v.map eApiComponent))]⟩ _ _
  refine WC.seq (WC.seq (WC.region ?_))
  refine lr 3 rfl trivial ?_
  refine WL.nil (WQ.thenNormal ?_)
  refine WC.cond rfl (fun hc1 => ?_) (fun hc1 => ?_)
  ·replace h := ite_t hc1 h
   refine WC.skip (WQ.thenNormal (WC.block (WC.seq (WC.region ?_))))
   refine lr 4 rfl trivial ?_
   refine WL.nil (WQ.thenNormal (WC.seq ?_))
   refine WC.thenCut (X := Int) (fun gG => ⟨[(7, .v (.int .i64 gG)), (6, .v (.int .i64 blockSize)), (0, .r 0), (1, .v (.int .i64 n1)), (2, .fn 46 [])], [(0, .row 46 2 (v.map eApiComponent))]⟩) (fun gG => stableSort_j2 n1 v blockSize gG = some o1) ?_ ?_
   ·refine WC.block ?_
    obtain ⟨eQ2, hl2, hk2⟩ := bnd h
    clear h
    refine WC.loop (σ := Int × Int) (τ := (Int)) (fun sS => ⟨[(8, .v (.int .i64 sS.1)), (7, .v (.int .i64 sS.2)), (6, .v (.int .i64 blockSize)), (0, .r 0), (1, .v (.int .i64 n1)), (2, .fn 46 [])], [(0, .row 46 2 (v.map eApiComponent))]⟩) (stableSort_b2 n1 v blockSize) [] ((IntKind.i64.wrap ((2 : Int) * blockSize)), (0 : Int)) hl2 ⟨(by exact ⟨rfl, rfl, rfl, rfl, rfl, rfl, trivial⟩), (by exact ⟨rfl, trivial⟩), rfl, rfl, rfl, rfl⟩ ?_
    rintro ⟨b3, a7⟩ m hn2 he2 hx2
    obtain ⟨o2, hf2⟩ := some_of hx2
    have h := hf2
    unfold stableSort_b2 at h
    show WC _ _ _ ⟨[(8, .v (.int .i64 b3)), (7, .v (.int .i64 a7)), (6, .v (.int .i64 blockSize)), (0, .r 0), (1, .v (.int .i64 n1)), (2, .fn 46 [])], [(0, .row 46 2 (v.map eApiComponent))]⟩ _ _
    refine WC.seq (WC.seq (WC.region ?_))
    refine lr 3 rfl trivial ?_
    refine WL.nil (WQ.thenNormal ?_)
    refine WC.cond rfl (fun hc3 => ?_) (fun hc3 => ?_)
    ·replace h := ite_t hc3 h
     refine WC.skip (WQ.thenNormal (WC.block (WC.seq ?_)))
     cases h
    ·replace h := ite_f hc3 h
     refine WC.exit (WQ.thenExit ?_)
     cases h
     have he := he2 _ hf2
     subst he
     replace h := hk2
     try dsimp only at h
     refine WQ.thenExit (WQ.blockExit ?_)
     exact WQ.cut [] a7 ⟨(by exact ⟨rfl, rfl, rfl, rfl, rfl, trivial⟩), (by exact ⟨rfl, trivial⟩), rfl, rfl, rfl, rfl⟩ h
   ·intro a6 h
    replace h : stableSort_j2 n1 v blockSize a6 = some _ := h
    unfold stableSort_j2 at h
    show WC _ _ _ ⟨[(7, .v (.int .i64 a6)), (6, .v (.int .i64 blockSize)), (0, .r 0), (1, .v (.int .i64 n1)), (2, .fn 46 [])], [(0, .row 46 2 (v.map eApiComponent))]⟩ _ _
    refine WC.seq (WC.seq (WC.region ?_))
    refine lr 4 rfl trivial ?_
    refine WL.nil (WQ.thenNormal (WC.seq (WC.region ?_)))
    refine lr 3 rfl trivial ?_
    refine WL.nil (WQ.thenNormal ?_)
    refine WC.cond rfl (fun hc2 => ?_) (fun hc2 => ?_)
    ·replace h := ite_t hc2 h
     cases h
    ·replace h := ite_f hc2 h
     refine WC.skip (WQ.thenNormal (WC.region ?_))
     refine lr 3 rfl trivial ?_
     refine WL.nil (WQ.blockNormal ?_)
     cases h
     exact WQ.next [] (IntKind.i64.wrap (blockSize * (2 : Int))) ⟨(by exact ⟨rfl, rfl, rfl, rfl, trivial⟩), (by exact ⟨rfl, trivial⟩), rfl, rfl, rfl, rfl⟩ (hn1 _ hf1)
  ·replace h := ite_f hc1 h
   refine WC.exit (WQ.thenExit ?_)
   cases h
   have he := he1 _ hf1
   subst he
   replace h := hk1
   try dsimp only at h
   refine WQ.thenExit (WQ.blockExit ?_)
   cases h
   exact WQ.rets tbOk (r := .tup []) hR [] (.inr rfl) rfl rfl (Le.tup .nil) (by exact ⟨rfl, trivial⟩) rfl rfl rfl rfl

theorem sortStable_con {wg : World} (hw : WG wg) {x : (List ApiComponent)} {r : (List ApiComponent)} (h : sortStable x = some r) : Con Tryz.prog wg gl 45 [.r 0, .fn 46 []] [(0, .row 46 2 (x.map eApiComponent))] (.tup []) [(0, .row 46 2 (r.map eApiComponent))] := by
 unfold sortStable at h
 refine con_of_WC (S := slotsOf 0 _) Tryz.func45 rfl Tryz.ntmps45 rfl (fun t x hx => (slotsOf_get hx).2) ?_
 intro F L w ρ0 R hR
 show WC _ _ _ ⟨[(0, .r 0), (1, .fn 46 [])], [(0, .row 46 2 (x.map eApiComponent))]⟩ _ _
 refine WC.region ?_
 refine lr 2 rfl trivial ?_
 refine WL.q [0] rfl rfl rfl (q_ev tbOk (.v (.int .i64 (x.length : Int))) rfl (by exact trivial) (by exact lenT)) ?_
 refine lr 1 rfl trivial ?_
 replace h := bnd h; obtain ⟨v, hvv, h⟩ := h
 refine WL.callO [(0, 0)] [(0, 0)] [0] fn69 rfl rfl rfl rfl (by exact trivial) (stableSort_con hw hvv) rfl rfl (by exact ⟨rfl, trivial⟩) rfl rfl rfl rfl rfl rfl ?_
 refine WL.nil ?_
 cases h
 exact WQ.rets tbOk (r := .tup []) hR [] (.inr rfl) rfl rfl (Le.tup .nil) (by exact ⟨rfl, trivial⟩) rfl rfl rfl rfl

theorem goodsCharacters_con {wg : World} (hw : WG wg) {g : ApiGood} {r : (List ApiComponent)} (h : goodsCharacters g = some r) : Con Tryz.prog wg gl 30 [.v (.agg [.sl 1 (g.Words.map eStr), .sl 2 (g.Materials.map eApiMaterial), .sl 2 (g.Parts.map eApiComponent), .bool g.Incomplete])] [] (.v (.sl 2 (r.map eApiComponent))) [] := by
 unfold goodsCharacters at h
 refine con_of_WC (S := slotsOf 0 _) Tryz.func30 rfl Tryz.ntmps30 rfl (fun t x hx => (slotsOf_get hx).2) ?_
 intro F L w ρ0 R hR
 show WC _ _ _ ⟨[(0, .v (.agg [.sl 1 (g.Words.map eStr), .sl 2 (g.Materials.map eApiMaterial), .sl 2 (g.Parts.map eApiComponent), .bool g.Incomplete]))], []⟩ _ _
 refine WC.seq (WC.region ?_)
 refine lr 2 rfl trivial ?_
 refine WL.nil (WQ.thenNormal (WC.seq (WC.region ?_)))
 refine lr 1 rfl trivial ?_
 refine WL.nil (WQ.thenNormal (WC.seq (WC.seq (WC.region ?_))))
 refine lr 2 rfl trivial ?_
 refine WL.q [] rfl rfl rfl (q_ev tbOk (.v (.int .i64 (g.Parts.length : Int))) rfl (by exact trivial) (by exact lenT)) ?_
 refine lr 1 rfl trivial ?_
 refine WL.nil (WQ.thenNormal ?_)
 refine WC.thenCut (X := (List ApiComponent)) (fun gG => ⟨[(3, .r 1003), (1, .p 1 0)], [(1003, .row 46 2 (gG.map eApiComponent)), (1, .blk 28 [.v (.sl 1 (g.Words.map eStr)), .v (.sl 2 (g.Materials.map eApiMaterial)), .v (.sl 2 (g.Parts.map eApiComponent)), .v (.bool g.Incomplete)])]⟩) (fun gG => goodsCharacters_j1 g gG = some r) ?_ ?_
 ·refine WC.block ?_
  obtain ⟨eQ2, hl2, hk2⟩ := bnd h
  clear h
  refine WC.rowNil 3 1003 46 2 rfl rfl ?_
  refine WC.loop (σ := Int × (List ApiComponent)) (τ := ((List ApiComponent))) (fun sS => ⟨[(11, .v (.int .i64 sS.1)), (10, .v (.int .i64 (g.Parts.length : Int))), (9, .v (.sl 2 (g.Parts.map eApiComponent))), (3, .r 1003), (1, .p 1 0)], [(1003, .row 46 2 (sS.2.map eApiComponent)), (1, .blk 28 [.v (.sl 1 (g.Words.map eStr)), .v (.sl 2 (g.Materials.map eApiMaterial)), .v (.sl 2 (g.Parts.map eApiComponent)), .v (.bool g.Incomplete)])]⟩) (goodsCharacters_b2 g) [] ((0 : Int), []) hl2 ⟨(by exact ⟨rfl, rfl, rfl, rfl, rfl, trivial⟩), (by exact ⟨rfl, rfl, trivial⟩), rfl, rfl, rfl, rfl⟩ ?_
  rintro ⟨t112, l6⟩ m hn2 he2 hx2
  obtain ⟨o2, hf2⟩ := some_of hx2
  have h := hf2
  unfold goodsCharacters_b2 at h
  show WC _ _ _ ⟨[(11, .v (.int .i64 t112)), (10, .v (.int .i64 (g.Parts.length : Int))), (9, .v (.sl 2 (g.Parts.map eApiComponent))), (3, .r 1003), (1, .p 1 0)], [(1003, .row 46 2 (l6.map eApiComponent)), (1, .blk 28 [.v (.sl 1 (g.Words.map eStr)), .v (.sl 2 (g.Materials.map eApiMaterial)), .v (.sl 2 (g.Parts.map eApiComponent)), .v (.bool g.Incomplete)])]⟩ _ _
  refine WC.seq (WC.region ?_)
  refine lr 1 rfl trivial ?_
  refine WL.nil (WQ.thenNormal (WC.seq ?_))
  refine WC.cond rfl (fun hc3 => ?_) (fun hc3 => ?_)
  ·replace h := ite_t hc3 h
   refine WC.skip (WQ.thenNormal (WC.seq (WC.block (WC.seq (WC.region ?_)))))
   obtain ⟨g3, h⟩ := grd h
   replace h := bnd h; obtain ⟨x5, hxx5, h⟩ := h
   refine WL.q [] rfl rfl rfl (q_idx tbOk rfl (by exact trivial) g3 (map_get (f := eApiComponent) hxx5)) ?_
   refine lr 3 rfl trivial ?_
   refine WL.nil (WQ.thenNormal (WC.order mixed ?_))
   refine wr 3 rfl trivial ?_
   replace h := bnd h; obtain ⟨v4, hvv4, h⟩ := h
   refine WR.call0 fn44 rfl rfl rfl rfl (by exact trivial) rfl (cloneS_con hw hvv4) ?_
   refine wr 4 rfl trivial ?_
   obtain ⟨g4, h⟩ := grd h
   refine WR.append tbOk ((l6 ++ [(⟨v4, x5.Share⟩ : ApiComponent)]).map eApiComponent) [23, 1003] ap26 rfl rfl rfl rfl (fun _ e => by cases e; rfl) (by exact trivial) (map_cells (f := eApiComponent) (xs := [(⟨v4, x5.Share⟩ : ApiComponent)]) fun _ => rfl) (by have := g4; simp only [List.length_map, List.length_nil, List.length_cons] at this ⊢; omega) rfl rfl (by simp only [List.map_append]; try rfl) rfl rfl ?_
   refine wr 1 rfl trivial ?_
   refine WR.nil (by kernel_rfl) (WQ.blockNormal (WQ.thenNormal (WC.region ?_)))
   refine lr 2 rfl trivial ?_
   refine WL.nil ?_
   cases h
   exact WQ.next [(1003, 23)] ((IntKind.i64.wrap (t112 + (1 : Int))), (l6 ++ [(⟨v4, x5.Share⟩ : ApiComponent)])) ⟨(by exact ⟨rfl, rfl, rfl, rfl, rfl, trivial⟩), (by exact ⟨rfl, rfl, trivial⟩), rfl, rfl, rfl, rfl⟩ (hn2 _ hf2)
  ·replace h := ite_f hc3 h
   refine WC.exit (WQ.thenExit ?_)
   cases h
   have he := he2 _ hf2
   subst he
   replace h := hk2
   try dsimp only at h
   refine WQ.thenExit (WQ.blockExit ?_)
   exact WQ.cut [] l6 ⟨(by exact ⟨rfl, rfl, trivial⟩), (by exact ⟨rfl, rfl, trivial⟩), rfl, rfl, rfl, rfl⟩ h
 ·intro l h
  replace h : goodsCharacters_j1 g l = some _ := h
  unfold goodsCharacters_j1 at h
  show WC _ _ _ ⟨[(3, .r 1003), (1, .p 1 0)], [(1003, .row 46 2 (l.map eApiComponent)), (1, .blk 28 [.v (.sl 1 (g.Words.map eStr)), .v (.sl 2 (g.Materials.map eApiMaterial)), .v (.sl 2 (g.Parts.map eApiComponent)), .v (.bool g.Incomplete)])]⟩ _ _
  refine WC.seq (WC.seq (WC.region ?_))
  refine lr 2 rfl trivial ?_
  refine WL.q [] rfl rfl rfl (q_ev tbOk (.v (.int .i64 (g.Parts.length : Int))) rfl (by exact trivial) (by exact lenT)) ?_
  refine lr 1 rfl trivial ?_
  refine WL.nil (WQ.thenNormal ?_)
  refine WC.thenCut (X := (List ApiComponent)) (fun gG => ⟨[(3, .r 1003)], [(1003, .row 46 2 (gG.map eApiComponent))]⟩) (fun gG => goodsCharacters_j2 gG = some r) ?_ ?_
  ·refine WC.cond rfl (fun hc1 => ?_) (fun hc1 => ?_)
   ·replace h := ite_t hc1 h
    refine WC.seq (WC.region ?_)
    refine lr 2 rfl trivial ?_
    refine WL.q [] rfl rfl rfl (q_ev tbOk (.v (.int .i64 (g.Materials.length : Int))) rfl (by exact trivial) (by exact lenT)) ?_
    refine lr 1 rfl trivial ?_
    refine WL.nil (WQ.thenNormal (WC.block ?_))
    obtain ⟨eQ1, hl1, hk1⟩ := bnd h
    clear h
    refine WC.loop (σ := Int × (List ApiComponent)) (τ := ((List ApiComponent))) (fun sS => ⟨[(32, .v (.int .i64 sS.1)), (31, .v (.int .i64 (g.Materials.length : Int))), (30, .v (.sl 2 (g.Materials.map eApiMaterial))), (3, .r 1003)], [(1003, .row 46 2 (sS.2.map eApiComponent))]⟩) (goodsCharacters_b1 g) [] ((0 : Int), l) hl1 ⟨(by exact ⟨rfl, rfl, rfl, rfl, trivial⟩), (by exact ⟨rfl, trivial⟩), rfl, rfl, rfl, rfl⟩ ?_
    rintro ⟨t32, l3⟩ m hn1 he1 hx1
    obtain ⟨o1, hf1⟩ := some_of hx1
    have h := hf1
    unfold goodsCharacters_b1 at h
    show WC _ _ _ ⟨[(32, .v (.int .i64 t32)), (31, .v (.int .i64 (g.Materials.length : Int))), (30, .v (.sl 2 (g.Materials.map eApiMaterial))), (3, .r 1003)], [(1003, .row 46 2 (l3.map eApiComponent))]⟩ _ _
    refine WC.seq (WC.region ?_)
    refine lr 1 rfl trivial ?_
    refine WL.nil (WQ.thenNormal (WC.seq ?_))
    refine WC.cond rfl (fun hc2 => ?_) (fun hc2 => ?_)
    ·replace h := ite_t hc2 h
     refine WC.skip (WQ.thenNormal (WC.seq (WC.block (WC.seq (WC.region ?_)))))
     obtain ⟨g1, h⟩ := grd h
     replace h := bnd h; obtain ⟨x2, hxx2, h⟩ := h
     refine WL.q [] rfl rfl rfl (q_idx tbOk rfl (by exact trivial) g1 (map_get (f := eApiMaterial) hxx2)) ?_
     refine lr 3 rfl trivial ?_
     refine WL.nil (WQ.thenNormal (WC.region ?_))
     refine lr 8 rfl trivial ?_
     obtain ⟨g2, h⟩ := grd h
     refine WL.append tbOk ((l3 ++ [(⟨[x2.Name], x2.Share⟩ : ApiComponent)]).map eApiComponent) [44, 1003] ap26 rfl rfl rfl rfl (fun _ e => by cases e; rfl) (by exact trivial) (map_cells (f := eApiComponent) (xs := [(⟨[x2.Name], x2.Share⟩ : ApiComponent)]) fun _ => rfl) (by have := g2; simp only [List.length_map, List.length_nil, List.length_cons] at this ⊢; omega) rfl rfl (by simp only [List.map_append]; try rfl) rfl ?_
     refine lr 1 rfl trivial ?_
     refine WL.nil (WQ.blockNormal (WQ.thenNormal (WC.region ?_)))
     refine lr 2 rfl trivial ?_
     refine WL.nil ?_
     cases h
     exact WQ.next [(1003, 44)] ((IntKind.i64.wrap (t32 + (1 : Int))), (l3 ++ [(⟨[x2.Name], x2.Share⟩ : ApiComponent)])) ⟨(by exact ⟨rfl, rfl, rfl, rfl, trivial⟩), (by exact ⟨rfl, trivial⟩), rfl, rfl, rfl, rfl⟩ (hn1 _ hf1)
    ·replace h := ite_f hc2 h
     refine WC.exit (WQ.thenExit ?_)
     cases h
     have he := he1 _ hf1
     subst he
     replace h := hk1
     try dsimp only at h
     refine WQ.thenExit (WQ.blockExit ?_)
     exact WQ.cut [] l3 ⟨(by exact ⟨rfl, trivial⟩), (by exact ⟨rfl, trivial⟩), rfl, rfl, rfl, rfl⟩ h
   ·replace h := ite_f hc1 h
    refine WC.skip ?_
    exact WQ.cut [] l ⟨(by exact ⟨rfl, trivial⟩), (by exact ⟨rfl, trivial⟩), rfl, rfl, rfl, rfl⟩ h
  ·intro l2 h
   replace h : goodsCharacters_j2 l2 = some _ := h
   unfold goodsCharacters_j2 at h
   show WC _ _ _ ⟨[(3, .r 1003)], [(1003, .row 46 2 (l2.map eApiComponent))]⟩ _ _
   refine WC.seq (WC.region ?_)
   refine lr 1 rfl trivial ?_
   replace h := bnd h; obtain ⟨v, hvv, h⟩ := h
   refine WL.callO [(0, 1003)] [(0, 1003)] [1003] fn45 rfl rfl rfl rfl (by exact trivial) (sortStable_con hw hvv) rfl rfl (by exact ⟨rfl, trivial⟩) rfl rfl rfl rfl rfl rfl ?_
   refine WL.nil (WQ.thenNormal (WC.seq (WC.region ?_)))
   refine lr 2 rfl trivial ?_
   refine WL.nil (WQ.thenNormal (WC.ret ?_))
   refine WQ.publish 1003 rfl rfl ?_
   cases h
   exact WQ.rets tbOk hR [] (.inl rfl) rfl rfl (Le.refl _) (by exact trivial) rfl rfl rfl rfl

theorem sameStrings_con {wg : World} (hw : WG wg) {a : (List Str)} {b : (List Str)} {r : Bool} (h : sameStrings a b = some r) : Con Tryz.prog wg gl 7 [.v (.sl 1 (a.map eStr)), .v (.sl 1 (b.map eStr))] [] (.v (.bool r)) [] := by
 unfold sameStrings at h
 refine con_of_WC (S := slotsOf 0 _) Tryz.func7 rfl Tryz.ntmps7 rfl (fun t x hx => (slotsOf_get hx).2) ?_
 intro F L w ρ0 R hR
 show WC _ _ _ ⟨[(0, .v (.sl 1 (a.map eStr))), (1, .v (.sl 1 (b.map eStr)))], []⟩ _ _
 refine WC.seq (WC.region ?_)
 refine lr 1 rfl trivial ?_
 refine WL.nil (WQ.thenNormal (WC.seq (WC.seq (WC.region ?_))))
 refine lr 1 rfl trivial ?_
 refine WL.q [] rfl rfl rfl (q_ev tbOk (.v (.int .i64 (a.length : Int))) rfl (by exact trivial) (by exact lenT)) ?_
 refine lr 1 rfl trivial ?_
 refine WL.q [] rfl rfl rfl (q_ev tbOk (.v (.int .i64 (b.length : Int))) rfl (by exact trivial) (by exact lenT)) ?_
 refine lr 1 rfl trivial ?_
 refine WL.nil (WQ.thenNormal ?_)
 refine WC.cond rfl (fun hc1 => ?_) (fun hc1 => ?_)
 ·replace h := ite_t hc1 h
  refine WC.seq (WC.region ?_)
  refine lr 1 rfl trivial ?_
  refine WL.nil (WQ.thenNormal (WC.ret (WQ.thenRet ?_)))
  cases h
  exact WQ.rets tbOk hR [] (.inl rfl) rfl rfl (Le.refl _) (by exact trivial) rfl rfl rfl rfl
 ·replace h := ite_f hc1 h
  refine WC.skip (WQ.thenNormal (WC.seq (WC.seq (WC.region ?_))))
  refine lr 1 rfl trivial ?_
  refine WL.nil (WQ.thenNormal ?_)
  refine WC.thenCut (X := Unit) (fun gG => ⟨[], []⟩) (fun gG => sameStrings_j1  = some r) ?_ ?_
  ·refine WC.block ?_
   obtain ⟨eQ1, hl1, hk1⟩ := bnd h
   clear h
   refine WC.loop (σ := Int) (τ := ((Bool) ⊕ (Unit))) (fun sS => ⟨[(5, .v (.int .i64 sS)), (0, .v (.sl 1 (a.map eStr))), (1, .v (.sl 1 (b.map eStr)))], []⟩) (sameStrings_b1 a b) [] (0 : Int) hl1 ⟨(by exact ⟨rfl, rfl, rfl, trivial⟩), (by exact trivial), rfl, rfl, rfl, rfl⟩ ?_
   intro i m hn1 he1 hx1
   obtain ⟨o1, hf1⟩ := some_of hx1
   have h := hf1
   unfold sameStrings_b1 at h
   show WC _ _ _ ⟨[(5, .v (.int .i64 i)), (0, .v (.sl 1 (a.map eStr))), (1, .v (.sl 1 (b.map eStr)))], []⟩ _ _
   refine WC.seq (WC.seq (WC.region ?_))
   refine lr 2 rfl trivial ?_
   refine WL.q [] rfl rfl rfl (q_ev tbOk (.v (.int .i64 (a.length : Int))) rfl (by exact trivial) (by exact lenT)) ?_
   refine lr 1 rfl trivial ?_
   refine WL.nil (WQ.thenNormal ?_)
   refine WC.cond rfl (fun hc2 => ?_) (fun hc2 => ?_)
   ·replace h := ite_t hc2 h
    refine WC.skip (WQ.thenNormal (WC.seq (WC.block (WC.seq (WC.order mixed ?_)))))
    refine wr 2 rfl trivial ?_
    obtain ⟨g1, h⟩ := grd h
    replace h := bnd h; obtain ⟨x3, hxx3, h⟩ := h
    refine WR.q [] rfl rfl rfl (q_idx tbOk rfl (by exact trivial) g1 (map_get (f := eStr) hxx3)) ?_
    refine wr 3 rfl trivial ?_
    obtain ⟨g2, h⟩ := grd h
    replace h := bnd h; obtain ⟨x4, hxx4, h⟩ := h
    refine WR.q [] rfl rfl rfl (q_idx tbOk rfl (by exact trivial) g2 (map_get (f := eStr) hxx4)) ?_
    refine wr 2 rfl trivial ?_
    refine WR.nil (by kernel_rfl) (WQ.thenNormal ?_)
    refine WC.cond rfl (fun hc3 => ?_) (fun hc3 => ?_)
    ·replace h := ite_t hc3 h
     refine WC.seq (WC.region ?_)
     refine lr 1 rfl trivial ?_
     refine WL.nil (WQ.thenNormal (WC.ret (WQ.blockRet (WQ.thenRet ?_))))
     cases h
     have he := he1 _ hf1
     subst he
     have h : some false = some _ := hk1
     refine WQ.thenRet (WQ.blockRet (WQ.thenRet ?_))
     cases h
     exact WQ.rets tbOk hR [] (.inl rfl) rfl rfl (Le.refl _) (by exact trivial) rfl rfl rfl rfl
    ·replace h := ite_f hc3 h
     refine WC.skip (WQ.blockNormal (WQ.thenNormal (WC.region ?_)))
     refine lr 3 rfl trivial ?_
     refine WL.nil ?_
     cases h
     exact WQ.next [] (IntKind.i64.wrap (i + (1 : Int))) ⟨(by exact ⟨rfl, rfl, rfl, trivial⟩), (by exact trivial), rfl, rfl, rfl, rfl⟩ (hn1 _ hf1)
   ·replace h := ite_f hc2 h
    refine WC.exit (WQ.thenExit ?_)
    cases h
    have he := he1 _ hf1
    subst he
    replace h := hk1
    try dsimp only at h
    refine WQ.thenExit (WQ.blockExit ?_)
    exact WQ.cut [] () ⟨(by exact trivial), (by exact trivial), rfl, rfl, rfl, rfl⟩ h
  ·intro _ h
   replace h : sameStrings_j1 = some _ := h
   unfold sameStrings_j1 at h
   show WC _ _ _ ⟨[], []⟩ _ _
   refine WC.seq (WC.region ?_)
   refine lr 1 rfl trivial ?_
   refine WL.nil (WQ.thenNormal (WC.ret ?_))
   cases h
   exact WQ.rets tbOk hR [] (.inl rfl) rfl rfl (Le.refl _) (by exact trivial) rfl rfl rfl rfl

end Go.Proofs.YtcfkiahbipjbmaaGreatDoor
