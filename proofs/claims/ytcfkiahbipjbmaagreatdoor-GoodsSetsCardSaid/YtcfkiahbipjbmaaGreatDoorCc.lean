/- Contracts: the program's functions compute the plain ones; by program (gen.py). -/
import Derived.Test.YtcfkiahbipjbmaaGreatDoorLib
import Derived.Test.YtcfkiahbipjbmaaGreatDoorPc
import Derived.Test.YtcfkiahbipjbmaaGreatDoorCa
import Derived.Test.YtcfkiahbipjbmaaGreatDoorCb
set_option linter.unusedVariables false
set_option linter.unusedSimpArgs false
set_option maxHeartbeats 4000000
set_option maxRecDepth 20000
namespace Go.Proofs.YtcfkiahbipjbmaaGreatDoor
open Go.V Go.C

theorem goodsFormat_con {wg : World} (hw : WG wg) {g : ApiGood} {r : Str} (h : goodsFormat g = some r) : Con Tryz.prog wg gl 32 [.v (.agg [.sl 1 (g.Words.map eStr), .sl 2 (g.Materials.map eApiMaterial), .sl 2 (g.Parts.map eApiComponent), .bool g.Incomplete])] [] (.v (.str r)) [] := by
 unfold goodsFormat at h
 refine con_of_WC (S := slotsOf 0 _) Tryz.func32 rfl Tryz.ntmps32 rfl (fun t x hx => (slotsOf_get hx).2) ?_
 intro F L w ρ0 R hR
 show WC _ _ _ ⟨[(0, .v (.agg [.sl 1 (g.Words.map eStr), .sl 2 (g.Materials.map eApiMaterial), .sl 2 (g.Parts.map eApiComponent), .bool g.Incomplete]))], []⟩ _ _
 refine WC.seq (WC.region ?_)
 refine lr 2 rfl trivial ?_
 refine WL.nil (WQ.thenNormal (WC.seq (WC.seq (WC.region ?_))))
 refine lr 1 rfl trivial ?_
 replace h := bnd h; obtain ⟨v, hvv, h⟩ := h
 refine WL.call0 fn31 rfl rfl rfl rfl (by exact trivial) rfl (goodsValidate_con hw hvv) ?_
 refine lr 1 rfl trivial ?_
 refine WL.nil (WQ.thenNormal ?_)
 refine WC.cond rfl (fun hc1 => ?_) (fun hc1 => ?_)
 ·replace h := ite_t hc1 h
  refine WC.seq (WC.region ?_)
  refine lr 1 rfl trivial ?_
  refine WL.nil (WQ.thenNormal (WC.ret (WQ.thenRet ?_)))
  cases h
  exact WQ.rets tbOk hR [] (.inl rfl) rfl rfl (Le.refl _) (by exact trivial) rfl rfl rfl rfl
 ·replace h := ite_f hc1 h
  refine WC.skip (WQ.thenNormal (WC.seq (WC.region ?_)))
  refine lr 2 rfl trivial ?_
  replace h := bnd h; obtain ⟨v2, hvv2, h⟩ := h
  refine WL.call0 fn51 rfl rfl rfl rfl (by exact trivial) rfl (joinS_con hw hvv2) ?_
  refine lr 1 rfl trivial ?_
  refine WL.nil (WQ.thenNormal (WC.seq (WC.region ?_)))
  refine lr 2 rfl trivial ?_
  refine WL.nil (WQ.thenNormal (WC.seq (WC.seq (WC.region ?_))))
  refine lr 2 rfl trivial ?_
  refine WL.q [] rfl rfl rfl (q_ev tbOk (.v (.int .i64 (g.Materials.length : Int))) rfl (by exact trivial) (by exact lenT)) ?_
  refine lr 1 rfl trivial ?_
  refine WL.nil (WQ.thenNormal ?_)
  refine WC.thenCut (X := (List Str)) (fun gG => ⟨[(5, .v (.raw (.slice none 0 0))), (4, .r 1004), (3, .v (.str v2)), (1, .p 1 0)], [(1004, .row 9 1 (gG.map eStr)), (1, .blk 28 [.v (.sl 1 (g.Words.map eStr)), .v (.sl 2 (g.Materials.map eApiMaterial)), .v (.sl 2 (g.Parts.map eApiComponent)), .v (.bool g.Incomplete)])]⟩) (fun gG => goodsFormat_j1 g v2 gG = some r) ?_ ?_
  ·refine WC.block ?_
   obtain ⟨eQ2, hl2, hk2⟩ := bnd h
   clear h
   refine WC.rowNil 4 1004 9 1 rfl rfl ?_
   refine WC.loop (σ := Int × (List Str)) (τ := ((List Str))) (fun sS => ⟨[(19, .v (.int .i64 sS.1)), (18, .v (.int .i64 (g.Materials.length : Int))), (17, .v (.sl 2 (g.Materials.map eApiMaterial))), (5, .v (.raw (.slice none 0 0))), (4, .r 1004), (3, .v (.str v2)), (1, .p 1 0)], [(1004, .row 9 1 (sS.2.map eStr)), (1, .blk 28 [.v (.sl 1 (g.Words.map eStr)), .v (.sl 2 (g.Materials.map eApiMaterial)), .v (.sl 2 (g.Parts.map eApiComponent)), .v (.bool g.Incomplete)])]⟩) (goodsFormat_b2 g v2) [] ((0 : Int), []) hl2 ⟨(by exact ⟨rfl, rfl, rfl, rfl, rfl, rfl, rfl, trivial⟩), (by exact ⟨rfl, rfl, trivial⟩), rfl, rfl, rfl, rfl⟩ ?_
   rintro ⟨t192, materials6⟩ m hn2 he2 hx2
   obtain ⟨o2, hf2⟩ := some_of hx2
   have h := hf2
   unfold goodsFormat_b2 at h
   show WC _ _ _ ⟨[(19, .v (.int .i64 t192)), (18, .v (.int .i64 (g.Materials.length : Int))), (17, .v (.sl 2 (g.Materials.map eApiMaterial))), (5, .v (.raw (.slice none 0 0))), (4, .r 1004), (3, .v (.str v2)), (1, .p 1 0)], [(1004, .row 9 1 (materials6.map eStr)), (1, .blk 28 [.v (.sl 1 (g.Words.map eStr)), .v (.sl 2 (g.Materials.map eApiMaterial)), .v (.sl 2 (g.Parts.map eApiComponent)), .v (.bool g.Incomplete)])]⟩ _ _
   refine WC.seq (WC.region ?_)
   refine lr 1 rfl trivial ?_
   refine WL.nil (WQ.thenNormal (WC.seq ?_))
   refine WC.cond rfl (fun hc6 => ?_) (fun hc6 => ?_)
   ·replace h := ite_t hc6 h
    refine WC.skip (WQ.thenNormal (WC.seq (WC.block (WC.seq (WC.region ?_)))))
    obtain ⟨g10, h⟩ := grd h
    replace h := bnd h; obtain ⟨x6, hxx6, h⟩ := h
    refine WL.q [] rfl rfl rfl (q_idx tbOk rfl (by exact trivial) g10 (map_get (f := eApiMaterial) hxx6)) ?_
    refine lr 3 rfl trivial ?_
    refine WL.nil (WQ.thenNormal (WC.order mixed ?_))
    obtain ⟨g11, h⟩ := grd h
    refine wr 6 rfl (by repeat' (first | exact trivial | assumption | intro _ | exact g11 (by assumption) | apply And.intro | exact sideT | (refine and_i ?_ ?_))) ?_
    replace h := bnd h; obtain ⟨v13, hvv13, h⟩ := h
    refine WR.call0 fn52 rfl rfl rfl rfl (by exact trivial) rfl (itoa_con hw hvv13) ?_
    obtain ⟨g12, h⟩ := grd h
    refine wr 2 rfl (by repeat' (first | exact trivial | assumption | intro _ | exact g12 (by assumption) | apply And.intro | exact sideT | (refine and_i ?_ ?_))) ?_
    obtain ⟨g13, h⟩ := grd h
    refine WR.append tbOk ((materials6 ++ [((x6.Name ++ ([58] : Str)) ++ v13)]).map eStr) [32, 1004] ap22 rfl rfl rfl rfl (fun _ e => by cases e; rfl) (by exact trivial) (map_cells (f := eStr) (xs := [((x6.Name ++ ([58] : Str)) ++ v13)]) fun _ => rfl) (by have := g13; simp only [List.length_map, List.length_nil, List.length_cons] at this ⊢; omega) rfl rfl (by simp only [List.map_append]; try rfl) rfl rfl ?_
    refine wr 1 rfl trivial ?_
    refine WR.nil (by kernel_rfl) (WQ.blockNormal (WQ.thenNormal (WC.region ?_)))
    refine lr 2 rfl trivial ?_
    refine WL.nil ?_
    cases h
    exact WQ.next [(1004, 32)] ((IntKind.i64.wrap (t192 + (1 : Int))), (materials6 ++ [((x6.Name ++ ([58] : Str)) ++ v13)])) ⟨(by exact ⟨rfl, rfl, rfl, rfl, rfl, rfl, rfl, trivial⟩), (by exact ⟨rfl, rfl, trivial⟩), rfl, rfl, rfl, rfl⟩ (hn2 _ hf2)
   ·replace h := ite_f hc6 h
    refine WC.exit (WQ.thenExit ?_)
    cases h
    have he := he2 _ hf2
    subst he
    replace h := hk2
    try dsimp only at h
    refine WQ.thenExit (WQ.blockExit ?_)
    exact WQ.cut [] materials6 ⟨(by exact ⟨rfl, rfl, rfl, rfl, trivial⟩), (by exact ⟨rfl, rfl, trivial⟩), rfl, rfl, rfl, rfl⟩ h
  ·intro materials h
   replace h : goodsFormat_j1 g v2 materials = some _ := h
   unfold goodsFormat_j1 at h
   show WC _ _ _ ⟨[(5, .v (.raw (.slice none 0 0))), (4, .r 1004), (3, .v (.str v2)), (1, .p 1 0)], [(1004, .row 9 1 (materials.map eStr)), (1, .blk 28 [.v (.sl 1 (g.Words.map eStr)), .v (.sl 2 (g.Materials.map eApiMaterial)), .v (.sl 2 (g.Parts.map eApiComponent)), .v (.bool g.Incomplete)])]⟩ _ _
   refine WC.seq (WC.seq (WC.region ?_))
   refine lr 2 rfl trivial ?_
   refine WL.q [] rfl rfl rfl (q_ev tbOk (.v (.int .i64 (g.Parts.length : Int))) rfl (by exact trivial) (by exact lenT)) ?_
   refine lr 1 rfl trivial ?_
   refine WL.nil (WQ.thenNormal ?_)
   refine WC.thenCut (X := (List Str) × (List Str)) (fun gG => ⟨[(5, .r 1005), (4, .r 1004), (3, .v (.str v2)), (1, .p 1 0)], [(1005, .row 9 1 (gG.1.map eStr)), (1004, .row 9 1 (gG.2.map eStr)), (1, .blk 28 [.v (.sl 1 (g.Words.map eStr)), .v (.sl 2 (g.Materials.map eApiMaterial)), .v (.sl 2 (g.Parts.map eApiComponent)), .v (.bool g.Incomplete)])]⟩) (fun gG => goodsFormat_j2 g v2 gG.1 gG.2 = some r) ?_ ?_
   ·refine WC.block ?_
    obtain ⟨eQ1, hl1, hk1⟩ := bnd h
    clear h
    refine WC.rowNil 5 1005 9 1 rfl rfl ?_
    refine WC.loop (σ := Int × (List Str) × (List Str)) (τ := ((List Str) × (List Str))) (fun sS => ⟨[(37, .v (.int .i64 sS.1)), (36, .v (.int .i64 (g.Parts.length : Int))), (35, .v (.sl 2 (g.Parts.map eApiComponent))), (5, .r 1005), (4, .r 1004), (3, .v (.str v2)), (1, .p 1 0)], [(1005, .row 9 1 (sS.2.1.map eStr)), (1004, .row 9 1 (sS.2.2.map eStr)), (1, .blk 28 [.v (.sl 1 (g.Words.map eStr)), .v (.sl 2 (g.Materials.map eApiMaterial)), .v (.sl 2 (g.Parts.map eApiComponent)), .v (.bool g.Incomplete)])]⟩) (goodsFormat_b1 g v2) [] ((0 : Int), [], materials) hl1 ⟨(by exact ⟨rfl, rfl, rfl, rfl, rfl, rfl, rfl, trivial⟩), (by exact ⟨rfl, rfl, rfl, trivial⟩), rfl, rfl, rfl, rfl⟩ ?_
    rintro ⟨t372, parts3, materials4⟩ m hn1 he1 hx1
    obtain ⟨o1, hf1⟩ := some_of hx1
    have h := hf1
    unfold goodsFormat_b1 at h
    show WC _ _ _ ⟨[(37, .v (.int .i64 t372)), (36, .v (.int .i64 (g.Parts.length : Int))), (35, .v (.sl 2 (g.Parts.map eApiComponent))), (5, .r 1005), (4, .r 1004), (3, .v (.str v2)), (1, .p 1 0)], [(1005, .row 9 1 (parts3.map eStr)), (1004, .row 9 1 (materials4.map eStr)), (1, .blk 28 [.v (.sl 1 (g.Words.map eStr)), .v (.sl 2 (g.Materials.map eApiMaterial)), .v (.sl 2 (g.Parts.map eApiComponent)), .v (.bool g.Incomplete)])]⟩ _ _
    refine WC.seq (WC.region ?_)
    refine lr 1 rfl trivial ?_
    refine WL.nil (WQ.thenNormal (WC.seq ?_))
    refine WC.cond rfl (fun hc5 => ?_) (fun hc5 => ?_)
    ·replace h := ite_t hc5 h
     refine WC.skip (WQ.thenNormal (WC.seq (WC.block (WC.seq (WC.region ?_)))))
     obtain ⟨g6, h⟩ := grd h
     replace h := bnd h; obtain ⟨x3, hxx3, h⟩ := h
     refine WL.q [] rfl rfl rfl (q_idx tbOk rfl (by exact trivial) g6 (map_get (f := eApiComponent) hxx3)) ?_
     refine lr 3 rfl trivial ?_
     refine WL.nil (WQ.thenNormal (WC.order mixed ?_))
     refine wr 3 rfl trivial ?_
     replace h := bnd h; obtain ⟨v9, hvv9, h⟩ := h
     refine WR.call0 fn51 rfl rfl rfl rfl (by exact trivial) rfl (joinS_con hw hvv9) ?_
     obtain ⟨g7, h⟩ := grd h
     refine wr 3 rfl (by repeat' (first | exact trivial | assumption | intro _ | exact g7 (by assumption) | apply And.intro | exact sideT | (refine and_i ?_ ?_))) ?_
     replace h := bnd h; obtain ⟨v10, hvv10, h⟩ := h
     refine WR.call0 fn52 rfl rfl rfl rfl (by exact trivial) rfl (itoa_con hw hvv10) ?_
     obtain ⟨g8, h⟩ := grd h
     refine wr 2 rfl (by repeat' (first | exact trivial | assumption | intro _ | exact g8 (by assumption) | apply And.intro | exact sideT | (refine and_i ?_ ?_))) ?_
     obtain ⟨g9, h⟩ := grd h
     refine WR.append tbOk ((parts3 ++ [((v9 ++ ([58] : Str)) ++ v10)]).map eStr) [51, 1005] ap22 rfl rfl rfl rfl (fun _ e => by cases e; rfl) (by exact trivial) (map_cells (f := eStr) (xs := [((v9 ++ ([58] : Str)) ++ v10)]) fun _ => rfl) (by have := g9; simp only [List.length_map, List.length_nil, List.length_cons] at this ⊢; omega) rfl rfl (by simp only [List.map_append]; try rfl) rfl rfl ?_
     refine wr 1 rfl trivial ?_
     refine WR.nil (by kernel_rfl) (WQ.blockNormal (WQ.thenNormal (WC.region ?_)))
     refine lr 2 rfl trivial ?_
     refine WL.nil ?_
     cases h
     exact WQ.next [(1005, 51)] ((IntKind.i64.wrap (t372 + (1 : Int))), (parts3 ++ [((v9 ++ ([58] : Str)) ++ v10)]), materials4) ⟨(by exact ⟨rfl, rfl, rfl, rfl, rfl, rfl, rfl, trivial⟩), (by exact ⟨rfl, rfl, rfl, trivial⟩), rfl, rfl, rfl, rfl⟩ (hn1 _ hf1)
    ·replace h := ite_f hc5 h
     refine WC.exit (WQ.thenExit ?_)
     cases h
     have he := he1 _ hf1
     subst he
     replace h := hk1
     try dsimp only at h
     refine WQ.thenExit (WQ.blockExit ?_)
     exact WQ.cut [] (parts3, materials4) ⟨(by exact ⟨rfl, rfl, rfl, rfl, trivial⟩), (by exact ⟨rfl, rfl, rfl, trivial⟩), rfl, rfl, rfl, rfl⟩ h
   ·rintro ⟨parts, materials2⟩ h
    replace h : goodsFormat_j2 g v2 parts materials2 = some _ := h
    unfold goodsFormat_j2 at h
    show WC _ _ _ ⟨[(5, .r 1005), (4, .r 1004), (3, .v (.str v2)), (1, .p 1 0)], [(1005, .row 9 1 (parts.map eStr)), (1004, .row 9 1 (materials2.map eStr)), (1, .blk 28 [.v (.sl 1 (g.Words.map eStr)), .v (.sl 2 (g.Materials.map eApiMaterial)), .v (.sl 2 (g.Parts.map eApiComponent)), .v (.bool g.Incomplete)])]⟩ _ _
    refine WC.seq (WC.seq (WC.region ?_))
    refine lr 1 rfl trivial ?_
    refine WL.q [1004] rfl rfl rfl (q_ev tbOk (.v (.int .i64 (materials2.length : Int))) rfl (by exact trivial) (by exact lenT)) ?_
    refine lr 1 rfl trivial ?_
    refine WL.nil (WQ.thenNormal ?_)
    refine WC.thenCut (X := Str × (List Str)) (fun gG => ⟨[(3, .v (.str gG.1)), (5, .r 1005), (1, .p 1 0)], [(1005, .row 9 1 (gG.2.map eStr)), (1, .blk 28 [.v (.sl 1 (g.Words.map eStr)), .v (.sl 2 (g.Materials.map eApiMaterial)), .v (.sl 2 (g.Parts.map eApiComponent)), .v (.bool g.Incomplete)])]⟩) (fun gG => goodsFormat_j3 g gG.1 gG.2 = some r) ?_ ?_
    ·refine WC.cond rfl (fun hc4 => ?_) (fun hc4 => ?_)
     ·replace h := ite_t hc4 h
      refine WC.publish 1004 rfl rfl ?_
      refine WC.region ?_
      refine lr 2 rfl trivial ?_
      replace h := bnd h; obtain ⟨v4, hvv4, h⟩ := h
      refine WL.call0 fn51 rfl rfl rfl rfl (by exact trivial) rfl (joinS_con hw hvv4) ?_
      obtain ⟨g4, h⟩ := grd h
      obtain ⟨g5, h⟩ := grd h
      refine lr 3 rfl (by repeat' (first | exact trivial | assumption | intro _ | exact g4 (by assumption) | exact g5 (by assumption) | apply And.intro | exact sideT | (refine and_i ?_ ?_))) ?_
      refine WL.nil ?_
      exact WQ.cut [] ((v2 ++ (([32, 109, 58] : Str) ++ v4)), parts) ⟨(by exact ⟨rfl, rfl, rfl, trivial⟩), (by exact ⟨rfl, rfl, trivial⟩), rfl, rfl, rfl, rfl⟩ h
     ·replace h := ite_f hc4 h
      refine WC.skip ?_
      exact WQ.cut [] (v2, parts) ⟨(by exact ⟨rfl, rfl, rfl, trivial⟩), (by exact ⟨rfl, rfl, trivial⟩), rfl, rfl, rfl, rfl⟩ h
    ·rintro ⟨text, parts2⟩ h
     replace h : goodsFormat_j3 g text parts2 = some _ := h
     unfold goodsFormat_j3 at h
     show WC _ _ _ ⟨[(3, .v (.str text)), (5, .r 1005), (1, .p 1 0)], [(1005, .row 9 1 (parts2.map eStr)), (1, .blk 28 [.v (.sl 1 (g.Words.map eStr)), .v (.sl 2 (g.Materials.map eApiMaterial)), .v (.sl 2 (g.Parts.map eApiComponent)), .v (.bool g.Incomplete)])]⟩ _ _
     refine WC.seq (WC.seq (WC.region ?_))
     refine lr 1 rfl trivial ?_
     refine WL.q [1005] rfl rfl rfl (q_ev tbOk (.v (.int .i64 (parts2.length : Int))) rfl (by exact trivial) (by exact lenT)) ?_
     refine lr 1 rfl trivial ?_
     refine WL.nil (WQ.thenNormal ?_)
     refine WC.thenCut (X := Str) (fun gG => ⟨[(3, .v (.str gG)), (1, .p 1 0)], [(1, .blk 28 [.v (.sl 1 (g.Words.map eStr)), .v (.sl 2 (g.Materials.map eApiMaterial)), .v (.sl 2 (g.Parts.map eApiComponent)), .v (.bool g.Incomplete)])]⟩) (fun gG => goodsFormat_j4 g gG = some r) ?_ ?_
     ·refine WC.cond rfl (fun hc3 => ?_) (fun hc3 => ?_)
      ·replace h := ite_t hc3 h
       refine WC.publish 1005 rfl rfl ?_
       refine WC.region ?_
       refine lr 2 rfl trivial ?_
       replace h := bnd h; obtain ⟨v3, hvv3, h⟩ := h
       refine WL.call0 fn51 rfl rfl rfl rfl (by exact trivial) rfl (joinS_con hw hvv3) ?_
       obtain ⟨g2, h⟩ := grd h
       obtain ⟨g3, h⟩ := grd h
       refine lr 3 rfl (by repeat' (first | exact trivial | assumption | intro _ | exact g2 (by assumption) | exact g3 (by assumption) | apply And.intro | exact sideT | (refine and_i ?_ ?_))) ?_
       refine WL.nil ?_
       exact WQ.cut [] (text ++ (([32, 112, 58] : Str) ++ v3)) ⟨(by exact ⟨rfl, rfl, trivial⟩), (by exact ⟨rfl, trivial⟩), rfl, rfl, rfl, rfl⟩ h
      ·replace h := ite_f hc3 h
       refine WC.skip ?_
       exact WQ.cut [] text ⟨(by exact ⟨rfl, rfl, trivial⟩), (by exact ⟨rfl, trivial⟩), rfl, rfl, rfl, rfl⟩ h
     ·intro text2 h
      replace h : goodsFormat_j4 g text2 = some _ := h
      unfold goodsFormat_j4 at h
      show WC _ _ _ ⟨[(3, .v (.str text2)), (1, .p 1 0)], [(1, .blk 28 [.v (.sl 1 (g.Words.map eStr)), .v (.sl 2 (g.Materials.map eApiMaterial)), .v (.sl 2 (g.Parts.map eApiComponent)), .v (.bool g.Incomplete)])]⟩ _ _
      refine WC.seq (WC.seq (WC.region ?_))
      refine lr 2 rfl trivial ?_
      refine WL.nil (WQ.thenNormal ?_)
      refine WC.thenCut (X := Str) (fun gG => ⟨[(3, .v (.str gG))], []⟩) (fun gG => goodsFormat_j5 gG = some r) ?_ ?_
      ·refine WC.cond rfl (fun hc2 => ?_) (fun hc2 => ?_)
       ·replace h := ite_t hc2 h
        refine WC.region ?_
        obtain ⟨g1, h⟩ := grd h
        refine lr 3 rfl (by repeat' (first | exact trivial | assumption | intro _ | exact g1 (by assumption) | apply And.intro | exact sideT | (refine and_i ?_ ?_))) ?_
        refine WL.nil ?_
        exact WQ.cut [] (text2 ++ ([32, 105, 110, 99, 111, 109, 112, 108, 101, 116, 101] : Str)) ⟨(by exact ⟨rfl, trivial⟩), (by exact trivial), rfl, rfl, rfl, rfl⟩ h
       ·replace h := ite_f hc2 h
        refine WC.skip ?_
        exact WQ.cut [] text2 ⟨(by exact ⟨rfl, trivial⟩), (by exact trivial), rfl, rfl, rfl, rfl⟩ h
      ·intro text3 h
       replace h : goodsFormat_j5 text3 = some _ := h
       unfold goodsFormat_j5 at h
       show WC _ _ _ ⟨[(3, .v (.str text3))], []⟩ _ _
       refine WC.seq (WC.region ?_)
       refine lr 2 rfl trivial ?_
       refine WL.nil (WQ.thenNormal (WC.ret ?_))
       cases h
       exact WQ.rets tbOk hR [] (.inl rfl) rfl rfl (Le.refl _) (by exact trivial) rfl rfl rfl rfl

theorem goodsShare_con {wg : World} (hw : WG wg) {s : Str} {r : Str × Int} (h : goodsShare s = some r) : Con Tryz.prog wg gl 43 [.v (.str s)] [] (.tup [.v (.str r.1), .v (.int .i64 r.2)]) [] := by
 unfold goodsShare at h
 refine con_of_WC (S := slotsOf 0 _) Tryz.func43 rfl Tryz.ntmps43 rfl (fun t x hx => (slotsOf_get hx).2) ?_
 intro F L w ρ0 R hR
 show WC _ _ _ ⟨[(0, .v (.str s))], []⟩ _ _
 refine WC.seq (WC.region ?_)
 refine lr 2 rfl trivial ?_
 refine WL.nil (WQ.thenNormal (WC.seq (WC.region ?_)))
 refine lr 1 rfl trivial ?_
 replace h := bnd h; obtain ⟨v, hvv, h⟩ := h
 refine WL.call0 fn67 rfl rfl rfl rfl (by exact trivial) rfl (cutS_con hw hvv) ?_
 refine lr 7 rfl trivial ?_
 refine WL.nil (WQ.thenNormal (WC.seq (WC.region ?_)))
 refine lr 1 rfl trivial ?_
 replace h := bnd h; obtain ⟨v2, hvv2, h⟩ := h
 refine WL.call0 fn68 rfl rfl rfl rfl (by exact trivial) rfl (atoiS_con hw hvv2) ?_
 refine lr 5 rfl trivial ?_
 refine WL.nil (WQ.thenNormal (WC.seq (WC.seq (WC.region ?_))))
 refine lr 2 rfl trivial ?_
 refine WL.nil (WQ.thenNormal ?_)
 refine WC.thenCut (X := Int) (fun gG => ⟨[(7, .v (.int .i64 gG)), (4, .v (.str v.1))], []⟩) (fun gG => goodsShare_j1 v gG = some r) ?_ ?_
 ·refine WC.cond rfl (fun hc1 => ?_) (fun hc1 => ?_)
  ·replace h := ite_t hc1 h
   refine WC.region ?_
   refine lr 1 rfl trivial ?_
   refine WL.nil ?_
   exact WQ.cut [] (0 : Int) ⟨(by exact ⟨rfl, rfl, trivial⟩), (by exact trivial), rfl, rfl, rfl, rfl⟩ h
  ·replace h := ite_f hc1 h
   refine WC.skip ?_
   exact WQ.cut [] v2.1 ⟨(by exact ⟨rfl, rfl, trivial⟩), (by exact trivial), rfl, rfl, rfl, rfl⟩ h
 ·intro n1 h
  replace h : goodsShare_j1 v n1 = some _ := h
  unfold goodsShare_j1 at h
  show WC _ _ _ ⟨[(7, .v (.int .i64 n1)), (4, .v (.str v.1))], []⟩ _ _
  refine WC.seq (WC.region ?_)
  refine lr 4 rfl trivial ?_
  refine WL.nil (WQ.thenNormal (WC.ret ?_))
  cases h
  exact WQ.rets tbOk (r := .tup [.v (.str v.1), .v (.int .i64 n1)]) hR [] (.inl rfl) rfl rfl (Le.tup (.cons (Le.refl _) (.cons (Le.refl _) .nil))) (by exact trivial) rfl rfl rfl rfl

theorem goodsParse_con {wg : World} (hw : WG wg) {s : Str} {r : ApiGood × Int} (h : goodsParse s = some r) : Con Tryz.prog wg gl 29 [.v (.str s)] [] (.tup [.v (.agg [.sl 1 (r.1.Words.map eStr), .sl 2 (r.1.Materials.map eApiMaterial), .sl 2 (r.1.Parts.map eApiComponent), .bool r.1.Incomplete]), .v (.int .i64 r.2)]) [] := by
 unfold goodsParse at h
 refine con_of_WC (S := slotsOf 0 _) Tryz.func29 rfl Tryz.ntmps29 rfl (fun t x hx => (slotsOf_get hx).2) ?_
 intro F L w ρ0 R hR
 show WC _ _ _ ⟨[(0, .v (.str s))], []⟩ _ _
 refine WC.seq (WC.region ?_)
 refine lr 2 rfl trivial ?_
 refine WL.nil (WQ.thenNormal (WC.seq (WC.region ?_)))
 refine lr 1 rfl trivial ?_
 replace h := bnd h; obtain ⟨v, hvv, h⟩ := h
 refine WL.call0 fn41 rfl rfl rfl rfl (by exact trivial) rfl (splitS_con hw hvv) ?_
 refine lr 1 rfl trivial ?_
 refine WL.nil (WQ.thenNormal (WC.seq (WC.region ?_)))
 refine lr 1 rfl trivial ?_
 replace h := bnd h; obtain ⟨x, hxx, h⟩ := h
 refine WL.q [] rfl rfl rfl (q_idx tbOk rfl (by exact trivial) (by decide) (map_get (f := eStr) hxx)) ?_
 refine lr 1 rfl trivial ?_
 replace h := bnd h; obtain ⟨v2, hvv2, h⟩ := h
 refine WL.call0 fn41 rfl rfl rfl rfl (by exact trivial) rfl (splitS_con hw hvv2) ?_
 refine lr 3 rfl trivial ?_
 refine WL.nil (WQ.thenNormal (WC.seq (WC.seq (WC.region ?_))))
 refine lr 1 rfl trivial ?_
 obtain ⟨g1, h⟩ := grd h
 refine WL.q [] rfl rfl rfl (q_ev tbOk (.v (.sl 1 ((v.drop (1 : Int).toNat).map eStr))) rfl (by exact sideR) (by exact tdT)) ?_
 refine WL.q [] rfl rfl rfl (q_ev tbOk (.v (.int .i64 ((v.drop (1 : Int).toNat).length : Int))) rfl (by exact trivial) (by exact lenT)) ?_
 refine lr 1 rfl trivial ?_
 refine WL.nil (WQ.thenNormal ?_)
 refine WC.thenCut (X := (List ApiMaterial) × (List ApiComponent) × Bool) (fun gG => ⟨[(5, .p 5 0), (2, .p 2 0), (0, .v (.str s))], [(2, .blk 28 [.v (.raw (.slice none 0 0)), .v (.raw (.slice none 0 0)), .v (.raw (.slice none 0 0)), .v (.bool false)]), (2251, .row 44 2 (gG.1.map eApiMaterial)), (2252, .row 46 2 (gG.2.1.map eApiComponent)), (5, .blk 28 [.v (.sl 1 (v2.map eStr)), .r 2251, .r 2252, .v (.bool gG.2.2)])]⟩) (fun gG => goodsParse_j1 s v2 gG.1 gG.2.1 gG.2.2 = some r) ?_ ?_
 ·refine WC.block ?_
  obtain ⟨eQ1, hl1, hk1⟩ := bnd h
  clear h
  refine WC.rowNilB 5 1 2251 44 2 rfl rfl rfl (cs2 := [.v (.sl 1 (v2.map eStr)), .r 2251, .v (.raw (.slice none 0 0)), .v (.bool false)]) rfl ?_
  refine WC.rowNilB 5 2 2252 46 2 rfl rfl rfl (cs2 := [.v (.sl 1 (v2.map eStr)), .r 2251, .r 2252, .v (.bool false)]) rfl ?_
  refine WC.loop (σ := Int × (List ApiMaterial) × (List ApiComponent) × Bool) (τ := ((List ApiMaterial) × (List ApiComponent) × Bool)) (fun sS => ⟨[(30, .v (.int .i64 sS.1)), (29, .v (.int .i64 ((v.drop (1 : Int).toNat).length : Int))), (28, .v (.sl 1 ((v.drop (1 : Int).toNat).map eStr))), (5, .p 5 0), (2, .p 2 0), (0, .v (.str s))], [(2, .blk 28 [.v (.raw (.slice none 0 0)), .v (.raw (.slice none 0 0)), .v (.raw (.slice none 0 0)), .v (.bool false)]), (2251, .row 44 2 (sS.2.1.map eApiMaterial)), (2252, .row 46 2 (sS.2.2.1.map eApiComponent)), (5, .blk 28 [.v (.sl 1 (v2.map eStr)), .r 2251, .r 2252, .v (.bool sS.2.2.2)])]⟩) (goodsParse_b1 s v v2) [] ((0 : Int), [], [], false) hl1 ⟨(by exact ⟨rfl, rfl, rfl, rfl, rfl, rfl, trivial⟩), (by exact ⟨rfl, rfl, rfl, rfl, trivial⟩), rfl, rfl, rfl, rfl⟩ ?_
  rintro ⟨t302, c5_15, c5_25, c5_34⟩ m hn1 he1 hx1
  obtain ⟨o1, hf1⟩ := some_of hx1
  have h := hf1
  unfold goodsParse_b1 at h
  show WC _ _ _ ⟨[(30, .v (.int .i64 t302)), (29, .v (.int .i64 ((v.drop (1 : Int).toNat).length : Int))), (28, .v (.sl 1 ((v.drop (1 : Int).toNat).map eStr))), (5, .p 5 0), (2, .p 2 0), (0, .v (.str s))], [(2, .blk 28 [.v (.raw (.slice none 0 0)), .v (.raw (.slice none 0 0)), .v (.raw (.slice none 0 0)), .v (.bool false)]), (2251, .row 44 2 (c5_15.map eApiMaterial)), (2252, .row 46 2 (c5_25.map eApiComponent)), (5, .blk 28 [.v (.sl 1 (v2.map eStr)), .r 2251, .r 2252, .v (.bool c5_34)])]⟩ _ _
  refine WC.seq (WC.region ?_)
  refine lr 1 rfl trivial ?_
  refine WL.nil (WQ.thenNormal (WC.seq ?_))
  refine WC.cond rfl (fun hc2 => ?_) (fun hc2 => ?_)
  ·replace h := ite_t hc2 h
   refine WC.skip (WQ.thenNormal (WC.seq ?_))
   refine WC.thenCut (X := (List ApiMaterial) × (List ApiComponent) × Bool) (fun gG => ⟨[(30, .v (.int .i64 t302)), (29, .v (.int .i64 ((v.drop (1 : Int).toNat).length : Int))), (28, .v (.sl 1 ((v.drop (1 : Int).toNat).map eStr))), (5, .p 5 0), (2, .p 2 0), (0, .v (.str s))], [(2, .blk 28 [.v (.raw (.slice none 0 0)), .v (.raw (.slice none 0 0)), .v (.raw (.slice none 0 0)), .v (.bool false)]), (2251, .row 44 2 (gG.1.map eApiMaterial)), (2252, .row 46 2 (gG.2.1.map eApiComponent)), (5, .blk 28 [.v (.sl 1 (v2.map eStr)), .r 2251, .r 2252, .v (.bool gG.2.2)])]⟩) (fun gG => goodsParse_j2 s v v2 t302 gG.1 gG.2.1 gG.2.2 = some o1) ?_ ?_
   ·refine WC.block (WC.seq (WC.region ?_))
    obtain ⟨g2, h⟩ := grd h
    replace h := bnd h; obtain ⟨x14, hxx14, h⟩ := h
    refine WL.q [] rfl rfl rfl (q_idx tbOk rfl (by exact trivial) g2 (map_get (f := eStr) hxx14)) ?_
    refine lr 2 rfl trivial ?_
    refine WL.nil (WQ.thenNormal (WC.seq (WC.region ?_)))
    refine lr 1 rfl trivial ?_
    replace h := bnd h; obtain ⟨v28, hvv28, h⟩ := h
    refine WL.call0 fn42 rfl rfl rfl rfl (by exact trivial) rfl (cutPrefixS_con hw hvv28) ?_
    refine lr 5 rfl trivial ?_
    refine WL.nil (WQ.thenNormal (WC.seq (WC.region ?_)))
    refine lr 1 rfl trivial ?_
    refine WL.nil (WQ.thenNormal ?_)
    refine WC.cond rfl (fun hc3 => ?_) (fun hc3 => ?_)
    ·replace h := ite_t hc3 h
     refine WC.seq (WC.region ?_)
     refine lr 1 rfl trivial ?_
     replace h := bnd h; obtain ⟨v29, hvv29, h⟩ := h
     refine WL.call0 fn41 rfl rfl rfl rfl (by exact trivial) rfl (splitS_con hw hvv29) ?_
     refine WL.q [] rfl rfl rfl (q_ev tbOk (.v (.int .i64 (v29.length : Int))) rfl (by exact trivial) (by exact lenT)) ?_
     refine lr 1 rfl trivial ?_
     refine WL.nil (WQ.thenNormal (WC.block ?_))
     obtain ⟨eQ2, hl2, hk2⟩ := bnd h
     clear h
     refine WC.loop (σ := Int × (List ApiMaterial) × (List ApiComponent)) (τ := ((List ApiMaterial) × (List ApiComponent))) (fun sS => ⟨[(43, .v (.int .i64 sS.1)), (42, .v (.int .i64 (v29.length : Int))), (41, .v (.sl 1 (v29.map eStr))), (30, .v (.int .i64 t302)), (29, .v (.int .i64 ((v.drop (1 : Int).toNat).length : Int))), (28, .v (.sl 1 ((v.drop (1 : Int).toNat).map eStr))), (5, .p 5 0), (2, .p 2 0), (0, .v (.str s))], [(2, .blk 28 [.v (.raw (.slice none 0 0)), .v (.raw (.slice none 0 0)), .v (.raw (.slice none 0 0)), .v (.bool false)]), (2251, .row 44 2 (sS.2.1.map eApiMaterial)), (2252, .row 46 2 (sS.2.2.map eApiComponent)), (5, .blk 28 [.v (.sl 1 (v2.map eStr)), .r 2251, .r 2252, .v (.bool c5_34)])]⟩) (goodsParse_b2 s v v2 t302 c5_34 v29) [] ((0 : Int), c5_15, c5_25) hl2 ⟨(by exact ⟨rfl, rfl, rfl, rfl, rfl, rfl, rfl, rfl, rfl, trivial⟩), (by exact ⟨rfl, rfl, rfl, rfl, trivial⟩), rfl, rfl, rfl, rfl⟩ ?_
     rintro ⟨t435, c5_115, c5_215⟩ m hn2 he2 hx2
     obtain ⟨o2, hf2⟩ := some_of hx2
     have h := hf2
     unfold goodsParse_b2 at h
     show WC _ _ _ ⟨[(43, .v (.int .i64 t435)), (42, .v (.int .i64 (v29.length : Int))), (41, .v (.sl 1 (v29.map eStr))), (30, .v (.int .i64 t302)), (29, .v (.int .i64 ((v.drop (1 : Int).toNat).length : Int))), (28, .v (.sl 1 ((v.drop (1 : Int).toNat).map eStr))), (5, .p 5 0), (2, .p 2 0), (0, .v (.str s))], [(2, .blk 28 [.v (.raw (.slice none 0 0)), .v (.raw (.slice none 0 0)), .v (.raw (.slice none 0 0)), .v (.bool false)]), (2251, .row 44 2 (c5_115.map eApiMaterial)), (2252, .row 46 2 (c5_215.map eApiComponent)), (5, .blk 28 [.v (.sl 1 (v2.map eStr)), .r 2251, .r 2252, .v (.bool c5_34)])]⟩ _ _
     refine WC.seq (WC.region ?_)
     refine lr 1 rfl trivial ?_
     refine WL.nil (WQ.thenNormal (WC.seq ?_))
     refine WC.cond rfl (fun hc4 => ?_) (fun hc4 => ?_)
     ·replace h := ite_t hc4 h
      refine WC.skip (WQ.thenNormal (WC.seq (WC.block (WC.seq (WC.region ?_)))))
      obtain ⟨g3, h⟩ := grd h
      replace h := bnd h; obtain ⟨x16, hxx16, h⟩ := h
      refine WL.q [] rfl rfl rfl (q_idx tbOk rfl (by exact trivial) g3 (map_get (f := eStr) hxx16)) ?_
      refine lr 2 rfl trivial ?_
      refine WL.nil (WQ.thenNormal (WC.seq (WC.region ?_)))
      refine lr 1 rfl trivial ?_
      replace h := bnd h; obtain ⟨v31, hvv31, h⟩ := h
      refine WL.call0 fn43 rfl rfl rfl rfl (by exact trivial) rfl (goodsShare_con hw hvv31) ?_
      refine lr 5 rfl trivial ?_
      refine WL.nil (WQ.thenNormal (WC.region ?_))
      refine lr 6 rfl trivial ?_
      obtain ⟨g4, h⟩ := grd h
      refine WL.append tbOk ((c5_115 ++ [(⟨v31.1, v31.2⟩ : ApiMaterial)]).map eApiMaterial) [58, 2251] ap25 rfl rfl rfl rfl (fun _ e => by cases e; rfl) (by exact trivial) (map_cells (f := eApiMaterial) (xs := [(⟨v31.1, v31.2⟩ : ApiMaterial)]) fun _ => rfl) (by have := g4; simp only [List.length_map, List.length_nil, List.length_cons] at this ⊢; omega) rfl rfl (by simp only [List.map_append]; try rfl) rfl ?_
      refine lr 2 rfl trivial ?_
      refine WL.nil (WQ.blockNormal (WQ.thenNormal (WC.region ?_)))
      refine lr 2 rfl trivial ?_
      refine WL.nil ?_
      cases h
      exact WQ.next [(2251, 58)] ((IntKind.i64.wrap (t435 + (1 : Int))), (c5_115 ++ [(⟨v31.1, v31.2⟩ : ApiMaterial)]), c5_215) ⟨(by exact ⟨rfl, rfl, rfl, rfl, rfl, rfl, rfl, rfl, rfl, trivial⟩), (by exact ⟨rfl, rfl, rfl, rfl, trivial⟩), rfl, rfl, rfl, rfl⟩ (hn2 _ hf2)
     ·replace h := ite_f hc4 h
      refine WC.exit (WQ.thenExit ?_)
      cases h
      have he := he2 _ hf2
      subst he
      replace h := hk2
      try dsimp only at h
      refine WQ.thenExit (WQ.blockExit (WQ.blockNormal ?_))
      exact WQ.cut [] (c5_115, c5_215, c5_34) ⟨(by exact ⟨rfl, rfl, rfl, rfl, rfl, rfl, trivial⟩), (by exact ⟨rfl, rfl, rfl, rfl, trivial⟩), rfl, rfl, rfl, rfl⟩ h
    ·replace h := ite_f hc3 h
     refine WC.seq (WC.region ?_)
     refine lr 1 rfl trivial ?_
     replace h := bnd h; obtain ⟨v32, hvv32, h⟩ := h
     refine WL.call0 fn42 rfl rfl rfl rfl (by exact trivial) rfl (cutPrefixS_con hw hvv32) ?_
     refine lr 5 rfl trivial ?_
     refine WL.nil (WQ.thenNormal (WC.seq (WC.region ?_)))
     refine lr 1 rfl trivial ?_
     refine WL.nil (WQ.thenNormal ?_)
     refine WC.cond rfl (fun hc5 => ?_) (fun hc5 => ?_)
     ·replace h := ite_t hc5 h
      refine WC.seq (WC.region ?_)
      refine lr 1 rfl trivial ?_
      replace h := bnd h; obtain ⟨v33, hvv33, h⟩ := h
      refine WL.call0 fn41 rfl rfl rfl rfl (by exact trivial) rfl (splitS_con hw hvv33) ?_
      refine WL.q [] rfl rfl rfl (q_ev tbOk (.v (.int .i64 (v33.length : Int))) rfl (by exact trivial) (by exact lenT)) ?_
      refine lr 1 rfl trivial ?_
      refine WL.nil (WQ.thenNormal (WC.block ?_))
      obtain ⟨eQ3, hl3, hk3⟩ := bnd h
      clear h
      refine WC.loop (σ := Int × (List ApiMaterial) × (List ApiComponent)) (τ := ((List ApiMaterial) × (List ApiComponent))) (fun sS => ⟨[(70, .v (.int .i64 sS.1)), (69, .v (.int .i64 (v33.length : Int))), (68, .v (.sl 1 (v33.map eStr))), (30, .v (.int .i64 t302)), (29, .v (.int .i64 ((v.drop (1 : Int).toNat).length : Int))), (28, .v (.sl 1 ((v.drop (1 : Int).toNat).map eStr))), (5, .p 5 0), (2, .p 2 0), (0, .v (.str s))], [(2, .blk 28 [.v (.raw (.slice none 0 0)), .v (.raw (.slice none 0 0)), .v (.raw (.slice none 0 0)), .v (.bool false)]), (2251, .row 44 2 (sS.2.1.map eApiMaterial)), (2252, .row 46 2 (sS.2.2.map eApiComponent)), (5, .blk 28 [.v (.sl 1 (v2.map eStr)), .r 2251, .r 2252, .v (.bool c5_34)])]⟩) (goodsParse_b3 s v v2 t302 c5_34 v33) [] ((0 : Int), c5_15, c5_25) hl3 ⟨(by exact ⟨rfl, rfl, rfl, rfl, rfl, rfl, rfl, rfl, rfl, trivial⟩), (by exact ⟨rfl, rfl, rfl, rfl, trivial⟩), rfl, rfl, rfl, rfl⟩ ?_
      rintro ⟨t705, c5_118, c5_218⟩ m hn3 he3 hx3
      obtain ⟨o3, hf3⟩ := some_of hx3
      have h := hf3
      unfold goodsParse_b3 at h
      show WC _ _ _ ⟨[(70, .v (.int .i64 t705)), (69, .v (.int .i64 (v33.length : Int))), (68, .v (.sl 1 (v33.map eStr))), (30, .v (.int .i64 t302)), (29, .v (.int .i64 ((v.drop (1 : Int).toNat).length : Int))), (28, .v (.sl 1 ((v.drop (1 : Int).toNat).map eStr))), (5, .p 5 0), (2, .p 2 0), (0, .v (.str s))], [(2, .blk 28 [.v (.raw (.slice none 0 0)), .v (.raw (.slice none 0 0)), .v (.raw (.slice none 0 0)), .v (.bool false)]), (2251, .row 44 2 (c5_118.map eApiMaterial)), (2252, .row 46 2 (c5_218.map eApiComponent)), (5, .blk 28 [.v (.sl 1 (v2.map eStr)), .r 2251, .r 2252, .v (.bool c5_34)])]⟩ _ _
      refine WC.seq (WC.region ?_)
      refine lr 1 rfl trivial ?_
      refine WL.nil (WQ.thenNormal (WC.seq ?_))
      refine WC.cond rfl (fun hc6 => ?_) (fun hc6 => ?_)
      ·replace h := ite_t hc6 h
       refine WC.skip (WQ.thenNormal (WC.seq (WC.block (WC.seq (WC.region ?_)))))
       obtain ⟨g5, h⟩ := grd h
       replace h := bnd h; obtain ⟨x18, hxx18, h⟩ := h
       refine WL.q [] rfl rfl rfl (q_idx tbOk rfl (by exact trivial) g5 (map_get (f := eStr) hxx18)) ?_
       refine lr 2 rfl trivial ?_
       refine WL.nil (WQ.thenNormal (WC.seq (WC.region ?_)))
       refine lr 1 rfl trivial ?_
       replace h := bnd h; obtain ⟨v36, hvv36, h⟩ := h
       refine WL.call0 fn43 rfl rfl rfl rfl (by exact trivial) rfl (goodsShare_con hw hvv36) ?_
       refine lr 5 rfl trivial ?_
       refine WL.nil (WQ.thenNormal (WC.order mixed ?_))
       refine wr 3 rfl trivial ?_
       replace h := bnd h; obtain ⟨v37, hvv37, h⟩ := h
       refine WR.call0 fn41 rfl rfl rfl rfl (by exact trivial) rfl (splitS_con hw hvv37) ?_
       refine wr 3 rfl trivial ?_
       obtain ⟨g6, h⟩ := grd h
       refine WR.append tbOk ((c5_218 ++ [(⟨v37, v36.2⟩ : ApiComponent)]).map eApiComponent) [86, 2252] ap26 rfl rfl rfl rfl (fun _ e => by cases e; rfl) (by exact trivial) (map_cells (f := eApiComponent) (xs := [(⟨v37, v36.2⟩ : ApiComponent)]) fun _ => rfl) (by have := g6; simp only [List.length_map, List.length_nil, List.length_cons] at this ⊢; omega) rfl rfl (by simp only [List.map_append]; try rfl) rfl rfl ?_
       refine wr 2 rfl trivial ?_
       refine WR.nil (by kernel_rfl) (WQ.blockNormal (WQ.thenNormal (WC.region ?_)))
       refine lr 2 rfl trivial ?_
       refine WL.nil ?_
       cases h
       exact WQ.next [(2252, 86)] ((IntKind.i64.wrap (t705 + (1 : Int))), c5_118, (c5_218 ++ [(⟨v37, v36.2⟩ : ApiComponent)])) ⟨(by exact ⟨rfl, rfl, rfl, rfl, rfl, rfl, rfl, rfl, rfl, trivial⟩), (by exact ⟨rfl, rfl, rfl, rfl, trivial⟩), rfl, rfl, rfl, rfl⟩ (hn3 _ hf3)
      ·replace h := ite_f hc6 h
       refine WC.exit (WQ.thenExit ?_)
       cases h
       have he := he3 _ hf3
       subst he
       replace h := hk3
       try dsimp only at h
       refine WQ.thenExit (WQ.blockExit (WQ.blockNormal ?_))
       exact WQ.cut [] (c5_118, c5_218, c5_34) ⟨(by exact ⟨rfl, rfl, rfl, rfl, rfl, rfl, trivial⟩), (by exact ⟨rfl, rfl, rfl, rfl, trivial⟩), rfl, rfl, rfl, rfl⟩ h
     ·replace h := ite_f hc5 h
      refine WC.region ?_
      refine lr 2 rfl trivial ?_
      refine WL.nil (WQ.blockNormal ?_)
      exact WQ.cut [] (c5_15, c5_25, true) ⟨(by exact ⟨rfl, rfl, rfl, rfl, rfl, rfl, trivial⟩), (by exact ⟨rfl, rfl, rfl, rfl, trivial⟩), rfl, rfl, rfl, rfl⟩ h
   ·rintro ⟨c5_114, c5_214, c5_37⟩ h
    replace h : goodsParse_j2 s v v2 t302 c5_114 c5_214 c5_37 = some _ := h
    unfold goodsParse_j2 at h
    show WC _ _ _ ⟨[(30, .v (.int .i64 t302)), (29, .v (.int .i64 ((v.drop (1 : Int).toNat).length : Int))), (28, .v (.sl 1 ((v.drop (1 : Int).toNat).map eStr))), (5, .p 5 0), (2, .p 2 0), (0, .v (.str s))], [(2, .blk 28 [.v (.raw (.slice none 0 0)), .v (.raw (.slice none 0 0)), .v (.raw (.slice none 0 0)), .v (.bool false)]), (2251, .row 44 2 (c5_114.map eApiMaterial)), (2252, .row 46 2 (c5_214.map eApiComponent)), (5, .blk 28 [.v (.sl 1 (v2.map eStr)), .r 2251, .r 2252, .v (.bool c5_37)])]⟩ _ _
    refine WC.region ?_
    refine lr 2 rfl trivial ?_
    refine WL.nil ?_
    cases h
    exact WQ.next [] ((IntKind.i64.wrap (t302 + (1 : Int))), c5_114, c5_214, c5_37) ⟨(by exact ⟨rfl, rfl, rfl, rfl, rfl, rfl, trivial⟩), (by exact ⟨rfl, rfl, rfl, rfl, trivial⟩), rfl, rfl, rfl, rfl⟩ (hn1 _ hf1)
  ·replace h := ite_f hc2 h
   refine WC.exit (WQ.thenExit ?_)
   cases h
   have he := he1 _ hf1
   subst he
   replace h := hk1
   try dsimp only at h
   refine WQ.thenExit (WQ.blockExit ?_)
   exact WQ.cut [] (c5_15, c5_25, c5_34) ⟨(by exact ⟨rfl, rfl, rfl, trivial⟩), (by exact ⟨rfl, rfl, rfl, rfl, trivial⟩), rfl, rfl, rfl, rfl⟩ h
 ·rintro ⟨c5_1, c5_2, c5_3⟩ h
  replace h : goodsParse_j1 s v2 c5_1 c5_2 c5_3 = some _ := h
  unfold goodsParse_j1 at h
  show WC _ _ _ ⟨[(5, .p 5 0), (2, .p 2 0), (0, .v (.str s))], [(2, .blk 28 [.v (.raw (.slice none 0 0)), .v (.raw (.slice none 0 0)), .v (.raw (.slice none 0 0)), .v (.bool false)]), (2251, .row 44 2 (c5_1.map eApiMaterial)), (2252, .row 46 2 (c5_2.map eApiComponent)), (5, .blk 28 [.v (.sl 1 (v2.map eStr)), .r 2251, .r 2252, .v (.bool c5_3)])]⟩ _ _
  refine WC.seq (WC.seq ?_)
  refine WC.publish 2251 rfl rfl ?_
  refine WC.publish 2252 rfl rfl ?_
  refine WC.region ?_
  refine lr 1 rfl trivial ?_
  replace h := bnd h; obtain ⟨v3, hvv3, h⟩ := h
  refine WL.call0 fn31 rfl rfl rfl rfl (by exact trivial) rfl (goodsValidate_con hw hvv3) ?_
  refine lr 3 rfl (by exact sideR) ?_
  replace h := bnd h; obtain ⟨v4, hvv4, h⟩ := h
  refine WL.gcall0 fn32 rfl rfl rfl rfl rfl (fun _ => (by exact sideR)) rfl (fun hg => (goodsFormat_con hw (ite_t hg hvv4))) ?_
  refine lr 3 rfl (by exact sideR) ?_
  refine WL.nil (WQ.thenNormal ?_)
  refine WC.cond rfl (fun hc1 => ?_) (fun hc1 => ?_)
  ·replace h := ite_t hc1 h
   refine WC.seq (WC.region ?_)
   refine lr 3 rfl trivial ?_
   refine WL.nil (WQ.thenNormal (WC.ret (WQ.thenRet ?_)))
   cases h
   exact WQ.rets tbOk (r := .tup [.v (.agg [.sl 1 (((⟨[], [], [], false⟩ : ApiGood).Words).map eStr), .sl 2 (((⟨[], [], [], false⟩ : ApiGood).Materials).map eApiMaterial), .sl 2 (((⟨[], [], [], false⟩ : ApiGood).Parts).map eApiComponent), .bool ((⟨[], [], [], false⟩ : ApiGood).Incomplete)]), .v (.int .i64 (4 : Int))]) hR [] (.inl rfl) rfl rfl (Le.tup (.cons (Le.agg (.sl 1 (.sl 2 (.sl 2 (.same .nil))))) (.cons (Le.refl _) .nil))) (by exact trivial) rfl rfl rfl rfl
  ·replace h := ite_f hc1 h
   refine WC.skip (WQ.thenNormal (WC.seq (WC.region ?_)))
   refine lr 3 rfl trivial ?_
   refine WL.nil (WQ.thenNormal (WC.ret ?_))
   cases h
   exact WQ.rets tbOk (r := .tup [.v (.agg [.sl 1 (((⟨v2, c5_1, c5_2, c5_3⟩ : ApiGood).Words).map eStr), .sl 2 (((⟨v2, c5_1, c5_2, c5_3⟩ : ApiGood).Materials).map eApiMaterial), .sl 2 (((⟨v2, c5_1, c5_2, c5_3⟩ : ApiGood).Parts).map eApiComponent), .bool ((⟨v2, c5_1, c5_2, c5_3⟩ : ApiGood).Incomplete)]), .v (.int .i64 (0 : Int))]) hR [] (.inl rfl) rfl rfl (Le.tup (.cons (Le.refl _) (.cons (Le.refl _) .nil))) (by exact trivial) rfl rfl rfl rfl

end Go.Proofs.YtcfkiahbipjbmaaGreatDoor
