/- Packed by pack.py. -/
import Derived.Test.YtfkefolbabniaaaGreatDoorQx3
import Derived.Test.YtfkefolbabniaaaGreatDoorQx6
import Derived.Test.YtfkefolbabniaaaGreatDoorQx4
import Derived.Test.YtfkefolbabniaaaGreatDoorQx5
import Derived.Test.YtfkefolbabniaaaGreatDoorQx2
import Derived.IntWalk
section
set_option linter.unusedVariables false
set_option linter.unusedSimpArgs false
set_option maxHeartbeats 4000000
set_option maxRecDepth 20000
namespace Go.Proofs.YtfkefolbabniaaaGreatDoor
open Go.V Go.C
theorem incompleteWords_con {wg : World} (hw : WG wg) {g : ApiGood} {r : (List Str)} (h : incompleteWords g = some r) : Con Tryz.prog wg gl 71 [.v (.agg [.sl 1 (g.Words.map eStr), .sl 2 (g.Materials.map eApiMaterial), .sl 2 (g.Parts.map eApiComponent), .bool g.Incomplete])] [] (.v (.sl 1 (r.map eStr))) [] := by
 unfold incompleteWords at h
 refine con_of_WC (S := slotsOf 0 _) Tryz.func71 rfl Tryz.ntmps71 rfl (fun t x hx => (slotsOf_get hx).2) ?_
 intro F L w ρ0 R hR
 try dsimp only [slotsOf]
 refine sr (lr2 rfl (ns (lr3 rfl ?_)))
 replace h := bnd h; obtain ⟨v, hvv, h⟩ := h
 refine WL.call0 fn124 rfl rfl rfl rfl (by exact trivial) rfl (union_con hw hvv) ?_
 refine lr1 rfl (nr ?_)
 cases h
 exact rt tbOk hR
theorem likeness_con {wg : World} (hw : WG wg) {b : ApiNomenclature} {e1 : ApiCodeEntry} {g : ApiGood} {r : Int} (h : likeness b e1 g = some r) : Con Tryz.prog wg gl 32 [.v (.agg [.sl 5 (b.Entries.map eApiCodeEntry), .sl 3 (b.Notes.map eApiCodeNote)]), .v (.agg [.str e1.Code, .int .i64 e1.From, .int .i64 e1.To, .sl 1 (e1.Terms.map eLStr), .bool e1.Other]), .v (.agg [.sl 1 (g.Words.map eStr), .sl 2 (g.Materials.map eApiMaterial), .sl 2 (g.Parts.map eApiComponent), .bool g.Incomplete])] [] (.v (.int .i64 r)) [] := by
 unfold likeness at h
 refine con_of_WC (S := slotsOf 0 _) Tryz.func32 rfl Tryz.ntmps32 rfl (fun t x hx => (slotsOf_get hx).2) ?_
 intro F L w ρ0 R hR
 try dsimp only [slotsOf]
 refine sr (lr4 rfl (nn (WC.seq (sr (lr5 rfl ?_)))))
 replace h := bnd h; obtain ⟨v, hvv, h⟩ := h
 refine WL.call0 fn35 rfl rfl rfl rfl (by exact trivial) rfl (nomExcluded_con hw hvv) ?_
 refine nn ?_
 refine WC.cond rfl (fun hc1 => ?_) (fun hc1 => ?_)
 ·replace h := ite_t hc1 h
  refine sr (lr1 rfl (nr (WQ.thenRet ?_)))
  cases h
  exact rt tbOk hR
 ·replace h := ite_f hc1 h
  refine kn (sr (lr2 rfl ?_))
  replace h := bnd h; obtain ⟨v2, hvv2, h⟩ := h
  refine WL.callO [] [(500, 23)] [23] fn77 rfl rfl rfl rfl (by exact trivial) (cloneR_con hw hvv2) rfl rfl (by exact trivial) rfl rfl rfl rfl rfl rfl ?_
  refine lr1 rfl (nn (WC.seq (sr (lr2 rfl ?_))))
  refine WL.q [] rfl rfl rfl (q_ev tbOk (.v (.int .i64 (g.Materials.length : Int))) rfl (by exact trivial) (by exact lenT)) ?_
  refine lr1 rfl (nn ?_)
  refine WC.thenCut (X := (List Str)) (fun gG => ⟨[(7, .r 1007), (5, .p 5 0), (4, .p 4 0), (3, .p 3 0)], [(1007, .row 9 1 (gG.map eStr)), (3, .blk 28 [.v (.sl 5 (b.Entries.map eApiCodeEntry)), .v (.sl 3 (b.Notes.map eApiCodeNote))]), (4, .blk 54 [.v (.str e1.Code), .v (.int .i64 e1.From), .v (.int .i64 e1.To), .v (.sl 1 (e1.Terms.map eLStr)), .v (.bool e1.Other)]), (5, .blk 43 [.v (.sl 1 (g.Words.map eStr)), .v (.sl 2 (g.Materials.map eApiMaterial)), .v (.sl 2 (g.Parts.map eApiComponent)), .v (.bool g.Incomplete)])]⟩) (fun gG => likeness_j1 b e1 g gG = some r) ?_ ?_
  ·refine WC.block ?_
   obtain ⟨eQ3, hl3, hk3⟩ := bnd h
   clear h
   refine WC.loop (σ := Int × (List Str)) (τ := ((List Str))) (fun sS => ⟨[(27, .v (.int .i64 sS.1)), (26, .v (.int .i64 (g.Materials.length : Int))), (25, .v (.sl 2 (g.Materials.map eApiMaterial))), (7, .r 1007), (5, .p 5 0), (4, .p 4 0), (3, .p 3 0)], [(1007, .row 9 1 (sS.2.map eStr)), (3, .blk 28 [.v (.sl 5 (b.Entries.map eApiCodeEntry)), .v (.sl 3 (b.Notes.map eApiCodeNote))]), (4, .blk 54 [.v (.str e1.Code), .v (.int .i64 e1.From), .v (.int .i64 e1.To), .v (.sl 1 (e1.Terms.map eLStr)), .v (.bool e1.Other)]), (5, .blk 43 [.v (.sl 1 (g.Words.map eStr)), .v (.sl 2 (g.Materials.map eApiMaterial)), .v (.sl 2 (g.Parts.map eApiComponent)), .v (.bool g.Incomplete)])]⟩) (likeness_b3 b e1 g) [(1007, 23)] ((0 : Int), v2) hl3 sub ?_
   rintro ⟨t27, words8⟩ m hn3 he3 hx3
   obtain ⟨o3, hf3⟩ := some_of hx3
   have h := hf3
   unfold likeness_b3 at h
   try dsimp only [slotsOf]
   refine sr (lr1 rfl (nn (WC.seq ?_)))
   refine WC.cond rfl (fun hc4 => ?_) (fun hc4 => ?_)
   ·replace h := ite_t hc4 h
    refine kn (sb (sr ?_))
    obtain ⟨g4, h⟩ := grd h
    replace h := bnd h; obtain ⟨x7, hxx7, h⟩ := h
    refine WL.q [] rfl rfl rfl (q_idx tbOk rfl (by exact trivial) g4 (map_get (f := eApiMaterial) hxx7)) ?_
    refine lr3 rfl (nn (WC.region (lr4 rfl ?_)))
    obtain ⟨g5, h⟩ := grd h
    refine WL.append tbOk ((words8 ++ [x7.Name]).map eStr) [35, 1007] ap31 rfl rfl rfl rfl (fun _ e => by cases e; rfl) (by exact trivial) (map_cells (f := eStr) (xs := [x7.Name]) fun _ => rfl) (by have := g5; simp only [List.length_map, List.length_nil, List.length_cons] at this ⊢; omega) rfl rfl (by simp only [List.map_append]; try rfl) rfl ?_
    refine lr1 rfl (WL.nil (bn (WC.region (lr2 rfl (WL.nil ?_)))))
    cases h
    exact WQ.next [(1007, 35)] ((IntKind.i64.wrap (t27 + (1 : Int))), (words8 ++ [x7.Name])) sub (hn3 _ hf3)
   ·replace h := ite_f hc4 h
    refine WC.exit (WQ.thenExit ?_)
    cases h
    have he := he3 _ hf3
    subst he
    replace h := hk3
    try dsimp only at h
    refine eb ?_
    exact WQ.cut [] words8 sub h
  ·intro words h
   replace h : likeness_j1 b e1 g words = some _ := h
   unfold likeness_j1 at h
   try dsimp only [slotsOf]
   refine WC.seq (sr (lr2 rfl ?_))
   refine WL.q [] rfl rfl rfl (q_ev tbOk (.v (.int .i64 (g.Parts.length : Int))) rfl (by exact trivial) (by exact lenT)) ?_
   refine lr1 rfl (nn ?_)
   refine WC.thenCut (X := (List Str)) (fun gG => ⟨[(7, .r 1007), (4, .p 4 0), (3, .p 3 0)], [(1007, .row 9 1 (gG.map eStr)), (3, .blk 28 [.v (.sl 5 (b.Entries.map eApiCodeEntry)), .v (.sl 3 (b.Notes.map eApiCodeNote))]), (4, .blk 54 [.v (.str e1.Code), .v (.int .i64 e1.From), .v (.int .i64 e1.To), .v (.sl 1 (e1.Terms.map eLStr)), .v (.bool e1.Other)])]⟩) (fun gG => likeness_j2 b e1 gG = some r) ?_ ?_
   ·refine WC.block ?_
    obtain ⟨eQ2, hl2, hk2⟩ := bnd h
    clear h
    refine WC.loop (σ := Int × (List Str)) (τ := ((List Str))) (fun sS => ⟨[(40, .v (.int .i64 sS.1)), (39, .v (.int .i64 (g.Parts.length : Int))), (38, .v (.sl 2 (g.Parts.map eApiComponent))), (7, .r 1007), (4, .p 4 0), (3, .p 3 0)], [(1007, .row 9 1 (sS.2.map eStr)), (3, .blk 28 [.v (.sl 5 (b.Entries.map eApiCodeEntry)), .v (.sl 3 (b.Notes.map eApiCodeNote))]), (4, .blk 54 [.v (.str e1.Code), .v (.int .i64 e1.From), .v (.int .i64 e1.To), .v (.sl 1 (e1.Terms.map eLStr)), .v (.bool e1.Other)])]⟩) (likeness_b2 b e1 g) [] ((0 : Int), words) hl2 sub ?_
    rintro ⟨t40, words5⟩ m hn2 he2 hx2
    obtain ⟨o2, hf2⟩ := some_of hx2
    have h := hf2
    unfold likeness_b2 at h
    try dsimp only [slotsOf]
    refine sr (lr1 rfl (nn (WC.seq ?_)))
    refine WC.cond rfl (fun hc3 => ?_) (fun hc3 => ?_)
    ·replace h := ite_t hc3 h
     refine kn (sb (sr ?_))
     obtain ⟨g2, h⟩ := grd h
     replace h := bnd h; obtain ⟨x5, hxx5, h⟩ := h
     refine WL.q [] rfl rfl rfl (q_idx tbOk rfl (by exact trivial) g2 (map_get (f := eApiComponent) hxx5)) ?_
     refine lr3 rfl (nn (WC.region (lr3 rfl ?_)))
     obtain ⟨g3, h⟩ := grd h
     refine WL.append tbOk ((words5 ++ x5.Words).map eStr) [47, 1007] ap31 rfl rfl rfl rfl (fun _ e => by cases e; rfl) (by exact trivial) (map_cells (f := eStr) (xs := x5.Words) fun _ => rfl) (by have := g3; simp only [List.length_map, List.length_nil, List.length_cons] at this ⊢; omega) rfl rfl (by simp only [List.map_append]; try rfl) rfl ?_
     refine lr1 rfl (WL.nil (bn (WC.region (lr2 rfl (WL.nil ?_)))))
     cases h
     exact WQ.next [(1007, 47)] ((IntKind.i64.wrap (t40 + (1 : Int))), (words5 ++ x5.Words)) sub (hn2 _ hf2)
    ·replace h := ite_f hc3 h
     refine WC.exit (WQ.thenExit ?_)
     cases h
     have he := he2 _ hf2
     subst he
     replace h := hk2
     try dsimp only at h
     refine eb ?_
     exact WQ.cut [] words5 sub h
   ·intro words2 h
    replace h : likeness_j2 b e1 words2 = some _ := h
    unfold likeness_j2 at h
    try dsimp only [slotsOf]
    refine sr (lr1 rfl (nn (WC.seq (sr (lr2 rfl ?_)))))
    replace h := bnd h; obtain ⟨v3, hvv3, h⟩ := h
    refine WL.call0 fn78 rfl rfl rfl rfl (by exact trivial) rfl (nomAlts_con hw hvv3) ?_
    refine WL.q [] rfl rfl rfl (q_ev tbOk (.v (.int .i64 (v3.length : Int))) rfl (by exact trivial) (by exact lenT)) ?_
    refine lr1 rfl (nn ?_)
    refine WC.thenCut (X := Int) (fun gG => ⟨[(12, .v (.int .i64 gG))], []⟩) (fun gG => likeness_j3 gG = some r) ?_ ?_
    ·refine WC.block ?_
     obtain ⟨eQ1, hl1, hk1⟩ := bnd h
     clear h
     refine WC.publish 1007 rfl rfl ?_
     refine WC.loop (σ := Int × Int × (List Str)) (τ := (Int)) (fun sS => ⟨[(53, .v (.int .i64 sS.1)), (52, .v (.int .i64 (v3.length : Int))), (51, .v (.sl 1 (v3.map eLStr))), (12, .v (.int .i64 sS.2.1)), (7, .v (.sl 1 (sS.2.2.map eStr)))], []⟩) (likeness_b1 v3) [] ((0 : Int), (0 : Int), words2) hl1 sub ?_
     rintro ⟨t532, most3, words4⟩ m hn1 he1 hx1
     obtain ⟨o1, hf1⟩ := some_of hx1
     have h := hf1
     unfold likeness_b1 at h
     try dsimp only [slotsOf]
     refine sr (lr1 rfl (nn (WC.seq ?_)))
     refine WC.cond rfl (fun hc2 => ?_) (fun hc2 => ?_)
     ·replace h := ite_t hc2 h
      refine kn (sb (sr ?_))
      obtain ⟨g1, h⟩ := grd h
      replace h := bnd h; obtain ⟨x3, hxx3, h⟩ := h
      refine WL.q [] rfl rfl rfl (q_idx tbOk rfl (by exact trivial) g1 (map_get (f := eLStr) hxx3)) ?_
      refine lr2 rfl (nn (WC.region (lr3 rfl ?_)))
      replace h := bnd h; obtain ⟨v6, hvv6, h⟩ := h
      refine WL.call0 fn79 rfl rfl rfl rfl (by exact trivial) rfl (commonP_con hw hvv6) ?_
      refine lr2 rfl (WL.nil (bn (WC.region (lr2 rfl (WL.nil ?_)))))
      cases h
      exact WQ.next [] ((IntKind.i64.wrap (t532 + (1 : Int))), (if v6 > most3 then v6 else most3), words4) sub (hn1 _ hf1)
     ·replace h := ite_f hc2 h
      refine WC.exit (WQ.thenExit ?_)
      cases h
      have he := he1 _ hf1
      subst he
      replace h := hk1
      try dsimp only at h
      refine eb ?_
      exact WQ.cut [] most3 sub h
    ·intro most h
     replace h : likeness_j3 most = some _ := h
     unfold likeness_j3 at h
     try dsimp only [slotsOf]
     refine sr (lr2 rfl (nr ?_))
     cases h
     exact rt tbOk hR
theorem scoredIn_con {wg : World} (hw : WG wg) {e1 : ApiCodeEntry} {a1 : ApiNomenclature} {a2 : (List Str)} {r : Bool} (h : scoredIn e1 a1 a2 = some r) : Con Tryz.prog wg gl 129 [.v (.agg [.str e1.Code, .int .i64 e1.From, .int .i64 e1.To, .sl 1 (e1.Terms.map eLStr), .bool e1.Other]), .p 1 0, .p 2 0] [(1, .blk 28 [.v (.sl 5 (a1.Entries.map eApiCodeEntry)), .v (.sl 3 (a1.Notes.map eApiCodeNote))]), (2, .blk 31 [.v (.sl 1 (a2.map eStr))])] (.v (.bool r)) [(1, .blk 28 [.v (.sl 5 (a1.Entries.map eApiCodeEntry)), .v (.sl 3 (a1.Notes.map eApiCodeNote))]), (2, .blk 31 [.v (.sl 1 (a2.map eStr))])] := by
 unfold scoredIn at h
 refine con_of_WC (S := slotsOf 0 _) Tryz.func129 rfl Tryz.ntmps129 rfl (fun t x hx => (slotsOf_get hx).2) ?_
 intro F L w ρ0 R hR
 try dsimp only [slotsOf]
 refine sr (lr2 rfl (ns (lr3 rfl ?_)))
 replace h := bnd h; obtain ⟨v, hvv, h⟩ := h
 refine WL.call0 fn34 rfl rfl rfl rfl (by exact trivial) rfl (nomScore_con hw hvv) ?_
 refine lr2 rfl (nr ?_)
 cases h
 exact rt tbOk hR
theorem keepScored_con {wg : World} (hw : WG wg) {l : (List ApiCodeEntry)} {test0 : ApiNomenclature} {test1 : (List Str)} {r : (List ApiCodeEntry)} (h : keepScored l test0 test1 = some r) : Con Tryz.prog wg gl 111 [.v (.sl 5 (l.map eApiCodeEntry)), .fn 129 [.p 810 0, .p 811 0]] [(810, .blk 28 [.v (.sl 5 (test0.Entries.map eApiCodeEntry)), .v (.sl 3 (test0.Notes.map eApiCodeNote))]), (811, .blk 31 [.v (.sl 1 (test1.map eStr))])] (.v (.sl 5 (r.map eApiCodeEntry))) [(810, .blk 28 [.v (.sl 5 (test0.Entries.map eApiCodeEntry)), .v (.sl 3 (test0.Notes.map eApiCodeNote))]), (811, .blk 31 [.v (.sl 1 (test1.map eStr))])] := by
 unfold keepScored at h
 refine con_of_WC (S := slotsOf 0 _) Tryz.func111 rfl Tryz.ntmps111 rfl (fun t x hx => (slotsOf_get hx).2) ?_
 intro F L w ρ0 R hR
 try dsimp only [slotsOf]
 refine sr (lr1 rfl (ns (lr1 rfl (nn (WC.seq (sr (lr1 rfl ?_)))))))
 refine WL.q [] rfl rfl rfl (q_ev tbOk (.v (.int .i64 (l.length : Int))) rfl (by exact trivial) (by exact lenT)) ?_
 refine lr1 rfl (nn ?_)
 refine WC.thenCut (X := (List ApiCodeEntry)) (fun gG => ⟨[(5, .r 1005)], [(1005, .row 54 5 (gG.map eApiCodeEntry)), (810, .blk 28 [.v (.sl 5 (test0.Entries.map eApiCodeEntry)), .v (.sl 3 (test0.Notes.map eApiCodeNote))]), (811, .blk 31 [.v (.sl 1 (test1.map eStr))])]⟩) (fun gG => keepScored_j1 test0 test1 gG = some r) ?_ ?_
 ·refine WC.block ?_
  obtain ⟨eQ1, hl1, hk1⟩ := bnd h
  clear h
  refine WC.rowNil 5 1005 54 5 rfl rfl ?_
  refine WC.loop (σ := Int × (List ApiCodeEntry)) (τ := ((List ApiCodeEntry))) (fun sS => ⟨[(10, .v (.int .i64 sS.1)), (9, .v (.int .i64 (l.length : Int))), (8, .v (.sl 5 (l.map eApiCodeEntry))), (5, .r 1005), (1, .fn 129 [.p 810 0, .p 811 0])], [(1005, .row 54 5 (sS.2.map eApiCodeEntry)), (810, .blk 28 [.v (.sl 5 (test0.Entries.map eApiCodeEntry)), .v (.sl 3 (test0.Notes.map eApiCodeNote))]), (811, .blk 31 [.v (.sl 1 (test1.map eStr))])]⟩) (keepScored_b1 l test0 test1) [] ((0 : Int), []) hl1 sub ?_
  rintro ⟨t102, kept3⟩ m hn1 he1 hx1
  obtain ⟨o1, hf1⟩ := some_of hx1
  have h := hf1
  unfold keepScored_b1 at h
  try dsimp only [slotsOf]
  refine sr (lr1 rfl (nn (WC.seq ?_)))
  refine WC.cond rfl (fun hc1 => ?_) (fun hc1 => ?_)
  ·replace h := ite_t hc1 h
   refine kn (WC.seq ?_)
   refine WC.thenCut (X := (List ApiCodeEntry)) (fun gG => ⟨[(5, .r 1005), (10, .v (.int .i64 t102)), (9, .v (.int .i64 (l.length : Int))), (8, .v (.sl 5 (l.map eApiCodeEntry))), (1, .fn 129 [.p 810 0, .p 811 0])], [(1005, .row 54 5 (gG.map eApiCodeEntry)), (810, .blk 28 [.v (.sl 5 (test0.Entries.map eApiCodeEntry)), .v (.sl 3 (test0.Notes.map eApiCodeNote))]), (811, .blk 31 [.v (.sl 1 (test1.map eStr))])]⟩) (fun gG => keepScored_j2 l test0 test1 t102 gG = some o1) ?_ ?_
   ·refine WC.block (sr ?_)
    obtain ⟨g1, h⟩ := grd h
    replace h := bnd h; obtain ⟨x3, hxx3, h⟩ := h
    refine WL.q [] rfl rfl rfl (q_idx tbOk rfl (by exact trivial) g1 (map_get (f := eApiCodeEntry) hxx3)) ?_
    refine lr3 rfl (ns (lr2 rfl ?_))
    replace h := bnd h; obtain ⟨v3, hvv3, h⟩ := h
    refine WL.callO [(1, 810), (2, 811)] [(1, 810), (2, 811)] [810, 811] fn129 rfl rfl rfl rfl (by exact trivial) (scoredIn_con hw hvv3) rfl rfl (by exact eqs) rfl rfl rfl rfl rfl rfl ?_
    refine nn ?_
    refine WC.cond rfl (fun hc2 => ?_) (fun hc2 => ?_)
    ·replace h := ite_t hc2 h
     refine WC.region (lr3 rfl ?_)
     obtain ⟨g2, h⟩ := grd h
     refine WL.append tbOk ((kept3 ++ [x3]).map eApiCodeEntry) [20, 1005] ap25 rfl rfl rfl rfl (fun _ e => by cases e; rfl) (by exact trivial) (map_cells (f := eApiCodeEntry) (xs := [x3]) fun _ => rfl) (by have := g2; simp only [List.length_map, List.length_nil, List.length_cons] at this ⊢; omega) rfl rfl (by simp only [List.map_append]; try rfl) rfl ?_
     refine lr1 rfl (WL.nil (WQ.blockNormal ?_))
     exact WQ.cut [(1005, 20)] (kept3 ++ [x3]) sub h
    ·replace h := ite_f hc2 h
     refine WC.skip (WQ.blockNormal ?_)
     exact WQ.cut [] kept3 sub h
   ·intro kept6 h
    replace h : keepScored_j2 l test0 test1 t102 kept6 = some _ := h
    unfold keepScored_j2 at h
    try dsimp only [slotsOf]
    refine WC.region (lr2 rfl (WL.nil ?_))
    cases h
    exact WQ.next [] ((IntKind.i64.wrap (t102 + (1 : Int))), kept6) sub (hn1 _ hf1)
  ·replace h := ite_f hc1 h
   refine WC.exit (WQ.thenExit ?_)
   cases h
   have he := he1 _ hf1
   subst he
   replace h := hk1
   try dsimp only at h
   refine eb ?_
   exact WQ.cut [] kept3 sub h
 ·intro kept h
  replace h : keepScored_j1 test0 test1 kept = some _ := h
  unfold keepScored_j1 at h
  try dsimp only [slotsOf]
  refine sr (lr2 rfl (nr ?_))
  refine WQ.publish 1005 rfl rfl ?_
  cases h
  exact rt tbOk hR
theorem scored_con {wg : World} (hw : WG wg) {b : ApiNomenclature} {l : (List ApiCodeEntry)} {words : (List Str)} {r : (List ApiCodeEntry)} (h : scored b l words = some r) : Con Tryz.prog wg gl 74 [.v (.agg [.sl 5 (b.Entries.map eApiCodeEntry), .sl 3 (b.Notes.map eApiCodeNote)]), .v (.sl 5 (l.map eApiCodeEntry)), .v (.sl 1 (words.map eStr))] [] (.v (.sl 5 (r.map eApiCodeEntry))) [] := by
 unfold scored at h
 refine con_of_WC (S := slotsOf 0 _) Tryz.func74 rfl Tryz.ntmps74 rfl (fun t x hx => (slotsOf_get hx).2) ?_
 intro F L w ρ0 R hR
 try dsimp only [slotsOf]
 refine sr (lr3 rfl (ns (lr2 rfl ?_)))
 replace h := bnd h; obtain ⟨v, hvv, h⟩ := h
 refine WL.callO [(810, 3), (811, 5)] [(810, 3), (811, 5)] [3, 5] fn111 rfl rfl rfl rfl (by exact trivial) (keepScored_con hw hvv) rfl rfl (by exact eqs) rfl rfl rfl rfl rfl rfl ?_
 refine lr1 rfl (nr ?_)
 cases h
 exact rt tbOk hR
theorem byTermsIn_con {wg : World} (hw : WG wg) {e1 : ApiCodeEntry} {a1 : ClassifyLevel} {a2 : (List Str)} {r : Bool} (h : byTermsIn e1 a1 a2 = some r) : Con Tryz.prog wg gl 112 [.v (.agg [.str e1.Code, .int .i64 e1.From, .int .i64 e1.To, .sl 1 (e1.Terms.map eLStr), .bool e1.Other]), .p 1 0, .p 2 0] [(1, .blk 102 [.v (.sl 5 (a1.book.Entries.map eApiCodeEntry)), .v (.sl 3 (a1.book.Notes.map eApiCodeNote)), .v (.sl 1 (a1.good.Words.map eStr)), .v (.sl 2 (a1.good.Materials.map eApiMaterial)), .v (.sl 2 (a1.good.Parts.map eApiComponent)), .v (.bool a1.good.Incomplete), .v (.str a1.parent), .v (.sl 5 (a1.entries.map eApiCodeEntry))]), (2, .blk 31 [.v (.sl 1 (a2.map eStr))])] (.v (.bool r)) [(1, .blk 102 [.v (.sl 5 (a1.book.Entries.map eApiCodeEntry)), .v (.sl 3 (a1.book.Notes.map eApiCodeNote)), .v (.sl 1 (a1.good.Words.map eStr)), .v (.sl 2 (a1.good.Materials.map eApiMaterial)), .v (.sl 2 (a1.good.Parts.map eApiComponent)), .v (.bool a1.good.Incomplete), .v (.str a1.parent), .v (.sl 5 (a1.entries.map eApiCodeEntry))]), (2, .blk 31 [.v (.sl 1 (a2.map eStr))])] := by
 unfold byTermsIn at h
 refine con_of_WC (S := slotsOf 0 _) Tryz.func112 rfl Tryz.ntmps112 rfl (fun t x hx => (slotsOf_get hx).2) ?_
 intro F L w ρ0 R hR
 try dsimp only [slotsOf]
 refine sr (lr2 rfl (nn (WC.seq (sr (lr5 rfl ?_)))))
 replace h := bnd h; obtain ⟨v, hvv, h⟩ := h
 refine WL.call0 fn35 rfl rfl rfl rfl (by exact trivial) rfl (nomExcluded_con hw hvv) ?_
 refine nn ?_
 refine WC.cond rfl (fun hc1 => ?_) (fun hc1 => ?_)
 ·replace h := ite_t hc1 h
  refine sr (lr1 rfl (nr (WQ.thenRet ?_)))
  cases h
  exact rt tbOk hR
 ·replace h := ite_f hc1 h
  refine kn (WC.seq (sr (lr3 rfl ?_)))
  replace h := bnd h; obtain ⟨v2, hvv2, h⟩ := h
  refine WL.call0 fn78 rfl rfl rfl rfl (by exact trivial) rfl (nomAlts_con hw hvv2) ?_
  refine WL.q [] rfl rfl rfl (q_ev tbOk (.v (.int .i64 (v2.length : Int))) rfl (by exact trivial) (by exact lenT)) ?_
  refine lr1 rfl (nn ?_)
  refine WC.thenCut (X := Unit) (fun gG => ⟨[(1, .p 1 0), (2, .p 2 0)], [(1, .blk 102 [.v (.sl 5 (a1.book.Entries.map eApiCodeEntry)), .v (.sl 3 (a1.book.Notes.map eApiCodeNote)), .v (.sl 1 (a1.good.Words.map eStr)), .v (.sl 2 (a1.good.Materials.map eApiMaterial)), .v (.sl 2 (a1.good.Parts.map eApiComponent)), .v (.bool a1.good.Incomplete), .v (.str a1.parent), .v (.sl 5 (a1.entries.map eApiCodeEntry))]), (2, .blk 31 [.v (.sl 1 (a2.map eStr))])]⟩) (fun gG => byTermsIn_j1 a1 a2 = some r) ?_ ?_
  ·refine WC.block ?_
   obtain ⟨eQ1, hl1, hk1⟩ := bnd h
   clear h
   refine WC.loop (σ := Int) (τ := ((Bool) ⊕ (Unit))) (fun sS => ⟨[(18, .v (.int .i64 sS)), (17, .v (.int .i64 (v2.length : Int))), (16, .v (.sl 1 (v2.map eLStr))), (1, .p 1 0), (2, .p 2 0)], [(1, .blk 102 [.v (.sl 5 (a1.book.Entries.map eApiCodeEntry)), .v (.sl 3 (a1.book.Notes.map eApiCodeNote)), .v (.sl 1 (a1.good.Words.map eStr)), .v (.sl 2 (a1.good.Materials.map eApiMaterial)), .v (.sl 2 (a1.good.Parts.map eApiComponent)), .v (.bool a1.good.Incomplete), .v (.str a1.parent), .v (.sl 5 (a1.entries.map eApiCodeEntry))]), (2, .blk 31 [.v (.sl 1 (a2.map eStr))])]⟩) (byTermsIn_b1 a1 a2 v2) [] (0 : Int) hl1 sub ?_
   intro t18 m hn1 he1 hx1
   obtain ⟨o1, hf1⟩ := some_of hx1
   have h := hf1
   unfold byTermsIn_b1 at h
   try dsimp only [slotsOf]
   refine sr (lr1 rfl (nn (WC.seq ?_)))
   refine WC.cond rfl (fun hc2 => ?_) (fun hc2 => ?_)
   ·replace h := ite_t hc2 h
    refine kn (sb (sr ?_))
    obtain ⟨g1, h⟩ := grd h
    replace h := bnd h; obtain ⟨x2, hxx2, h⟩ := h
    refine WL.q [] rfl rfl rfl (q_idx tbOk rfl (by exact trivial) g1 (map_get (f := eLStr) hxx2)) ?_
    refine lr2 rfl (ns (lr1 rfl ?_))
    replace h := bnd h; obtain ⟨v5, hvv5, h⟩ := h
    refine WL.call0 fn113 rfl rfl rfl rfl (by exact trivial) rfl (sContains_con hw hvv5) ?_
    refine lr 3 rfl (by exact sideR) ?_
    replace h := bnd h; obtain ⟨v6, hvv6, h⟩ := h
    refine WL.gcall0 fn85 rfl rfl rfl rfl rfl (fun _ => (by exact sideR)) rfl (fun hg => (subset_con hw (ite_t hg hvv6))) ?_
    refine lr 1 rfl (by exact sideR) ?_
    refine nn ?_
    refine WC.cond rfl (fun hc3 => ?_) (fun hc3 => ?_)
    ·replace h := ite_t hc3 h
     refine sr (lr1 rfl (nr (rb ?_)))
     cases h
     have he := he1 _ hf1
     subst he
     have h : some true = some _ := hk1
     refine WQ.thenRet (rb ?_)
     cases h
     exact rt tbOk hR
    ·replace h := ite_f hc3 h
     refine WC.skip (bn (WC.region (lr2 rfl (WL.nil ?_))))
     cases h
     exact WQ.next [] (IntKind.i64.wrap (t18 + (1 : Int))) sub (hn1 _ hf1)
   ·replace h := ite_f hc2 h
    refine WC.exit (WQ.thenExit ?_)
    cases h
    have he := he1 _ hf1
    subst he
    replace h := hk1
    try dsimp only at h
    refine eb ?_
    exact WQ.cut [] () sub h
  ·intro _ h
   replace h : byTermsIn_j1 a1 a2 = some _ := h
   unfold byTermsIn_j1 at h
   try dsimp only [slotsOf]
   refine sr (lr1 rfl (nr ?_))
   cases h
   exact rt tbOk hR
theorem keepTerms_con {wg : World} (hw : WG wg) {l : (List ApiCodeEntry)} {test0 : ClassifyLevel} {test1 : (List Str)} {r : (List ApiCodeEntry)} (h : keepTerms l test0 test1 = some r) : Con Tryz.prog wg gl 111 [.v (.sl 5 (l.map eApiCodeEntry)), .fn 112 [.p 810 0, .p 811 0]] [(810, .blk 102 [.v (.sl 5 (test0.book.Entries.map eApiCodeEntry)), .v (.sl 3 (test0.book.Notes.map eApiCodeNote)), .v (.sl 1 (test0.good.Words.map eStr)), .v (.sl 2 (test0.good.Materials.map eApiMaterial)), .v (.sl 2 (test0.good.Parts.map eApiComponent)), .v (.bool test0.good.Incomplete), .v (.str test0.parent), .v (.sl 5 (test0.entries.map eApiCodeEntry))]), (811, .blk 31 [.v (.sl 1 (test1.map eStr))])] (.v (.sl 5 (r.map eApiCodeEntry))) [(810, .blk 102 [.v (.sl 5 (test0.book.Entries.map eApiCodeEntry)), .v (.sl 3 (test0.book.Notes.map eApiCodeNote)), .v (.sl 1 (test0.good.Words.map eStr)), .v (.sl 2 (test0.good.Materials.map eApiMaterial)), .v (.sl 2 (test0.good.Parts.map eApiComponent)), .v (.bool test0.good.Incomplete), .v (.str test0.parent), .v (.sl 5 (test0.entries.map eApiCodeEntry))]), (811, .blk 31 [.v (.sl 1 (test1.map eStr))])] := by
 unfold keepTerms at h
 refine con_of_WC (S := slotsOf 0 _) Tryz.func111 rfl Tryz.ntmps111 rfl (fun t x hx => (slotsOf_get hx).2) ?_
 intro F L w ρ0 R hR
 try dsimp only [slotsOf]
 refine sr (lr1 rfl (ns (lr1 rfl (nn (WC.seq (sr (lr1 rfl ?_)))))))
 refine WL.q [] rfl rfl rfl (q_ev tbOk (.v (.int .i64 (l.length : Int))) rfl (by exact trivial) (by exact lenT)) ?_
 refine lr1 rfl (nn ?_)
 refine WC.thenCut (X := (List ApiCodeEntry)) (fun gG => ⟨[(5, .r 1005)], [(1005, .row 54 5 (gG.map eApiCodeEntry)), (810, .blk 102 [.v (.sl 5 (test0.book.Entries.map eApiCodeEntry)), .v (.sl 3 (test0.book.Notes.map eApiCodeNote)), .v (.sl 1 (test0.good.Words.map eStr)), .v (.sl 2 (test0.good.Materials.map eApiMaterial)), .v (.sl 2 (test0.good.Parts.map eApiComponent)), .v (.bool test0.good.Incomplete), .v (.str test0.parent), .v (.sl 5 (test0.entries.map eApiCodeEntry))]), (811, .blk 31 [.v (.sl 1 (test1.map eStr))])]⟩) (fun gG => keepTerms_j1 test0 test1 gG = some r) ?_ ?_
 ·refine WC.block ?_
  obtain ⟨eQ1, hl1, hk1⟩ := bnd h
  clear h
  refine WC.rowNil 5 1005 54 5 rfl rfl ?_
  refine WC.loop (σ := Int × (List ApiCodeEntry)) (τ := ((List ApiCodeEntry))) (fun sS => ⟨[(10, .v (.int .i64 sS.1)), (9, .v (.int .i64 (l.length : Int))), (8, .v (.sl 5 (l.map eApiCodeEntry))), (5, .r 1005), (1, .fn 112 [.p 810 0, .p 811 0])], [(1005, .row 54 5 (sS.2.map eApiCodeEntry)), (810, .blk 102 [.v (.sl 5 (test0.book.Entries.map eApiCodeEntry)), .v (.sl 3 (test0.book.Notes.map eApiCodeNote)), .v (.sl 1 (test0.good.Words.map eStr)), .v (.sl 2 (test0.good.Materials.map eApiMaterial)), .v (.sl 2 (test0.good.Parts.map eApiComponent)), .v (.bool test0.good.Incomplete), .v (.str test0.parent), .v (.sl 5 (test0.entries.map eApiCodeEntry))]), (811, .blk 31 [.v (.sl 1 (test1.map eStr))])]⟩) (keepTerms_b1 l test0 test1) [] ((0 : Int), []) hl1 sub ?_
  rintro ⟨t102, kept3⟩ m hn1 he1 hx1
  obtain ⟨o1, hf1⟩ := some_of hx1
  have h := hf1
  unfold keepTerms_b1 at h
  try dsimp only [slotsOf]
  refine sr (lr1 rfl (nn (WC.seq ?_)))
  refine WC.cond rfl (fun hc1 => ?_) (fun hc1 => ?_)
  ·replace h := ite_t hc1 h
   refine kn (WC.seq ?_)
   refine WC.thenCut (X := (List ApiCodeEntry)) (fun gG => ⟨[(5, .r 1005), (10, .v (.int .i64 t102)), (9, .v (.int .i64 (l.length : Int))), (8, .v (.sl 5 (l.map eApiCodeEntry))), (1, .fn 112 [.p 810 0, .p 811 0])], [(1005, .row 54 5 (gG.map eApiCodeEntry)), (810, .blk 102 [.v (.sl 5 (test0.book.Entries.map eApiCodeEntry)), .v (.sl 3 (test0.book.Notes.map eApiCodeNote)), .v (.sl 1 (test0.good.Words.map eStr)), .v (.sl 2 (test0.good.Materials.map eApiMaterial)), .v (.sl 2 (test0.good.Parts.map eApiComponent)), .v (.bool test0.good.Incomplete), .v (.str test0.parent), .v (.sl 5 (test0.entries.map eApiCodeEntry))]), (811, .blk 31 [.v (.sl 1 (test1.map eStr))])]⟩) (fun gG => keepTerms_j2 l test0 test1 t102 gG = some o1) ?_ ?_
   ·refine WC.block (sr ?_)
    obtain ⟨g1, h⟩ := grd h
    replace h := bnd h; obtain ⟨x3, hxx3, h⟩ := h
    refine WL.q [] rfl rfl rfl (q_idx tbOk rfl (by exact trivial) g1 (map_get (f := eApiCodeEntry) hxx3)) ?_
    refine lr3 rfl (ns (lr2 rfl ?_))
    replace h := bnd h; obtain ⟨v3, hvv3, h⟩ := h
    refine WL.callO [(1, 810), (2, 811)] [(1, 810), (2, 811)] [810, 811] fn112 rfl rfl rfl rfl (by exact trivial) (byTermsIn_con hw hvv3) rfl rfl (by exact eqs) rfl rfl rfl rfl rfl rfl ?_
    refine nn ?_
    refine WC.cond rfl (fun hc2 => ?_) (fun hc2 => ?_)
    ·replace h := ite_t hc2 h
     refine WC.region (lr3 rfl ?_)
     obtain ⟨g2, h⟩ := grd h
     refine WL.append tbOk ((kept3 ++ [x3]).map eApiCodeEntry) [20, 1005] ap25 rfl rfl rfl rfl (fun _ e => by cases e; rfl) (by exact trivial) (map_cells (f := eApiCodeEntry) (xs := [x3]) fun _ => rfl) (by have := g2; simp only [List.length_map, List.length_nil, List.length_cons] at this ⊢; omega) rfl rfl (by simp only [List.map_append]; try rfl) rfl ?_
     refine lr1 rfl (WL.nil (WQ.blockNormal ?_))
     exact WQ.cut [(1005, 20)] (kept3 ++ [x3]) sub h
    ·replace h := ite_f hc2 h
     refine WC.skip (WQ.blockNormal ?_)
     exact WQ.cut [] kept3 sub h
   ·intro kept6 h
    replace h : keepTerms_j2 l test0 test1 t102 kept6 = some _ := h
    unfold keepTerms_j2 at h
    try dsimp only [slotsOf]
    refine WC.region (lr2 rfl (WL.nil ?_))
    cases h
    exact WQ.next [] ((IntKind.i64.wrap (t102 + (1 : Int))), kept6) sub (hn1 _ hf1)
  ·replace h := ite_f hc1 h
   refine WC.exit (WQ.thenExit ?_)
   cases h
   have he := he1 _ hf1
   subst he
   replace h := hk1
   try dsimp only at h
   refine eb ?_
   exact WQ.cut [] kept3 sub h
 ·intro kept h
  replace h : keepTerms_j1 test0 test1 kept = some _ := h
  unfold keepTerms_j1 at h
  try dsimp only [slotsOf]
  refine sr (lr2 rfl (nr ?_))
  refine WQ.publish 1005 rfl rfl ?_
  cases h
  exact rt tbOk hR
theorem byTerms_con {wg : World} (hw : WG wg) {v : ClassifyLevel} {r : (List ApiCodeEntry)} (h : byTerms v = some r) : Con Tryz.prog wg gl 62 [.v (.agg [.sl 5 (v.book.Entries.map eApiCodeEntry), .sl 3 (v.book.Notes.map eApiCodeNote), .sl 1 (v.good.Words.map eStr), .sl 2 (v.good.Materials.map eApiMaterial), .sl 2 (v.good.Parts.map eApiComponent), .bool v.good.Incomplete, .str v.parent, .sl 5 (v.entries.map eApiCodeEntry)])] [] (.v (.sl 5 (r.map eApiCodeEntry))) [] := by
 unfold byTerms at h
 refine con_of_WC (S := slotsOf 0 _) Tryz.func62 rfl Tryz.ntmps62 rfl (fun t x hx => (slotsOf_get hx).2) ?_
 intro F L w ρ0 R hR
 try dsimp only [slotsOf]
 refine sr (lr2 rfl (nn (WC.seq (sr (lr4 rfl (nn ?_))))))
 refine WC.cond rfl (fun hc1 => ?_) (fun hc1 => ?_)
 ·replace h := ite_t hc1 h
  refine sr (lr 7 rfl trivial ?_)
  replace h := bnd h; obtain ⟨v2, hvv2, h⟩ := h
  refine WL.call0 fn74 rfl rfl rfl rfl (by exact trivial) rfl (scored_con hw hvv2) ?_
  refine lr1 rfl (nr (WQ.thenRet ?_))
  cases h
  exact rt tbOk hR
 ·replace h := ite_f hc1 h
  refine kn (sr (lr2 rfl ?_))
  replace h := bnd h; obtain ⟨v3, hvv3, h⟩ := h
  refine WL.call0 fn71 rfl rfl rfl rfl (by exact trivial) rfl (incompleteWords_con hw hvv3) ?_
  refine lr2 rfl (ns (lr3 rfl ?_))
  replace h := bnd h; obtain ⟨v4, hvv4, h⟩ := h
  refine WL.callO [(810, 1), (811, 3)] [(810, 1), (811, 3)] [1, 3] fn111 rfl rfl rfl rfl (by exact trivial) (keepTerms_con hw hvv4) rfl rfl (by exact eqs) rfl rfl rfl rfl rfl rfl ?_
  refine lr1 rfl (nr ?_)
  cases h
  exact rt tbOk hR
theorem asComplete_con {wg : World} (hw : WG wg) {v : ClassifyLevel} {r : (List ApiCodeEntry)} (h : asComplete v = some r) : Con Tryz.prog wg gl 63 [.v (.agg [.sl 5 (v.book.Entries.map eApiCodeEntry), .sl 3 (v.book.Notes.map eApiCodeNote), .sl 1 (v.good.Words.map eStr), .sl 2 (v.good.Materials.map eApiMaterial), .sl 2 (v.good.Parts.map eApiComponent), .bool v.good.Incomplete, .str v.parent, .sl 5 (v.entries.map eApiCodeEntry)])] [] (.v (.sl 5 (r.map eApiCodeEntry))) [] := by
 unfold asComplete at h
 refine con_of_WC (S := slotsOf 0 _) Tryz.func63 rfl Tryz.ntmps63 rfl (fun t x hx => (slotsOf_get hx).2) ?_
 intro F L w ρ0 R hR
 try dsimp only [slotsOf]
 refine sr (lr2 rfl (nn (WC.seq (sr (lr4 rfl (nn ?_))))))
 refine WC.cond rfl (fun hc1 => ?_) (fun hc1 => ?_)
 ·replace h := ite_t hc1 h
  refine sr (lr1 rfl (nr (WQ.thenRet ?_)))
  cases h
  exact WQ.rets tbOk (r := .v (.sl 5 ([].map eApiCodeEntry))) hR [] (.inl rfl) rfl rfl (Le.nil 5) (by exact trivial) rfl rfl rfl rfl
 ·replace h := ite_f hc1 h
  refine kn (sr (lr 7 rfl trivial ?_))
  replace h := bnd h; obtain ⟨v2, hvv2, h⟩ := h
  refine WL.call0 fn74 rfl rfl rfl rfl (by exact trivial) rfl (scored_con hw hvv2) ?_
  refine lr1 rfl (nr ?_)
  cases h
  exact rt tbOk hR
theorem byCharIn2_con {wg : World} (hw : WG wg) {x : ApiComponent} {a1 : ClassifyLevel} {a2 : ApiCodeEntry} {r : Bool} (h : byCharIn2 x a1 a2 = some r) : Con Tryz.prog wg gl 116 [.v (.agg [.sl 1 (x.Words.map eStr), .int .i64 x.Share]), .p 1 0, .p 2 0] [(1, .blk 102 [.v (.sl 5 (a1.book.Entries.map eApiCodeEntry)), .v (.sl 3 (a1.book.Notes.map eApiCodeNote)), .v (.sl 1 (a1.good.Words.map eStr)), .v (.sl 2 (a1.good.Materials.map eApiMaterial)), .v (.sl 2 (a1.good.Parts.map eApiComponent)), .v (.bool a1.good.Incomplete), .v (.str a1.parent), .v (.sl 5 (a1.entries.map eApiCodeEntry))]), (2, .blk 54 [.v (.str a2.Code), .v (.int .i64 a2.From), .v (.int .i64 a2.To), .v (.sl 1 (a2.Terms.map eLStr)), .v (.bool a2.Other)])] (.v (.bool r)) [(1, .blk 102 [.v (.sl 5 (a1.book.Entries.map eApiCodeEntry)), .v (.sl 3 (a1.book.Notes.map eApiCodeNote)), .v (.sl 1 (a1.good.Words.map eStr)), .v (.sl 2 (a1.good.Materials.map eApiMaterial)), .v (.sl 2 (a1.good.Parts.map eApiComponent)), .v (.bool a1.good.Incomplete), .v (.str a1.parent), .v (.sl 5 (a1.entries.map eApiCodeEntry))]), (2, .blk 54 [.v (.str a2.Code), .v (.int .i64 a2.From), .v (.int .i64 a2.To), .v (.sl 1 (a2.Terms.map eLStr)), .v (.bool a2.Other)])] := by
 unfold byCharIn2 at h
 refine con_of_WC (S := slotsOf 0 _) Tryz.func116 rfl Tryz.ntmps116 rfl (fun t x hx => (slotsOf_get hx).2) ?_
 intro F L w ρ0 R hR
 try dsimp only [slotsOf]
 refine sr (lr2 rfl (ns (lr5 rfl ?_)))
 replace h := bnd h; obtain ⟨v, hvv, h⟩ := h
 refine WL.call0 fn34 rfl rfl rfl rfl (by exact trivial) rfl (nomScore_con hw hvv) ?_
 refine lr2 rfl (nr ?_)
 cases h
 exact rt tbOk hR
theorem charIndex_con {wg : World} (hw : WG wg) {s : (List ApiComponent)} {f0 : ClassifyLevel} {f1 : ApiCodeEntry} {r : Int} (h : charIndex s f0 f1 = some r) : Con Tryz.prog wg gl 157 [.v (.sl 2 (s.map eApiComponent)), .fn 116 [.p 810 0, .p 811 0]] [(810, .blk 102 [.v (.sl 5 (f0.book.Entries.map eApiCodeEntry)), .v (.sl 3 (f0.book.Notes.map eApiCodeNote)), .v (.sl 1 (f0.good.Words.map eStr)), .v (.sl 2 (f0.good.Materials.map eApiMaterial)), .v (.sl 2 (f0.good.Parts.map eApiComponent)), .v (.bool f0.good.Incomplete), .v (.str f0.parent), .v (.sl 5 (f0.entries.map eApiCodeEntry))]), (811, .blk 54 [.v (.str f1.Code), .v (.int .i64 f1.From), .v (.int .i64 f1.To), .v (.sl 1 (f1.Terms.map eLStr)), .v (.bool f1.Other)])] (.v (.int .i64 r)) [(810, .blk 102 [.v (.sl 5 (f0.book.Entries.map eApiCodeEntry)), .v (.sl 3 (f0.book.Notes.map eApiCodeNote)), .v (.sl 1 (f0.good.Words.map eStr)), .v (.sl 2 (f0.good.Materials.map eApiMaterial)), .v (.sl 2 (f0.good.Parts.map eApiComponent)), .v (.bool f0.good.Incomplete), .v (.str f0.parent), .v (.sl 5 (f0.entries.map eApiCodeEntry))]), (811, .blk 54 [.v (.str f1.Code), .v (.int .i64 f1.From), .v (.int .i64 f1.To), .v (.sl 1 (f1.Terms.map eLStr)), .v (.bool f1.Other)])] := by
 unfold charIndex at h
 refine con_of_WC (S := slotsOf 0 _) Tryz.func157 rfl Tryz.ntmps157 rfl (fun t x hx => (slotsOf_get hx).2) ?_
 intro F L w ρ0 R hR
 try dsimp only [slotsOf]
 refine sr (lr1 rfl (nn (WC.seq (sr (lr1 rfl ?_)))))
 refine WL.q [] rfl rfl rfl (q_ev tbOk (.v (.int .i64 (s.length : Int))) rfl (by exact trivial) (by exact lenT)) ?_
 refine lr1 rfl (nn ?_)
 refine WC.thenCut (X := Unit) (fun gG => ⟨[], [(810, .blk 102 [.v (.sl 5 (f0.book.Entries.map eApiCodeEntry)), .v (.sl 3 (f0.book.Notes.map eApiCodeNote)), .v (.sl 1 (f0.good.Words.map eStr)), .v (.sl 2 (f0.good.Materials.map eApiMaterial)), .v (.sl 2 (f0.good.Parts.map eApiComponent)), .v (.bool f0.good.Incomplete), .v (.str f0.parent), .v (.sl 5 (f0.entries.map eApiCodeEntry))]), (811, .blk 54 [.v (.str f1.Code), .v (.int .i64 f1.From), .v (.int .i64 f1.To), .v (.sl 1 (f1.Terms.map eLStr)), .v (.bool f1.Other)])]⟩) (fun gG => charIndex_j1 f0 f1 = some r) ?_ ?_
 ·refine WC.block ?_
  obtain ⟨eQ1, hl1, hk1⟩ := bnd h
  clear h
  refine WC.loop (σ := Int) (τ := ((Int) ⊕ (Unit))) (fun sS => ⟨[(8, .v (.int .i64 sS)), (7, .v (.int .i64 (s.length : Int))), (0, .v (.sl 2 (s.map eApiComponent))), (1, .fn 116 [.p 810 0, .p 811 0])], [(810, .blk 102 [.v (.sl 5 (f0.book.Entries.map eApiCodeEntry)), .v (.sl 3 (f0.book.Notes.map eApiCodeNote)), .v (.sl 1 (f0.good.Words.map eStr)), .v (.sl 2 (f0.good.Materials.map eApiMaterial)), .v (.sl 2 (f0.good.Parts.map eApiComponent)), .v (.bool f0.good.Incomplete), .v (.str f0.parent), .v (.sl 5 (f0.entries.map eApiCodeEntry))]), (811, .blk 54 [.v (.str f1.Code), .v (.int .i64 f1.From), .v (.int .i64 f1.To), .v (.sl 1 (f1.Terms.map eLStr)), .v (.bool f1.Other)])]⟩) (charIndex_b1 s f0 f1) [] (0 : Int) hl1 sub ?_
  intro t8 m hn1 he1 hx1
  obtain ⟨o1, hf1⟩ := some_of hx1
  have h := hf1
  unfold charIndex_b1 at h
  try dsimp only [slotsOf]
  refine sr (lr1 rfl (nn (WC.seq ?_)))
  refine WC.cond rfl (fun hc1 => ?_) (fun hc1 => ?_)
  ·replace h := ite_t hc1 h
   refine kn (sb (sr (lr2 rfl (ns (lr3 rfl ?_)))))
   obtain ⟨g1, h⟩ := grd h
   replace h := bnd h; obtain ⟨x2, hxx2, h⟩ := h
   refine WL.q [] rfl rfl rfl (q_idx tbOk rfl (by exact trivial) g1 (map_get (f := eApiComponent) hxx2)) ?_
   refine lr1 rfl ?_
   replace h := bnd h; obtain ⟨v2, hvv2, h⟩ := h
   refine WL.callO [(1, 810), (2, 811)] [(1, 810), (2, 811)] [810, 811] fn116 rfl rfl rfl rfl (by exact trivial) (byCharIn2_con hw hvv2) rfl rfl (by exact eqs) rfl rfl rfl rfl rfl rfl ?_
   refine nn ?_
   refine WC.cond rfl (fun hc2 => ?_) (fun hc2 => ?_)
   ·replace h := ite_t hc2 h
    refine sr (lr2 rfl (nr (rb ?_)))
    cases h
    have he := he1 _ hf1
    subst he
    have h : some t8 = some _ := hk1
    refine WQ.thenRet (rb ?_)
    cases h
    exact rt tbOk hR
   ·replace h := ite_f hc2 h
    refine WC.skip (bn (WC.region (lr2 rfl (WL.nil ?_))))
    cases h
    exact WQ.next [] (IntKind.i64.wrap (t8 + (1 : Int))) sub (hn1 _ hf1)
  ·replace h := ite_f hc1 h
   refine WC.exit (WQ.thenExit ?_)
   cases h
   have he := he1 _ hf1
   subst he
   replace h := hk1
   try dsimp only at h
   refine eb ?_
   exact WQ.cut [] () sub h
 ·intro _ h
  replace h : charIndex_j1 f0 f1 = some _ := h
  unfold charIndex_j1 at h
  try dsimp only [slotsOf]
  refine sr (lr1 rfl (nr ?_))
  cases h
  exact rt tbOk hR
theorem charContains_con {wg : World} (hw : WG wg) {s : (List ApiComponent)} {f0 : ClassifyLevel} {f1 : ApiCodeEntry} {r : Bool} (h : charContains s f0 f1 = some r) : Con Tryz.prog wg gl 115 [.v (.sl 2 (s.map eApiComponent)), .fn 116 [.p 810 0, .p 811 0]] [(810, .blk 102 [.v (.sl 5 (f0.book.Entries.map eApiCodeEntry)), .v (.sl 3 (f0.book.Notes.map eApiCodeNote)), .v (.sl 1 (f0.good.Words.map eStr)), .v (.sl 2 (f0.good.Materials.map eApiMaterial)), .v (.sl 2 (f0.good.Parts.map eApiComponent)), .v (.bool f0.good.Incomplete), .v (.str f0.parent), .v (.sl 5 (f0.entries.map eApiCodeEntry))]), (811, .blk 54 [.v (.str f1.Code), .v (.int .i64 f1.From), .v (.int .i64 f1.To), .v (.sl 1 (f1.Terms.map eLStr)), .v (.bool f1.Other)])] (.v (.bool r)) [(810, .blk 102 [.v (.sl 5 (f0.book.Entries.map eApiCodeEntry)), .v (.sl 3 (f0.book.Notes.map eApiCodeNote)), .v (.sl 1 (f0.good.Words.map eStr)), .v (.sl 2 (f0.good.Materials.map eApiMaterial)), .v (.sl 2 (f0.good.Parts.map eApiComponent)), .v (.bool f0.good.Incomplete), .v (.str f0.parent), .v (.sl 5 (f0.entries.map eApiCodeEntry))]), (811, .blk 54 [.v (.str f1.Code), .v (.int .i64 f1.From), .v (.int .i64 f1.To), .v (.sl 1 (f1.Terms.map eLStr)), .v (.bool f1.Other)])] := by
 unfold charContains at h
 refine con_of_WC (S := slotsOf 0 _) Tryz.func115 rfl Tryz.ntmps115 rfl (fun t x hx => (slotsOf_get hx).2) ?_
 intro F L w ρ0 R hR
 try dsimp only [slotsOf]
 refine sr (lr1 rfl (ns (lr2 rfl ?_)))
 replace h := bnd h; obtain ⟨v, hvv, h⟩ := h
 refine WL.callO [(810, 810), (811, 811)] [(810, 810), (811, 811)] [810, 811] fn157 rfl rfl rfl rfl (by exact trivial) (charIndex_con hw hvv) rfl rfl (by exact eqs) rfl rfl rfl rfl rfl rfl ?_
 refine lr2 rfl (nr ?_)
 cases h
 exact rt tbOk hR
theorem byCharIn_con {wg : World} (hw : WG wg) {e1 : ApiCodeEntry} {a1 : (List ApiComponent)} {a2 : ClassifyLevel} {r : Bool} (h : byCharIn e1 a1 a2 = some r) : Con Tryz.prog wg gl 114 [.v (.agg [.str e1.Code, .int .i64 e1.From, .int .i64 e1.To, .sl 1 (e1.Terms.map eLStr), .bool e1.Other]), .p 1 0, .p 2 0] [(1, .blk 41 [.v (.sl 2 (a1.map eApiComponent))]), (2, .blk 102 [.v (.sl 5 (a2.book.Entries.map eApiCodeEntry)), .v (.sl 3 (a2.book.Notes.map eApiCodeNote)), .v (.sl 1 (a2.good.Words.map eStr)), .v (.sl 2 (a2.good.Materials.map eApiMaterial)), .v (.sl 2 (a2.good.Parts.map eApiComponent)), .v (.bool a2.good.Incomplete), .v (.str a2.parent), .v (.sl 5 (a2.entries.map eApiCodeEntry))])] (.v (.bool r)) [(1, .blk 41 [.v (.sl 2 (a1.map eApiComponent))]), (2, .blk 102 [.v (.sl 5 (a2.book.Entries.map eApiCodeEntry)), .v (.sl 3 (a2.book.Notes.map eApiCodeNote)), .v (.sl 1 (a2.good.Words.map eStr)), .v (.sl 2 (a2.good.Materials.map eApiMaterial)), .v (.sl 2 (a2.good.Parts.map eApiComponent)), .v (.bool a2.good.Incomplete), .v (.str a2.parent), .v (.sl 5 (a2.entries.map eApiCodeEntry))])] := by
 unfold byCharIn at h
 refine con_of_WC (S := slotsOf 0 _) Tryz.func114 rfl Tryz.ntmps114 rfl (fun t x hx => (slotsOf_get hx).2) ?_
 intro F L w ρ0 R hR
 try dsimp only [slotsOf]
 refine sr (lr2 rfl (ns (lr2 rfl ?_)))
 replace h := bnd h; obtain ⟨v, hvv, h⟩ := h
 refine WL.callO [(810, 2), (811, 3)] [(810, 2), (811, 3)] [2, 3] fn115 rfl rfl rfl rfl (by exact trivial) (charContains_con hw hvv) rfl rfl (by exact eqs) rfl rfl rfl rfl rfl rfl ?_
 refine lr1 rfl (nr ?_)
 cases h
 exact rt tbOk hR
theorem keepChar_con {wg : World} (hw : WG wg) {l : (List ApiCodeEntry)} {test0 : (List ApiComponent)} {test1 : ClassifyLevel} {r : (List ApiCodeEntry)} (h : keepChar l test0 test1 = some r) : Con Tryz.prog wg gl 111 [.v (.sl 5 (l.map eApiCodeEntry)), .fn 114 [.p 810 0, .p 811 0]] [(810, .blk 41 [.v (.sl 2 (test0.map eApiComponent))]), (811, .blk 102 [.v (.sl 5 (test1.book.Entries.map eApiCodeEntry)), .v (.sl 3 (test1.book.Notes.map eApiCodeNote)), .v (.sl 1 (test1.good.Words.map eStr)), .v (.sl 2 (test1.good.Materials.map eApiMaterial)), .v (.sl 2 (test1.good.Parts.map eApiComponent)), .v (.bool test1.good.Incomplete), .v (.str test1.parent), .v (.sl 5 (test1.entries.map eApiCodeEntry))])] (.v (.sl 5 (r.map eApiCodeEntry))) [(810, .blk 41 [.v (.sl 2 (test0.map eApiComponent))]), (811, .blk 102 [.v (.sl 5 (test1.book.Entries.map eApiCodeEntry)), .v (.sl 3 (test1.book.Notes.map eApiCodeNote)), .v (.sl 1 (test1.good.Words.map eStr)), .v (.sl 2 (test1.good.Materials.map eApiMaterial)), .v (.sl 2 (test1.good.Parts.map eApiComponent)), .v (.bool test1.good.Incomplete), .v (.str test1.parent), .v (.sl 5 (test1.entries.map eApiCodeEntry))])] := by
 unfold keepChar at h
 refine con_of_WC (S := slotsOf 0 _) Tryz.func111 rfl Tryz.ntmps111 rfl (fun t x hx => (slotsOf_get hx).2) ?_
 intro F L w ρ0 R hR
 try dsimp only [slotsOf]
 refine sr (lr1 rfl (ns (lr1 rfl (nn (WC.seq (sr (lr1 rfl ?_)))))))
 refine WL.q [] rfl rfl rfl (q_ev tbOk (.v (.int .i64 (l.length : Int))) rfl (by exact trivial) (by exact lenT)) ?_
 refine lr1 rfl (nn ?_)
 refine WC.thenCut (X := (List ApiCodeEntry)) (fun gG => ⟨[(5, .r 1005)], [(1005, .row 54 5 (gG.map eApiCodeEntry)), (810, .blk 41 [.v (.sl 2 (test0.map eApiComponent))]), (811, .blk 102 [.v (.sl 5 (test1.book.Entries.map eApiCodeEntry)), .v (.sl 3 (test1.book.Notes.map eApiCodeNote)), .v (.sl 1 (test1.good.Words.map eStr)), .v (.sl 2 (test1.good.Materials.map eApiMaterial)), .v (.sl 2 (test1.good.Parts.map eApiComponent)), .v (.bool test1.good.Incomplete), .v (.str test1.parent), .v (.sl 5 (test1.entries.map eApiCodeEntry))])]⟩) (fun gG => keepChar_j1 test0 test1 gG = some r) ?_ ?_
 ·refine WC.block ?_
  obtain ⟨eQ1, hl1, hk1⟩ := bnd h
  clear h
  refine WC.rowNil 5 1005 54 5 rfl rfl ?_
  refine WC.loop (σ := Int × (List ApiCodeEntry)) (τ := ((List ApiCodeEntry))) (fun sS => ⟨[(10, .v (.int .i64 sS.1)), (9, .v (.int .i64 (l.length : Int))), (8, .v (.sl 5 (l.map eApiCodeEntry))), (5, .r 1005), (1, .fn 114 [.p 810 0, .p 811 0])], [(1005, .row 54 5 (sS.2.map eApiCodeEntry)), (810, .blk 41 [.v (.sl 2 (test0.map eApiComponent))]), (811, .blk 102 [.v (.sl 5 (test1.book.Entries.map eApiCodeEntry)), .v (.sl 3 (test1.book.Notes.map eApiCodeNote)), .v (.sl 1 (test1.good.Words.map eStr)), .v (.sl 2 (test1.good.Materials.map eApiMaterial)), .v (.sl 2 (test1.good.Parts.map eApiComponent)), .v (.bool test1.good.Incomplete), .v (.str test1.parent), .v (.sl 5 (test1.entries.map eApiCodeEntry))])]⟩) (keepChar_b1 l test0 test1) [] ((0 : Int), []) hl1 sub ?_
  rintro ⟨t102, kept3⟩ m hn1 he1 hx1
  obtain ⟨o1, hf1⟩ := some_of hx1
  have h := hf1
  unfold keepChar_b1 at h
  try dsimp only [slotsOf]
  refine sr (lr1 rfl (nn (WC.seq ?_)))
  refine WC.cond rfl (fun hc1 => ?_) (fun hc1 => ?_)
  ·replace h := ite_t hc1 h
   refine kn (WC.seq ?_)
   refine WC.thenCut (X := (List ApiCodeEntry)) (fun gG => ⟨[(5, .r 1005), (10, .v (.int .i64 t102)), (9, .v (.int .i64 (l.length : Int))), (8, .v (.sl 5 (l.map eApiCodeEntry))), (1, .fn 114 [.p 810 0, .p 811 0])], [(1005, .row 54 5 (gG.map eApiCodeEntry)), (810, .blk 41 [.v (.sl 2 (test0.map eApiComponent))]), (811, .blk 102 [.v (.sl 5 (test1.book.Entries.map eApiCodeEntry)), .v (.sl 3 (test1.book.Notes.map eApiCodeNote)), .v (.sl 1 (test1.good.Words.map eStr)), .v (.sl 2 (test1.good.Materials.map eApiMaterial)), .v (.sl 2 (test1.good.Parts.map eApiComponent)), .v (.bool test1.good.Incomplete), .v (.str test1.parent), .v (.sl 5 (test1.entries.map eApiCodeEntry))])]⟩) (fun gG => keepChar_j2 l test0 test1 t102 gG = some o1) ?_ ?_
   ·refine WC.block (sr ?_)
    obtain ⟨g1, h⟩ := grd h
    replace h := bnd h; obtain ⟨x3, hxx3, h⟩ := h
    refine WL.q [] rfl rfl rfl (q_idx tbOk rfl (by exact trivial) g1 (map_get (f := eApiCodeEntry) hxx3)) ?_
    refine lr3 rfl (ns (lr2 rfl ?_))
    replace h := bnd h; obtain ⟨v3, hvv3, h⟩ := h
    refine WL.callO [(1, 810), (2, 811)] [(1, 810), (2, 811)] [810, 811] fn114 rfl rfl rfl rfl (by exact trivial) (byCharIn_con hw hvv3) rfl rfl (by exact eqs) rfl rfl rfl rfl rfl rfl ?_
    refine nn ?_
    refine WC.cond rfl (fun hc2 => ?_) (fun hc2 => ?_)
    ·replace h := ite_t hc2 h
     refine WC.region (lr3 rfl ?_)
     obtain ⟨g2, h⟩ := grd h
     refine WL.append tbOk ((kept3 ++ [x3]).map eApiCodeEntry) [20, 1005] ap25 rfl rfl rfl rfl (fun _ e => by cases e; rfl) (by exact trivial) (map_cells (f := eApiCodeEntry) (xs := [x3]) fun _ => rfl) (by have := g2; simp only [List.length_map, List.length_nil, List.length_cons] at this ⊢; omega) rfl rfl (by simp only [List.map_append]; try rfl) rfl ?_
     refine lr1 rfl (WL.nil (WQ.blockNormal ?_))
     exact WQ.cut [(1005, 20)] (kept3 ++ [x3]) sub h
    ·replace h := ite_f hc2 h
     refine WC.skip (WQ.blockNormal ?_)
     exact WQ.cut [] kept3 sub h
   ·intro kept6 h
    replace h : keepChar_j2 l test0 test1 t102 kept6 = some _ := h
    unfold keepChar_j2 at h
    try dsimp only [slotsOf]
    refine WC.region (lr2 rfl (WL.nil ?_))
    cases h
    exact WQ.next [] ((IntKind.i64.wrap (t102 + (1 : Int))), kept6) sub (hn1 _ hf1)
  ·replace h := ite_f hc1 h
   refine WC.exit (WQ.thenExit ?_)
   cases h
   have he := he1 _ hf1
   subst he
   replace h := hk1
   try dsimp only at h
   refine eb ?_
   exact WQ.cut [] kept3 sub h
 ·intro kept h
  replace h : keepChar_j1 test0 test1 kept = some _ := h
  unfold keepChar_j1 at h
  try dsimp only [slotsOf]
  refine sr (lr2 rfl (nr ?_))
  refine WQ.publish 1005 rfl rfl ?_
  cases h
  exact rt tbOk hR
theorem byCharacter_con {wg : World} (hw : WG wg) {v : ClassifyLevel} {r : (List ApiCodeEntry)} (h : byCharacter v = some r) : Con Tryz.prog wg gl 64 [.v (.agg [.sl 5 (v.book.Entries.map eApiCodeEntry), .sl 3 (v.book.Notes.map eApiCodeNote), .sl 1 (v.good.Words.map eStr), .sl 2 (v.good.Materials.map eApiMaterial), .sl 2 (v.good.Parts.map eApiComponent), .bool v.good.Incomplete, .str v.parent, .sl 5 (v.entries.map eApiCodeEntry)])] [] (.v (.sl 5 (r.map eApiCodeEntry))) [] := by
 unfold byCharacter at h
 refine con_of_WC (S := slotsOf 0 _) Tryz.func64 rfl Tryz.ntmps64 rfl (fun t x hx => (slotsOf_get hx).2) ?_
 intro F L w ρ0 R hR
 try dsimp only [slotsOf]
 refine sr (lr2 rfl (ns (lr2 rfl ?_)))
 replace h := bnd h; obtain ⟨v2, hvv2, h⟩ := h
 refine WL.call0 fn73 rfl rfl rfl rfl (by exact trivial) rfl (goodsCharacters_con hw hvv2) ?_
 refine lr2 rfl (ns (lr3 rfl ?_))
 replace h := bnd h; obtain ⟨v3, hvv3, h⟩ := h
 refine WL.callO [(810, 3), (811, 1)] [(810, 3), (811, 1)] [3, 1] fn111 rfl rfl rfl rfl (by exact trivial) (keepChar_con hw hvv3) rfl rfl (by exact eqs) rfl rfl rfl rfl rfl rfl ?_
 refine lr1 rfl (nr ?_)
 cases h
 exact rt tbOk hR
theorem residualIn_con {wg : World} (hw : WG wg) {e1 : ApiCodeEntry} {r : Bool} (h : residualIn e1 = some r) : Con Tryz.prog wg gl 117 [.v (.agg [.str e1.Code, .int .i64 e1.From, .int .i64 e1.To, .sl 1 (e1.Terms.map eLStr), .bool e1.Other])] [] (.v (.bool r)) [] := by
 unfold residualIn at h
 refine con_of_WC (S := slotsOf 0 _) Tryz.func117 rfl Tryz.ntmps117 rfl (fun t x hx => (slotsOf_get hx).2) ?_
 intro F L w ρ0 R hR
 try dsimp only [slotsOf]
 refine sr (lr2 rfl (ns (lr3 rfl (nr ?_))))
 cases h
 exact rt tbOk hR
theorem keepResidual_con {wg : World} (hw : WG wg) {l : (List ApiCodeEntry)} {r : (List ApiCodeEntry)} (h : keepResidual l = some r) : Con Tryz.prog wg gl 111 [.v (.sl 5 (l.map eApiCodeEntry)), .fn 117 []] [] (.v (.sl 5 (r.map eApiCodeEntry))) [] := by
 unfold keepResidual at h
 refine con_of_WC (S := slotsOf 0 _) Tryz.func111 rfl Tryz.ntmps111 rfl (fun t x hx => (slotsOf_get hx).2) ?_
 intro F L w ρ0 R hR
 try dsimp only [slotsOf]
 refine sr (lr1 rfl (ns (lr1 rfl (nn (WC.seq (sr (lr1 rfl ?_)))))))
 refine WL.q [] rfl rfl rfl (q_ev tbOk (.v (.int .i64 (l.length : Int))) rfl (by exact trivial) (by exact lenT)) ?_
 refine lr1 rfl (nn ?_)
 refine WC.thenCut (X := (List ApiCodeEntry)) (fun gG => ⟨[(5, .r 1005)], [(1005, .row 54 5 (gG.map eApiCodeEntry))]⟩) (fun gG => keepResidual_j1 gG = some r) ?_ ?_
 ·refine WC.block ?_
  obtain ⟨eQ1, hl1, hk1⟩ := bnd h
  clear h
  refine WC.rowNil 5 1005 54 5 rfl rfl ?_
  refine WC.loop (σ := Int × (List ApiCodeEntry)) (τ := ((List ApiCodeEntry))) (fun sS => ⟨[(10, .v (.int .i64 sS.1)), (9, .v (.int .i64 (l.length : Int))), (8, .v (.sl 5 (l.map eApiCodeEntry))), (5, .r 1005), (1, .fn 117 [])], [(1005, .row 54 5 (sS.2.map eApiCodeEntry))]⟩) (keepResidual_b1 l) [] ((0 : Int), []) hl1 sub ?_
  rintro ⟨t102, kept3⟩ m hn1 he1 hx1
  obtain ⟨o1, hf1⟩ := some_of hx1
  have h := hf1
  unfold keepResidual_b1 at h
  try dsimp only [slotsOf]
  refine sr (lr1 rfl (nn (WC.seq ?_)))
  refine WC.cond rfl (fun hc1 => ?_) (fun hc1 => ?_)
  ·replace h := ite_t hc1 h
   refine kn (WC.seq ?_)
   refine WC.thenCut (X := (List ApiCodeEntry)) (fun gG => ⟨[(5, .r 1005), (10, .v (.int .i64 t102)), (9, .v (.int .i64 (l.length : Int))), (8, .v (.sl 5 (l.map eApiCodeEntry))), (1, .fn 117 [])], [(1005, .row 54 5 (gG.map eApiCodeEntry))]⟩) (fun gG => keepResidual_j2 l t102 gG = some o1) ?_ ?_
   ·refine WC.block (sr ?_)
    obtain ⟨g1, h⟩ := grd h
    replace h := bnd h; obtain ⟨x3, hxx3, h⟩ := h
    refine WL.q [] rfl rfl rfl (q_idx tbOk rfl (by exact trivial) g1 (map_get (f := eApiCodeEntry) hxx3)) ?_
    refine lr3 rfl (ns (lr2 rfl ?_))
    replace h := bnd h; obtain ⟨v3, hvv3, h⟩ := h
    refine WL.call0 fn117 rfl rfl rfl rfl (by exact trivial) rfl (residualIn_con hw hvv3) ?_
    refine nn ?_
    refine WC.cond rfl (fun hc2 => ?_) (fun hc2 => ?_)
    ·replace h := ite_t hc2 h
     refine WC.region (lr3 rfl ?_)
     obtain ⟨g2, h⟩ := grd h
     refine WL.append tbOk ((kept3 ++ [x3]).map eApiCodeEntry) [20, 1005] ap25 rfl rfl rfl rfl (fun _ e => by cases e; rfl) (by exact trivial) (map_cells (f := eApiCodeEntry) (xs := [x3]) fun _ => rfl) (by have := g2; simp only [List.length_map, List.length_nil, List.length_cons] at this ⊢; omega) rfl rfl (by simp only [List.map_append]; try rfl) rfl ?_
     refine lr1 rfl (WL.nil (WQ.blockNormal ?_))
     exact WQ.cut [(1005, 20)] (kept3 ++ [x3]) sub h
    ·replace h := ite_f hc2 h
     refine WC.skip (WQ.blockNormal ?_)
     exact WQ.cut [] kept3 sub h
   ·intro kept6 h
    replace h : keepResidual_j2 l t102 kept6 = some _ := h
    unfold keepResidual_j2 at h
    try dsimp only [slotsOf]
    refine WC.region (lr2 rfl (WL.nil ?_))
    cases h
    exact WQ.next [] ((IntKind.i64.wrap (t102 + (1 : Int))), kept6) sub (hn1 _ hf1)
  ·replace h := ite_f hc1 h
   refine WC.exit (WQ.thenExit ?_)
   cases h
   have he := he1 _ hf1
   subst he
   replace h := hk1
   try dsimp only at h
   refine eb ?_
   exact WQ.cut [] kept3 sub h
 ·intro kept h
  replace h : keepResidual_j1 kept = some _ := h
  unfold keepResidual_j1 at h
  try dsimp only [slotsOf]
  refine sr (lr2 rfl (nr ?_))
  refine WQ.publish 1005 rfl rfl ?_
  cases h
  exact rt tbOk hR
theorem residual_con {wg : World} (hw : WG wg) {v : ClassifyLevel} {r : (List ApiCodeEntry)} (h : residual v = some r) : Con Tryz.prog wg gl 65 [.v (.agg [.sl 5 (v.book.Entries.map eApiCodeEntry), .sl 3 (v.book.Notes.map eApiCodeNote), .sl 1 (v.good.Words.map eStr), .sl 2 (v.good.Materials.map eApiMaterial), .sl 2 (v.good.Parts.map eApiComponent), .bool v.good.Incomplete, .str v.parent, .sl 5 (v.entries.map eApiCodeEntry)])] [] (.v (.sl 5 (r.map eApiCodeEntry))) [] := by
 unfold residual at h
 refine con_of_WC (S := slotsOf 0 _) Tryz.func65 rfl Tryz.ntmps65 rfl (fun t x hx => (slotsOf_get hx).2) ?_
 intro F L w ρ0 R hR
 try dsimp only [slotsOf]
 refine sr (lr2 rfl (nn (WC.seq (sr (lr3 rfl (nn ?_))))))
 refine WC.cond rfl (fun hc1 => ?_) (fun hc1 => ?_)
 ·replace h := ite_t hc1 h
  refine sr (lr1 rfl (nr (WQ.thenRet ?_)))
  cases h
  exact WQ.rets tbOk (r := .v (.sl 5 ([].map eApiCodeEntry))) hR [] (.inl rfl) rfl rfl (Le.nil 5) (by exact trivial) rfl rfl rfl rfl
 ·replace h := ite_f hc1 h
  refine kn (sr (lr2 rfl ?_))
  replace h := bnd h; obtain ⟨v2, hvv2, h⟩ := h
  refine WL.call0 fn111 rfl rfl rfl rfl (by exact trivial) rfl (keepResidual_con hw hvv2) ?_
  refine lr1 rfl (nr ?_)
  cases h
  exact rt tbOk hR
theorem akinIn_con {wg : World} (hw : WG wg) {e1 : ApiCodeEntry} {a1 : ClassifyLevel} {a2 : Int} {r : Bool} (h : akinIn e1 a1 a2 = some r) : Con Tryz.prog wg gl 118 [.v (.agg [.str e1.Code, .int .i64 e1.From, .int .i64 e1.To, .sl 1 (e1.Terms.map eLStr), .bool e1.Other]), .p 1 0, .p 2 0] [(1, .blk 102 [.v (.sl 5 (a1.book.Entries.map eApiCodeEntry)), .v (.sl 3 (a1.book.Notes.map eApiCodeNote)), .v (.sl 1 (a1.good.Words.map eStr)), .v (.sl 2 (a1.good.Materials.map eApiMaterial)), .v (.sl 2 (a1.good.Parts.map eApiComponent)), .v (.bool a1.good.Incomplete), .v (.str a1.parent), .v (.sl 5 (a1.entries.map eApiCodeEntry))]), (2, .blk 3 [.v (.int .i64 a2)])] (.v (.bool r)) [(1, .blk 102 [.v (.sl 5 (a1.book.Entries.map eApiCodeEntry)), .v (.sl 3 (a1.book.Notes.map eApiCodeNote)), .v (.sl 1 (a1.good.Words.map eStr)), .v (.sl 2 (a1.good.Materials.map eApiMaterial)), .v (.sl 2 (a1.good.Parts.map eApiComponent)), .v (.bool a1.good.Incomplete), .v (.str a1.parent), .v (.sl 5 (a1.entries.map eApiCodeEntry))]), (2, .blk 3 [.v (.int .i64 a2)])] := by
 unfold akinIn at h
 refine con_of_WC (S := slotsOf 0 _) Tryz.func118 rfl Tryz.ntmps118 rfl (fun t x hx => (slotsOf_get hx).2) ?_
 intro F L w ρ0 R hR
 try dsimp only [slotsOf]
 refine sr (lr2 rfl (nn (WC.seq (WC.order mixed ?_))))
 refine wr 5 rfl trivial ?_
 replace h := bnd h; obtain ⟨v, hvv, h⟩ := h
 refine WR.call0 fn32 rfl rfl rfl rfl (by exact trivial) rfl (likeness_con hw hvv) ?_
 refine wr 3 rfl trivial ?_
 refine WR.nil (by kernel_rfl) (WQ.thenNormal (WC.ret ?_))
 cases h
 exact rt tbOk hR
theorem keepAkin_con {wg : World} (hw : WG wg) {l : (List ApiCodeEntry)} {test0 : ClassifyLevel} {test1 : Int} {r : (List ApiCodeEntry)} (h : keepAkin l test0 test1 = some r) : Con Tryz.prog wg gl 111 [.v (.sl 5 (l.map eApiCodeEntry)), .fn 118 [.p 810 0, .p 811 0]] [(810, .blk 102 [.v (.sl 5 (test0.book.Entries.map eApiCodeEntry)), .v (.sl 3 (test0.book.Notes.map eApiCodeNote)), .v (.sl 1 (test0.good.Words.map eStr)), .v (.sl 2 (test0.good.Materials.map eApiMaterial)), .v (.sl 2 (test0.good.Parts.map eApiComponent)), .v (.bool test0.good.Incomplete), .v (.str test0.parent), .v (.sl 5 (test0.entries.map eApiCodeEntry))]), (811, .blk 3 [.v (.int .i64 test1)])] (.v (.sl 5 (r.map eApiCodeEntry))) [(810, .blk 102 [.v (.sl 5 (test0.book.Entries.map eApiCodeEntry)), .v (.sl 3 (test0.book.Notes.map eApiCodeNote)), .v (.sl 1 (test0.good.Words.map eStr)), .v (.sl 2 (test0.good.Materials.map eApiMaterial)), .v (.sl 2 (test0.good.Parts.map eApiComponent)), .v (.bool test0.good.Incomplete), .v (.str test0.parent), .v (.sl 5 (test0.entries.map eApiCodeEntry))]), (811, .blk 3 [.v (.int .i64 test1)])] := by
 unfold keepAkin at h
 refine con_of_WC (S := slotsOf 0 _) Tryz.func111 rfl Tryz.ntmps111 rfl (fun t x hx => (slotsOf_get hx).2) ?_
 intro F L w ρ0 R hR
 try dsimp only [slotsOf]
 refine sr (lr1 rfl (ns (lr1 rfl (nn (WC.seq (sr (lr1 rfl ?_)))))))
 refine WL.q [] rfl rfl rfl (q_ev tbOk (.v (.int .i64 (l.length : Int))) rfl (by exact trivial) (by exact lenT)) ?_
 refine lr1 rfl (nn ?_)
 refine WC.thenCut (X := (List ApiCodeEntry)) (fun gG => ⟨[(5, .r 1005)], [(1005, .row 54 5 (gG.map eApiCodeEntry)), (810, .blk 102 [.v (.sl 5 (test0.book.Entries.map eApiCodeEntry)), .v (.sl 3 (test0.book.Notes.map eApiCodeNote)), .v (.sl 1 (test0.good.Words.map eStr)), .v (.sl 2 (test0.good.Materials.map eApiMaterial)), .v (.sl 2 (test0.good.Parts.map eApiComponent)), .v (.bool test0.good.Incomplete), .v (.str test0.parent), .v (.sl 5 (test0.entries.map eApiCodeEntry))]), (811, .blk 3 [.v (.int .i64 test1)])]⟩) (fun gG => keepAkin_j1 test0 test1 gG = some r) ?_ ?_
 ·refine WC.block ?_
  obtain ⟨eQ1, hl1, hk1⟩ := bnd h
  clear h
  refine WC.rowNil 5 1005 54 5 rfl rfl ?_
  refine WC.loop (σ := Int × (List ApiCodeEntry)) (τ := ((List ApiCodeEntry))) (fun sS => ⟨[(10, .v (.int .i64 sS.1)), (9, .v (.int .i64 (l.length : Int))), (8, .v (.sl 5 (l.map eApiCodeEntry))), (5, .r 1005), (1, .fn 118 [.p 810 0, .p 811 0])], [(1005, .row 54 5 (sS.2.map eApiCodeEntry)), (810, .blk 102 [.v (.sl 5 (test0.book.Entries.map eApiCodeEntry)), .v (.sl 3 (test0.book.Notes.map eApiCodeNote)), .v (.sl 1 (test0.good.Words.map eStr)), .v (.sl 2 (test0.good.Materials.map eApiMaterial)), .v (.sl 2 (test0.good.Parts.map eApiComponent)), .v (.bool test0.good.Incomplete), .v (.str test0.parent), .v (.sl 5 (test0.entries.map eApiCodeEntry))]), (811, .blk 3 [.v (.int .i64 test1)])]⟩) (keepAkin_b1 l test0 test1) [] ((0 : Int), []) hl1 sub ?_
  rintro ⟨t102, kept3⟩ m hn1 he1 hx1
  obtain ⟨o1, hf1⟩ := some_of hx1
  have h := hf1
  unfold keepAkin_b1 at h
  try dsimp only [slotsOf]
  refine sr (lr1 rfl (nn (WC.seq ?_)))
  refine WC.cond rfl (fun hc1 => ?_) (fun hc1 => ?_)
  ·replace h := ite_t hc1 h
   refine kn (WC.seq ?_)
   refine WC.thenCut (X := (List ApiCodeEntry)) (fun gG => ⟨[(5, .r 1005), (10, .v (.int .i64 t102)), (9, .v (.int .i64 (l.length : Int))), (8, .v (.sl 5 (l.map eApiCodeEntry))), (1, .fn 118 [.p 810 0, .p 811 0])], [(1005, .row 54 5 (gG.map eApiCodeEntry)), (810, .blk 102 [.v (.sl 5 (test0.book.Entries.map eApiCodeEntry)), .v (.sl 3 (test0.book.Notes.map eApiCodeNote)), .v (.sl 1 (test0.good.Words.map eStr)), .v (.sl 2 (test0.good.Materials.map eApiMaterial)), .v (.sl 2 (test0.good.Parts.map eApiComponent)), .v (.bool test0.good.Incomplete), .v (.str test0.parent), .v (.sl 5 (test0.entries.map eApiCodeEntry))]), (811, .blk 3 [.v (.int .i64 test1)])]⟩) (fun gG => keepAkin_j2 l test0 test1 t102 gG = some o1) ?_ ?_
   ·refine WC.block (sr ?_)
    obtain ⟨g1, h⟩ := grd h
    replace h := bnd h; obtain ⟨x3, hxx3, h⟩ := h
    refine WL.q [] rfl rfl rfl (q_idx tbOk rfl (by exact trivial) g1 (map_get (f := eApiCodeEntry) hxx3)) ?_
    refine lr3 rfl (ns (lr2 rfl ?_))
    replace h := bnd h; obtain ⟨v3, hvv3, h⟩ := h
    refine WL.callO [(1, 810), (2, 811)] [(1, 810), (2, 811)] [810, 811] fn118 rfl rfl rfl rfl (by exact trivial) (akinIn_con hw hvv3) rfl rfl (by exact eqs) rfl rfl rfl rfl rfl rfl ?_
    refine nn ?_
    refine WC.cond rfl (fun hc2 => ?_) (fun hc2 => ?_)
    ·replace h := ite_t hc2 h
     refine WC.region (lr3 rfl ?_)
     obtain ⟨g2, h⟩ := grd h
     refine WL.append tbOk ((kept3 ++ [x3]).map eApiCodeEntry) [20, 1005] ap25 rfl rfl rfl rfl (fun _ e => by cases e; rfl) (by exact trivial) (map_cells (f := eApiCodeEntry) (xs := [x3]) fun _ => rfl) (by have := g2; simp only [List.length_map, List.length_nil, List.length_cons] at this ⊢; omega) rfl rfl (by simp only [List.map_append]; try rfl) rfl ?_
     refine lr1 rfl (WL.nil (WQ.blockNormal ?_))
     exact WQ.cut [(1005, 20)] (kept3 ++ [x3]) sub h
    ·replace h := ite_f hc2 h
     refine WC.skip (WQ.blockNormal ?_)
     exact WQ.cut [] kept3 sub h
   ·intro kept6 h
    replace h : keepAkin_j2 l test0 test1 t102 kept6 = some _ := h
    unfold keepAkin_j2 at h
    try dsimp only [slotsOf]
    refine WC.region (lr2 rfl (WL.nil ?_))
    cases h
    exact WQ.next [] ((IntKind.i64.wrap (t102 + (1 : Int))), kept6) sub (hn1 _ hf1)
  ·replace h := ite_f hc1 h
   refine WC.exit (WQ.thenExit ?_)
   cases h
   have he := he1 _ hf1
   subst he
   replace h := hk1
   try dsimp only at h
   refine eb ?_
   exact WQ.cut [] kept3 sub h
 ·intro kept h
  replace h : keepAkin_j1 test0 test1 kept = some _ := h
  unfold keepAkin_j1 at h
  try dsimp only [slotsOf]
  refine sr (lr2 rfl (nr ?_))
  refine WQ.publish 1005 rfl rfl ?_
  cases h
  exact rt tbOk hR
theorem akin_con {wg : World} (hw : WG wg) {v : ClassifyLevel} {r : (List ApiCodeEntry)} (h : akin v = some r) : Con Tryz.prog wg gl 66 [.v (.agg [.sl 5 (v.book.Entries.map eApiCodeEntry), .sl 3 (v.book.Notes.map eApiCodeNote), .sl 1 (v.good.Words.map eStr), .sl 2 (v.good.Materials.map eApiMaterial), .sl 2 (v.good.Parts.map eApiComponent), .bool v.good.Incomplete, .str v.parent, .sl 5 (v.entries.map eApiCodeEntry)])] [] (.v (.sl 5 (r.map eApiCodeEntry))) [] := by
 unfold akin at h
 refine con_of_WC (S := slotsOf 0 _) Tryz.func66 rfl Tryz.ntmps66 rfl (fun t x hx => (slotsOf_get hx).2) ?_
 intro F L w ρ0 R hR
 try dsimp only [slotsOf]
 refine sr (lr2 rfl (ns (lr2 rfl (nn (WC.seq (sr (lr2 rfl ?_)))))))
 refine WL.q [] rfl rfl rfl (q_ev tbOk (.v (.int .i64 (v.entries.length : Int))) rfl (by exact trivial) (by exact lenT)) ?_
 refine lr1 rfl (nn ?_)
 refine WC.thenCut (X := Int) (fun gG => ⟨[(3, .p 3 0), (1, .p 1 0)], [(1, .blk 102 [.v (.sl 5 (v.book.Entries.map eApiCodeEntry)), .v (.sl 3 (v.book.Notes.map eApiCodeNote)), .v (.sl 1 (v.good.Words.map eStr)), .v (.sl 2 (v.good.Materials.map eApiMaterial)), .v (.sl 2 (v.good.Parts.map eApiComponent)), .v (.bool v.good.Incomplete), .v (.str v.parent), .v (.sl 5 (v.entries.map eApiCodeEntry))]), (3, .blk 3 [.v (.int .i64 gG)])]⟩) (fun gG => akin_j1 v gG = some r) ?_ ?_
 ·refine WC.block ?_
  obtain ⟨eQ1, hl1, hk1⟩ := bnd h
  clear h
  refine WC.loop (σ := Int × Int) (τ := (Int)) (fun sS => ⟨[(9, .v (.int .i64 sS.1)), (8, .v (.int .i64 (v.entries.length : Int))), (7, .v (.sl 5 (v.entries.map eApiCodeEntry))), (3, .p 3 0), (1, .p 1 0)], [(1, .blk 102 [.v (.sl 5 (v.book.Entries.map eApiCodeEntry)), .v (.sl 3 (v.book.Notes.map eApiCodeNote)), .v (.sl 1 (v.good.Words.map eStr)), .v (.sl 2 (v.good.Materials.map eApiMaterial)), .v (.sl 2 (v.good.Parts.map eApiComponent)), .v (.bool v.good.Incomplete), .v (.str v.parent), .v (.sl 5 (v.entries.map eApiCodeEntry))]), (3, .blk 3 [.v (.int .i64 sS.2)])]⟩) (akin_b1 v) [] ((0 : Int), (0 : Int)) hl1 sub ?_
  rintro ⟨t9, c3_02⟩ m hn1 he1 hx1
  obtain ⟨o1, hf1⟩ := some_of hx1
  have h := hf1
  unfold akin_b1 at h
  try dsimp only [slotsOf]
  refine sr (lr1 rfl (nn (WC.seq ?_)))
  refine WC.cond rfl (fun hc2 => ?_) (fun hc2 => ?_)
  ·replace h := ite_t hc2 h
   refine kn (sb (sr ?_))
   obtain ⟨g1, h⟩ := grd h
   replace h := bnd h; obtain ⟨x2, hxx2, h⟩ := h
   refine WL.q [] rfl rfl rfl (q_idx tbOk rfl (by exact trivial) g1 (map_get (f := eApiCodeEntry) hxx2)) ?_
   refine lr3 rfl (nn (WC.order mixed ?_))
   refine wr 6 rfl trivial ?_
   replace h := bnd h; obtain ⟨v4, hvv4, h⟩ := h
   refine WR.call0 fn32 rfl rfl rfl rfl (by exact trivial) rfl (likeness_con hw hvv4) ?_
   refine wr 2 rfl trivial ?_
   refine WR.nil (by kernel_rfl) (bn (WC.region (lr2 rfl (WL.nil ?_))))
   cases h
   exact WQ.next [] ((IntKind.i64.wrap (t9 + (1 : Int))), (if v4 > c3_02 then v4 else c3_02)) sub (hn1 _ hf1)
  ·replace h := ite_f hc2 h
   refine WC.exit (WQ.thenExit ?_)
   cases h
   have he := he1 _ hf1
   subst he
   replace h := hk1
   try dsimp only at h
   refine eb ?_
   exact WQ.cut [] c3_02 sub h
 ·intro c3_0 h
  replace h : akin_j1 v c3_0 = some _ := h
  unfold akin_j1 at h
  try dsimp only [slotsOf]
  refine WC.seq (sr (lr2 rfl (nn ?_)))
  refine WC.cond rfl (fun hc1 => ?_) (fun hc1 => ?_)
  ·replace h := ite_t hc1 h
   refine sr (lr1 rfl (nr (WQ.thenRet ?_)))
   cases h
   exact WQ.rets tbOk (r := .v (.sl 5 ([].map eApiCodeEntry))) hR [] (.inl rfl) rfl rfl (Le.nil 5) (by exact trivial) rfl rfl rfl rfl
  ·replace h := ite_f hc1 h
   refine kn (sr (lr3 rfl ?_))
   replace h := bnd h; obtain ⟨v2, hvv2, h⟩ := h
   refine WL.callO [(810, 1), (811, 3)] [(810, 1), (811, 3)] [1, 3] fn111 rfl rfl rfl rfl (by exact trivial) (keepAkin_con hw hvv2) rfl rfl (by exact eqs) rfl rfl rfl rfl rfl rfl ?_
   refine lr1 rfl (nr ?_)
   cases h
   exact rt tbOk hR
theorem allBelow_con {wg : World} (hw : WG wg) {v : ClassifyLevel} {r : (List ApiCodeEntry)} (h : allBelow v = some r) : Con Tryz.prog wg gl 67 [.v (.agg [.sl 5 (v.book.Entries.map eApiCodeEntry), .sl 3 (v.book.Notes.map eApiCodeNote), .sl 1 (v.good.Words.map eStr), .sl 2 (v.good.Materials.map eApiMaterial), .sl 2 (v.good.Parts.map eApiComponent), .bool v.good.Incomplete, .str v.parent, .sl 5 (v.entries.map eApiCodeEntry)])] [] (.v (.sl 5 (r.map eApiCodeEntry))) [] := by
 unfold allBelow at h
 refine con_of_WC (S := slotsOf 0 _) Tryz.func67 rfl Tryz.ntmps67 rfl (fun t x hx => (slotsOf_get hx).2) ?_
 intro F L w ρ0 R hR
 try dsimp only [slotsOf]
 refine sr (lr2 rfl (nn (WC.seq (sr (lr3 rfl (nn ?_))))))
 refine WC.cond rfl (fun hc1 => ?_) (fun hc1 => ?_)
 ·replace h := ite_t hc1 h
  refine sr (lr1 rfl (nr (WQ.thenRet ?_)))
  cases h
  exact WQ.rets tbOk (r := .v (.sl 5 ([].map eApiCodeEntry))) hR [] (.inl rfl) rfl rfl (Le.nil 5) (by exact trivial) rfl rfl rfl rfl
 ·replace h := ite_f hc1 h
  refine kn (sr (lr3 rfl (nr ?_)))
  cases h
  exact rt tbOk hR
theorem basis_con {wg : World} (hw : WG wg) {b : ApiNomenclature} {day : Int} {g : ApiGood} {parent : Str} {r : Int × (List ApiCodeEntry)} (h : basis b day g parent = some r) : Con Tryz.prog wg gl 27 [.v (.agg [.sl 5 (b.Entries.map eApiCodeEntry), .sl 3 (b.Notes.map eApiCodeNote)]), .v (.int .i64 day), .v (.agg [.sl 1 (g.Words.map eStr), .sl 2 (g.Materials.map eApiMaterial), .sl 2 (g.Parts.map eApiComponent), .bool g.Incomplete]), .v (.str parent)] [] (.tup [.v (.int .i64 r.1), .v (.sl 5 (r.2.map eApiCodeEntry))]) [] := by
 unfold basis at h
 refine con_of_WC (S := slotsOf 0 _) Tryz.func27 rfl Tryz.ntmps27 rfl (fun t x hx => (slotsOf_get hx).2) ?_
 intro F L w ρ0 R hR
 try dsimp only [slotsOf]
 refine sr (lr4 rfl (nn (WC.seq (WC.order mixed ?_))))
 refine wr 6 rfl trivial ?_
 replace h := bnd h; obtain ⟨v, hvv, h⟩ := h
 refine WR.call0 fn41 rfl rfl rfl rfl (by exact trivial) rfl (nomBelow_con hw hvv) ?_
 refine wr 3 rfl trivial ?_
 refine WR.nil (by kernel_rfl) (WQ.thenNormal (sr (lr 8 rfl trivial (nn (WC.seq (sr (lr1 rfl ?_)))))))
 refine WL.q [] rfl rfl rfl (q_ev tbOk (.v (.int .i64 (6 : Int))) rfl (by exact trivial) (by rfl)) ?_
 refine lr1 rfl (nn ?_)
 refine WC.thenCut (X := Unit) (fun gG => ⟨[], []⟩) (fun gG => basis_j1  = some r) ?_ ?_
 ·refine WC.block ?_
  refine WC.rounds 7 ?_
  refine sr (lr1 rfl (nn (WC.seq ?_)))
  refine WC.cond (b := true) rfl (fun hc1 => ?_) (fun hc1 => by cases hc1)
  refine kn (sb (sr ?_))
  refine WL.q [] rfl rfl rfl (q_idx tbOk rfl (by exact trivial) (by decide) (by rfl)) ?_
  refine lr3 rfl (ns (lr3 rfl ?_))
  replace h := bnd h; obtain ⟨v2, hvv2, h⟩ := h
  refine WL.call0 fn62 rfl rfl rfl rfl (by exact trivial) rfl (byTerms_con hw hvv2) ?_
  refine lr1 rfl (ns (lr1 rfl ?_))
  refine WL.q [] rfl rfl rfl (q_ev tbOk (.v (.int .i64 (v2.length : Int))) rfl (by exact trivial) (by exact lenT)) ?_
  refine lr1 rfl (nn ?_)
  refine WC.cond rfl (fun hc2 => ?_) (fun hc2 => ?_)
  ·replace h := ite_t hc2 h
   refine sr (lr5 rfl (nr (rb (WQ.thenRet (rb ?_)))))
   cases h
   exact WQ.rets tbOk (r := .tup [.v (.int .i64 (1 : Int)), .v (.sl 5 (v2.map eApiCodeEntry))]) hR [] (.inl rfl) rfl rfl (Le.tup (.cons (Le.refl _) (.cons (Le.refl _) .nil))) (by exact trivial) rfl rfl rfl rfl
  ·replace h := ite_f hc2 h
   refine WC.skip (bn (WC.region (lr2 rfl (WL.nil ?_))))
   refine WQ.round ?_
   refine WC.sub (st' := ⟨[(32, .v (.int .i64 (1 : Int))), (31, .v (.int .i64 (6 : Int))), (30, .v (.sl 2 [[.int .i64 (1 : Int), .raw (.func (.func 62) #[] #[])], [.int .i64 (2 : Int), .raw (.func (.func 63) #[] #[])], [.int .i64 (3 : Int), .raw (.func (.func 64) #[] #[])], [.int .i64 (8 : Int), .raw (.func (.func 65) #[] #[])], [.int .i64 (7 : Int), .raw (.func (.func 66) #[] #[])], [.int .i64 (7 : Int), .raw (.func (.func 67) #[] #[])]])), (10, .p 10 0)], [(10, .blk 102 [.v (.sl 5 (b.Entries.map eApiCodeEntry)), .v (.sl 3 (b.Notes.map eApiCodeNote)), .v (.sl 1 (g.Words.map eStr)), .v (.sl 2 (g.Materials.map eApiMaterial)), .v (.sl 2 (g.Parts.map eApiComponent)), .v (.bool g.Incomplete), .v (.str parent), .v (.sl 5 (v.map eApiCodeEntry))])]⟩) [] sub ?_
   refine sr (lr1 rfl (nn (WC.seq ?_)))
   refine WC.cond (b := true) rfl (fun hc3 => ?_) (fun hc3 => by cases hc3)
   refine kn (sb (sr ?_))
   refine WL.q [] rfl rfl rfl (q_idx tbOk rfl (by exact trivial) (by decide) (by rfl)) ?_
   refine lr3 rfl (ns (lr3 rfl ?_))
   replace h := bnd h; obtain ⟨v3, hvv3, h⟩ := h
   refine WL.call0 fn63 rfl rfl rfl rfl (by exact trivial) rfl (asComplete_con hw hvv3) ?_
   refine lr1 rfl (ns (lr1 rfl ?_))
   refine WL.q [] rfl rfl rfl (q_ev tbOk (.v (.int .i64 (v3.length : Int))) rfl (by exact trivial) (by exact lenT)) ?_
   refine lr1 rfl (nn ?_)
   refine WC.cond rfl (fun hc4 => ?_) (fun hc4 => ?_)
   ·replace h := ite_t hc4 h
    refine sr (lr5 rfl (nr (rb (WQ.thenRet (rb ?_)))))
    cases h
    exact WQ.rets tbOk (r := .tup [.v (.int .i64 (2 : Int)), .v (.sl 5 (v3.map eApiCodeEntry))]) hR [] (.inl rfl) rfl rfl (Le.tup (.cons (Le.refl _) (.cons (Le.refl _) .nil))) (by exact trivial) rfl rfl rfl rfl
   ·replace h := ite_f hc4 h
    refine WC.skip (bn (WC.region (lr2 rfl (WL.nil ?_))))
    refine WQ.round ?_
    refine WC.sub (st' := ⟨[(32, .v (.int .i64 (2 : Int))), (31, .v (.int .i64 (6 : Int))), (30, .v (.sl 2 [[.int .i64 (1 : Int), .raw (.func (.func 62) #[] #[])], [.int .i64 (2 : Int), .raw (.func (.func 63) #[] #[])], [.int .i64 (3 : Int), .raw (.func (.func 64) #[] #[])], [.int .i64 (8 : Int), .raw (.func (.func 65) #[] #[])], [.int .i64 (7 : Int), .raw (.func (.func 66) #[] #[])], [.int .i64 (7 : Int), .raw (.func (.func 67) #[] #[])]])), (10, .p 10 0)], [(10, .blk 102 [.v (.sl 5 (b.Entries.map eApiCodeEntry)), .v (.sl 3 (b.Notes.map eApiCodeNote)), .v (.sl 1 (g.Words.map eStr)), .v (.sl 2 (g.Materials.map eApiMaterial)), .v (.sl 2 (g.Parts.map eApiComponent)), .v (.bool g.Incomplete), .v (.str parent), .v (.sl 5 (v.map eApiCodeEntry))])]⟩) [] sub ?_
    refine sr (lr1 rfl (nn (WC.seq ?_)))
    refine WC.cond (b := true) rfl (fun hc5 => ?_) (fun hc5 => by cases hc5)
    refine kn (sb (sr ?_))
    refine WL.q [] rfl rfl rfl (q_idx tbOk rfl (by exact trivial) (by decide) (by rfl)) ?_
    refine lr3 rfl (ns (lr3 rfl ?_))
    replace h := bnd h; obtain ⟨v4, hvv4, h⟩ := h
    refine WL.call0 fn64 rfl rfl rfl rfl (by exact trivial) rfl (byCharacter_con hw hvv4) ?_
    refine lr1 rfl (ns (lr1 rfl ?_))
    refine WL.q [] rfl rfl rfl (q_ev tbOk (.v (.int .i64 (v4.length : Int))) rfl (by exact trivial) (by exact lenT)) ?_
    refine lr1 rfl (nn ?_)
    refine WC.cond rfl (fun hc6 => ?_) (fun hc6 => ?_)
    ·replace h := ite_t hc6 h
     refine sr (lr5 rfl (nr (rb (WQ.thenRet (rb ?_)))))
     cases h
     exact WQ.rets tbOk (r := .tup [.v (.int .i64 (3 : Int)), .v (.sl 5 (v4.map eApiCodeEntry))]) hR [] (.inl rfl) rfl rfl (Le.tup (.cons (Le.refl _) (.cons (Le.refl _) .nil))) (by exact trivial) rfl rfl rfl rfl
    ·replace h := ite_f hc6 h
     refine WC.skip (bn (WC.region (lr2 rfl (WL.nil ?_))))
     refine WQ.round ?_
     refine WC.sub (st' := ⟨[(32, .v (.int .i64 (3 : Int))), (31, .v (.int .i64 (6 : Int))), (30, .v (.sl 2 [[.int .i64 (1 : Int), .raw (.func (.func 62) #[] #[])], [.int .i64 (2 : Int), .raw (.func (.func 63) #[] #[])], [.int .i64 (3 : Int), .raw (.func (.func 64) #[] #[])], [.int .i64 (8 : Int), .raw (.func (.func 65) #[] #[])], [.int .i64 (7 : Int), .raw (.func (.func 66) #[] #[])], [.int .i64 (7 : Int), .raw (.func (.func 67) #[] #[])]])), (10, .p 10 0)], [(10, .blk 102 [.v (.sl 5 (b.Entries.map eApiCodeEntry)), .v (.sl 3 (b.Notes.map eApiCodeNote)), .v (.sl 1 (g.Words.map eStr)), .v (.sl 2 (g.Materials.map eApiMaterial)), .v (.sl 2 (g.Parts.map eApiComponent)), .v (.bool g.Incomplete), .v (.str parent), .v (.sl 5 (v.map eApiCodeEntry))])]⟩) [] sub ?_
     refine sr (lr1 rfl (nn (WC.seq ?_)))
     refine WC.cond (b := true) rfl (fun hc7 => ?_) (fun hc7 => by cases hc7)
     refine kn (sb (sr ?_))
     refine WL.q [] rfl rfl rfl (q_idx tbOk rfl (by exact trivial) (by decide) (by rfl)) ?_
     refine lr3 rfl (ns (lr3 rfl ?_))
     replace h := bnd h; obtain ⟨v5, hvv5, h⟩ := h
     refine WL.call0 fn65 rfl rfl rfl rfl (by exact trivial) rfl (residual_con hw hvv5) ?_
     refine lr1 rfl (ns (lr1 rfl ?_))
     refine WL.q [] rfl rfl rfl (q_ev tbOk (.v (.int .i64 (v5.length : Int))) rfl (by exact trivial) (by exact lenT)) ?_
     refine lr1 rfl (nn ?_)
     refine WC.cond rfl (fun hc8 => ?_) (fun hc8 => ?_)
     ·replace h := ite_t hc8 h
      refine sr (lr5 rfl (nr (rb (WQ.thenRet (rb ?_)))))
      cases h
      exact WQ.rets tbOk (r := .tup [.v (.int .i64 (8 : Int)), .v (.sl 5 (v5.map eApiCodeEntry))]) hR [] (.inl rfl) rfl rfl (Le.tup (.cons (Le.refl _) (.cons (Le.refl _) .nil))) (by exact trivial) rfl rfl rfl rfl
     ·replace h := ite_f hc8 h
      refine WC.skip (bn (WC.region (lr2 rfl (WL.nil ?_))))
      refine WQ.round ?_
      refine WC.sub (st' := ⟨[(32, .v (.int .i64 (4 : Int))), (31, .v (.int .i64 (6 : Int))), (30, .v (.sl 2 [[.int .i64 (1 : Int), .raw (.func (.func 62) #[] #[])], [.int .i64 (2 : Int), .raw (.func (.func 63) #[] #[])], [.int .i64 (3 : Int), .raw (.func (.func 64) #[] #[])], [.int .i64 (8 : Int), .raw (.func (.func 65) #[] #[])], [.int .i64 (7 : Int), .raw (.func (.func 66) #[] #[])], [.int .i64 (7 : Int), .raw (.func (.func 67) #[] #[])]])), (10, .p 10 0)], [(10, .blk 102 [.v (.sl 5 (b.Entries.map eApiCodeEntry)), .v (.sl 3 (b.Notes.map eApiCodeNote)), .v (.sl 1 (g.Words.map eStr)), .v (.sl 2 (g.Materials.map eApiMaterial)), .v (.sl 2 (g.Parts.map eApiComponent)), .v (.bool g.Incomplete), .v (.str parent), .v (.sl 5 (v.map eApiCodeEntry))])]⟩) [] sub ?_
      refine sr (lr1 rfl (nn (WC.seq ?_)))
      refine WC.cond (b := true) rfl (fun hc9 => ?_) (fun hc9 => by cases hc9)
      refine kn (sb (sr ?_))
      refine WL.q [] rfl rfl rfl (q_idx tbOk rfl (by exact trivial) (by decide) (by rfl)) ?_
      refine lr3 rfl (ns (lr3 rfl ?_))
      replace h := bnd h; obtain ⟨v6, hvv6, h⟩ := h
      refine WL.call0 fn66 rfl rfl rfl rfl (by exact trivial) rfl (akin_con hw hvv6) ?_
      refine lr1 rfl (ns (lr1 rfl ?_))
      refine WL.q [] rfl rfl rfl (q_ev tbOk (.v (.int .i64 (v6.length : Int))) rfl (by exact trivial) (by exact lenT)) ?_
      refine lr1 rfl (nn ?_)
      refine WC.cond rfl (fun hc10 => ?_) (fun hc10 => ?_)
      ·replace h := ite_t hc10 h
       refine sr (lr5 rfl (nr (rb (WQ.thenRet (rb ?_)))))
       cases h
       exact WQ.rets tbOk (r := .tup [.v (.int .i64 (7 : Int)), .v (.sl 5 (v6.map eApiCodeEntry))]) hR [] (.inl rfl) rfl rfl (Le.tup (.cons (Le.refl _) (.cons (Le.refl _) .nil))) (by exact trivial) rfl rfl rfl rfl
      ·replace h := ite_f hc10 h
       refine WC.skip (bn (WC.region (lr2 rfl (WL.nil ?_))))
       refine WQ.round ?_
       refine WC.sub (st' := ⟨[(32, .v (.int .i64 (5 : Int))), (31, .v (.int .i64 (6 : Int))), (30, .v (.sl 2 [[.int .i64 (1 : Int), .raw (.func (.func 62) #[] #[])], [.int .i64 (2 : Int), .raw (.func (.func 63) #[] #[])], [.int .i64 (3 : Int), .raw (.func (.func 64) #[] #[])], [.int .i64 (8 : Int), .raw (.func (.func 65) #[] #[])], [.int .i64 (7 : Int), .raw (.func (.func 66) #[] #[])], [.int .i64 (7 : Int), .raw (.func (.func 67) #[] #[])]])), (10, .p 10 0)], [(10, .blk 102 [.v (.sl 5 (b.Entries.map eApiCodeEntry)), .v (.sl 3 (b.Notes.map eApiCodeNote)), .v (.sl 1 (g.Words.map eStr)), .v (.sl 2 (g.Materials.map eApiMaterial)), .v (.sl 2 (g.Parts.map eApiComponent)), .v (.bool g.Incomplete), .v (.str parent), .v (.sl 5 (v.map eApiCodeEntry))])]⟩) [] sub ?_
       refine sr (lr1 rfl (nn (WC.seq ?_)))
       refine WC.cond (b := true) rfl (fun hc11 => ?_) (fun hc11 => by cases hc11)
       refine kn (sb (sr ?_))
       refine WL.q [] rfl rfl rfl (q_idx tbOk rfl (by exact trivial) (by decide) (by rfl)) ?_
       refine lr3 rfl (ns (lr3 rfl ?_))
       replace h := bnd h; obtain ⟨v7, hvv7, h⟩ := h
       refine WL.call0 fn67 rfl rfl rfl rfl (by exact trivial) rfl (allBelow_con hw hvv7) ?_
       refine lr1 rfl (ns (lr1 rfl ?_))
       refine WL.q [] rfl rfl rfl (q_ev tbOk (.v (.int .i64 (v7.length : Int))) rfl (by exact trivial) (by exact lenT)) ?_
       refine lr1 rfl (nn ?_)
       refine WC.cond rfl (fun hc12 => ?_) (fun hc12 => ?_)
       ·replace h := ite_t hc12 h
        refine sr (lr5 rfl (nr (rb (WQ.thenRet (rb ?_)))))
        cases h
        exact WQ.rets tbOk (r := .tup [.v (.int .i64 (7 : Int)), .v (.sl 5 (v7.map eApiCodeEntry))]) hR [] (.inl rfl) rfl rfl (Le.tup (.cons (Le.refl _) (.cons (Le.refl _) .nil))) (by exact trivial) rfl rfl rfl rfl
       ·replace h := ite_f hc12 h
        refine WC.skip (bn (WC.region (lr2 rfl (WL.nil ?_))))
        refine WQ.round ?_
        refine WC.sub (st' := ⟨[(32, .v (.int .i64 (6 : Int))), (31, .v (.int .i64 (6 : Int))), (30, .v (.sl 2 [[.int .i64 (1 : Int), .raw (.func (.func 62) #[] #[])], [.int .i64 (2 : Int), .raw (.func (.func 63) #[] #[])], [.int .i64 (3 : Int), .raw (.func (.func 64) #[] #[])], [.int .i64 (8 : Int), .raw (.func (.func 65) #[] #[])], [.int .i64 (7 : Int), .raw (.func (.func 66) #[] #[])], [.int .i64 (7 : Int), .raw (.func (.func 67) #[] #[])]])), (10, .p 10 0)], [(10, .blk 102 [.v (.sl 5 (b.Entries.map eApiCodeEntry)), .v (.sl 3 (b.Notes.map eApiCodeNote)), .v (.sl 1 (g.Words.map eStr)), .v (.sl 2 (g.Materials.map eApiMaterial)), .v (.sl 2 (g.Parts.map eApiComponent)), .v (.bool g.Incomplete), .v (.str parent), .v (.sl 5 (v.map eApiCodeEntry))])]⟩) [] sub ?_
        refine sr (lr1 rfl (nn (WC.seq ?_)))
        refine WC.cond (b := false) rfl (fun hc13 => by cases hc13) (fun hc13 => ?_)
        refine WC.exit (WQ.thenExit (eb ?_))
        exact WQ.cut [] () sub h
 ·intro _ h
  replace h : basis_j1 = some _ := h
  unfold basis_j1 at h
  try dsimp only [slotsOf]
  refine sr (lr2 rfl (nr ?_))
  cases h
  exact WQ.rets tbOk (r := .tup [.v (.int .i64 (0 : Int)), .v (.sl 5 ([].map eApiCodeEntry))]) hR [] (.inl rfl) rfl rfl (Le.tup (.cons (Le.refl _) (.cons (Le.nil 5) .nil))) (by exact trivial) rfl rfl rfl rfl
theorem specificIn_con {wg : World} (hw : WG wg) {e1 : ApiCodeEntry} {a1 : ApiNomenclature} {a2 : (List Str)} {a3 : Int} {r : Bool} (h : specificIn e1 a1 a2 a3 = some r) : Con Tryz.prog wg gl 125 [.v (.agg [.str e1.Code, .int .i64 e1.From, .int .i64 e1.To, .sl 1 (e1.Terms.map eLStr), .bool e1.Other]), .p 1 0, .p 2 0, .p 3 0] [(1, .blk 28 [.v (.sl 5 (a1.Entries.map eApiCodeEntry)), .v (.sl 3 (a1.Notes.map eApiCodeNote))]), (2, .blk 31 [.v (.sl 1 (a2.map eStr))]), (3, .blk 3 [.v (.int .i64 a3)])] (.v (.bool r)) [(1, .blk 28 [.v (.sl 5 (a1.Entries.map eApiCodeEntry)), .v (.sl 3 (a1.Notes.map eApiCodeNote))]), (2, .blk 31 [.v (.sl 1 (a2.map eStr))]), (3, .blk 3 [.v (.int .i64 a3)])] := by
 unfold specificIn at h
 refine con_of_WC (S := slotsOf 0 _) Tryz.func125 rfl Tryz.ntmps125 rfl (fun t x hx => (slotsOf_get hx).2) ?_
 intro F L w ρ0 R hR
 try dsimp only [slotsOf]
 refine sr (lr2 rfl (nn (WC.seq (WC.order mixed ?_))))
 refine wr 3 rfl trivial ?_
 replace h := bnd h; obtain ⟨v, hvv, h⟩ := h
 refine WR.call0 fn34 rfl rfl rfl rfl (by exact trivial) rfl (nomScore_con hw hvv) ?_
 refine wr 3 rfl trivial ?_
 refine WR.nil (by kernel_rfl) (WQ.thenNormal (WC.ret ?_))
 cases h
 exact rt tbOk hR
theorem keepSpecific_con {wg : World} (hw : WG wg) {l : (List ApiCodeEntry)} {test0 : ApiNomenclature} {test1 : (List Str)} {test2 : Int} {r : (List ApiCodeEntry)} (h : keepSpecific l test0 test1 test2 = some r) : Con Tryz.prog wg gl 111 [.v (.sl 5 (l.map eApiCodeEntry)), .fn 125 [.p 810 0, .p 811 0, .p 812 0]] [(810, .blk 28 [.v (.sl 5 (test0.Entries.map eApiCodeEntry)), .v (.sl 3 (test0.Notes.map eApiCodeNote))]), (811, .blk 31 [.v (.sl 1 (test1.map eStr))]), (812, .blk 3 [.v (.int .i64 test2)])] (.v (.sl 5 (r.map eApiCodeEntry))) [(810, .blk 28 [.v (.sl 5 (test0.Entries.map eApiCodeEntry)), .v (.sl 3 (test0.Notes.map eApiCodeNote))]), (811, .blk 31 [.v (.sl 1 (test1.map eStr))]), (812, .blk 3 [.v (.int .i64 test2)])] := by
 unfold keepSpecific at h
 refine con_of_WC (S := slotsOf 0 _) Tryz.func111 rfl Tryz.ntmps111 rfl (fun t x hx => (slotsOf_get hx).2) ?_
 intro F L w ρ0 R hR
 try dsimp only [slotsOf]
 refine sr (lr1 rfl (ns (lr1 rfl (nn (WC.seq (sr (lr1 rfl ?_)))))))
 refine WL.q [] rfl rfl rfl (q_ev tbOk (.v (.int .i64 (l.length : Int))) rfl (by exact trivial) (by exact lenT)) ?_
 refine lr1 rfl (nn ?_)
 refine WC.thenCut (X := (List ApiCodeEntry)) (fun gG => ⟨[(5, .r 1005)], [(1005, .row 54 5 (gG.map eApiCodeEntry)), (810, .blk 28 [.v (.sl 5 (test0.Entries.map eApiCodeEntry)), .v (.sl 3 (test0.Notes.map eApiCodeNote))]), (811, .blk 31 [.v (.sl 1 (test1.map eStr))]), (812, .blk 3 [.v (.int .i64 test2)])]⟩) (fun gG => keepSpecific_j1 test0 test1 test2 gG = some r) ?_ ?_
 ·refine WC.block ?_
  obtain ⟨eQ1, hl1, hk1⟩ := bnd h
  clear h
  refine WC.rowNil 5 1005 54 5 rfl rfl ?_
  refine WC.loop (σ := Int × (List ApiCodeEntry)) (τ := ((List ApiCodeEntry))) (fun sS => ⟨[(10, .v (.int .i64 sS.1)), (9, .v (.int .i64 (l.length : Int))), (8, .v (.sl 5 (l.map eApiCodeEntry))), (5, .r 1005), (1, .fn 125 [.p 810 0, .p 811 0, .p 812 0])], [(1005, .row 54 5 (sS.2.map eApiCodeEntry)), (810, .blk 28 [.v (.sl 5 (test0.Entries.map eApiCodeEntry)), .v (.sl 3 (test0.Notes.map eApiCodeNote))]), (811, .blk 31 [.v (.sl 1 (test1.map eStr))]), (812, .blk 3 [.v (.int .i64 test2)])]⟩) (keepSpecific_b1 l test0 test1 test2) [] ((0 : Int), []) hl1 sub ?_
  rintro ⟨t102, kept3⟩ m hn1 he1 hx1
  obtain ⟨o1, hf1⟩ := some_of hx1
  have h := hf1
  unfold keepSpecific_b1 at h
  try dsimp only [slotsOf]
  refine sr (lr1 rfl (nn (WC.seq ?_)))
  refine WC.cond rfl (fun hc1 => ?_) (fun hc1 => ?_)
  ·replace h := ite_t hc1 h
   refine kn (WC.seq ?_)
   refine WC.thenCut (X := (List ApiCodeEntry)) (fun gG => ⟨[(5, .r 1005), (10, .v (.int .i64 t102)), (9, .v (.int .i64 (l.length : Int))), (8, .v (.sl 5 (l.map eApiCodeEntry))), (1, .fn 125 [.p 810 0, .p 811 0, .p 812 0])], [(1005, .row 54 5 (gG.map eApiCodeEntry)), (810, .blk 28 [.v (.sl 5 (test0.Entries.map eApiCodeEntry)), .v (.sl 3 (test0.Notes.map eApiCodeNote))]), (811, .blk 31 [.v (.sl 1 (test1.map eStr))]), (812, .blk 3 [.v (.int .i64 test2)])]⟩) (fun gG => keepSpecific_j2 l test0 test1 test2 t102 gG = some o1) ?_ ?_
   ·refine WC.block (sr ?_)
    obtain ⟨g1, h⟩ := grd h
    replace h := bnd h; obtain ⟨x3, hxx3, h⟩ := h
    refine WL.q [] rfl rfl rfl (q_idx tbOk rfl (by exact trivial) g1 (map_get (f := eApiCodeEntry) hxx3)) ?_
    refine lr3 rfl (ns (lr2 rfl ?_))
    replace h := bnd h; obtain ⟨v3, hvv3, h⟩ := h
    refine WL.callO [(1, 810), (2, 811), (3, 812)] [(1, 810), (2, 811), (3, 812)] [810, 811, 812] fn125 rfl rfl rfl rfl (by exact trivial) (specificIn_con hw hvv3) rfl rfl (by exact eqs) rfl rfl rfl rfl rfl rfl ?_
    refine nn ?_
    refine WC.cond rfl (fun hc2 => ?_) (fun hc2 => ?_)
    ·replace h := ite_t hc2 h
     refine WC.region (lr3 rfl ?_)
     obtain ⟨g2, h⟩ := grd h
     refine WL.append tbOk ((kept3 ++ [x3]).map eApiCodeEntry) [20, 1005] ap25 rfl rfl rfl rfl (fun _ e => by cases e; rfl) (by exact trivial) (map_cells (f := eApiCodeEntry) (xs := [x3]) fun _ => rfl) (by have := g2; simp only [List.length_map, List.length_nil, List.length_cons] at this ⊢; omega) rfl rfl (by simp only [List.map_append]; try rfl) rfl ?_
     refine lr1 rfl (WL.nil (WQ.blockNormal ?_))
     exact WQ.cut [(1005, 20)] (kept3 ++ [x3]) sub h
    ·replace h := ite_f hc2 h
     refine WC.skip (WQ.blockNormal ?_)
     exact WQ.cut [] kept3 sub h
   ·intro kept6 h
    replace h : keepSpecific_j2 l test0 test1 test2 t102 kept6 = some _ := h
    unfold keepSpecific_j2 at h
    try dsimp only [slotsOf]
    refine WC.region (lr2 rfl (WL.nil ?_))
    cases h
    exact WQ.next [] ((IntKind.i64.wrap (t102 + (1 : Int))), kept6) sub (hn1 _ hf1)
  ·replace h := ite_f hc1 h
   refine WC.exit (WQ.thenExit ?_)
   cases h
   have he := he1 _ hf1
   subst he
   replace h := hk1
   try dsimp only at h
   refine eb ?_
   exact WQ.cut [] kept3 sub h
 ·intro kept h
  replace h : keepSpecific_j1 test0 test1 test2 kept = some _ := h
  unfold keepSpecific_j1 at h
  try dsimp only [slotsOf]
  refine sr (lr2 rfl (nr ?_))
  refine WQ.publish 1005 rfl rfl ?_
  cases h
  exact rt tbOk hR
theorem mostSpecific_con {wg : World} (hw : WG wg) {b : ApiNomenclature} {l : (List ApiCodeEntry)} {words : (List Str)} {r : (List ApiCodeEntry)} (h : mostSpecific b l words = some r) : Con Tryz.prog wg gl 72 [.v (.agg [.sl 5 (b.Entries.map eApiCodeEntry), .sl 3 (b.Notes.map eApiCodeNote)]), .v (.sl 5 (l.map eApiCodeEntry)), .v (.sl 1 (words.map eStr))] [] (.v (.sl 5 (r.map eApiCodeEntry))) [] := by
 unfold mostSpecific at h
 refine con_of_WC (S := slotsOf 0 _) Tryz.func72 rfl Tryz.ntmps72 rfl (fun t x hx => (slotsOf_get hx).2) ?_
 intro F L w ρ0 R hR
 try dsimp only [slotsOf]
 refine sr (lr3 rfl (ns (lr2 rfl (nn (WC.seq (sr (lr1 rfl ?_)))))))
 refine WL.q [] rfl rfl rfl (q_ev tbOk (.v (.int .i64 (l.length : Int))) rfl (by exact trivial) (by exact lenT)) ?_
 refine lr1 rfl (nn ?_)
 refine WC.thenCut (X := Int) (fun gG => ⟨[(7, .p 7 0), (5, .p 5 0), (3, .p 3 0), (1, .v (.sl 5 (l.map eApiCodeEntry)))], [(3, .blk 28 [.v (.sl 5 (b.Entries.map eApiCodeEntry)), .v (.sl 3 (b.Notes.map eApiCodeNote))]), (5, .blk 31 [.v (.sl 1 (words.map eStr))]), (7, .blk 3 [.v (.int .i64 gG)])]⟩) (fun gG => mostSpecific_j1 b l words gG = some r) ?_ ?_
 ·refine WC.block ?_
  obtain ⟨eQ1, hl1, hk1⟩ := bnd h
  clear h
  refine WC.loop (σ := Int × Int) (τ := (Int)) (fun sS => ⟨[(12, .v (.int .i64 sS.1)), (11, .v (.int .i64 (l.length : Int))), (10, .v (.sl 5 (l.map eApiCodeEntry))), (7, .p 7 0), (5, .p 5 0), (3, .p 3 0), (1, .v (.sl 5 (l.map eApiCodeEntry)))], [(3, .blk 28 [.v (.sl 5 (b.Entries.map eApiCodeEntry)), .v (.sl 3 (b.Notes.map eApiCodeNote))]), (5, .blk 31 [.v (.sl 1 (words.map eStr))]), (7, .blk 3 [.v (.int .i64 sS.2)])]⟩) (mostSpecific_b1 b l words) [] ((0 : Int), (0 : Int)) hl1 sub ?_
  rintro ⟨t12, c7_02⟩ m hn1 he1 hx1
  obtain ⟨o1, hf1⟩ := some_of hx1
  have h := hf1
  unfold mostSpecific_b1 at h
  try dsimp only [slotsOf]
  refine sr (lr1 rfl (nn (WC.seq ?_)))
  refine WC.cond rfl (fun hc1 => ?_) (fun hc1 => ?_)
  ·replace h := ite_t hc1 h
   refine kn (sb (sr ?_))
   obtain ⟨g1, h⟩ := grd h
   replace h := bnd h; obtain ⟨x2, hxx2, h⟩ := h
   refine WL.q [] rfl rfl rfl (q_idx tbOk rfl (by exact trivial) g1 (map_get (f := eApiCodeEntry) hxx2)) ?_
   refine lr3 rfl (nn (WC.order mixed ?_))
   refine wr 4 rfl trivial ?_
   replace h := bnd h; obtain ⟨v3, hvv3, h⟩ := h
   refine WR.call0 fn34 rfl rfl rfl rfl (by exact trivial) rfl (nomScore_con hw hvv3) ?_
   refine wr 2 rfl trivial ?_
   refine WR.nil (by kernel_rfl) (bn (WC.region (lr2 rfl (WL.nil ?_))))
   cases h
   exact WQ.next [] ((IntKind.i64.wrap (t12 + (1 : Int))), (if v3 > c7_02 then v3 else c7_02)) sub (hn1 _ hf1)
  ·replace h := ite_f hc1 h
   refine WC.exit (WQ.thenExit ?_)
   cases h
   have he := he1 _ hf1
   subst he
   replace h := hk1
   try dsimp only at h
   refine eb ?_
   exact WQ.cut [] c7_02 sub h
 ·intro c7_0 h
  replace h : mostSpecific_j1 b l words c7_0 = some _ := h
  unfold mostSpecific_j1 at h
  try dsimp only [slotsOf]
  refine sr (lr2 rfl ?_)
  replace h := bnd h; obtain ⟨v, hvv, h⟩ := h
  refine WL.callO [(810, 3), (811, 5), (812, 7)] [(810, 3), (811, 5), (812, 7)] [3, 5, 7] fn111 rfl rfl rfl rfl (by exact trivial) (keepSpecific_con hw hvv) rfl rfl (by exact eqs) rfl rfl rfl rfl rfl rfl ?_
  refine lr1 rfl (nr ?_)
  cases h
  exact rt tbOk hR
theorem cloneEntry_con {wg : World} (hw : WG wg) {e1 : ApiCodeEntry} {r : ApiCodeEntry} (h : cloneEntry e1 = some r) : Con Tryz.prog wg gl 70 [.v (.agg [.str e1.Code, .int .i64 e1.From, .int .i64 e1.To, .sl 1 (e1.Terms.map eLStr), .bool e1.Other])] [] (.v (.agg [.str r.Code, .int .i64 r.From, .int .i64 r.To, .sl 1 (r.Terms.map eLStr), .bool r.Other])) [] := by
 unfold cloneEntry at h
 refine con_of_WC (S := slotsOf 0 _) Tryz.func70 rfl Tryz.ntmps70 rfl (fun t x hx => (slotsOf_get hx).2) ?_
 intro F L w ρ0 R hR
 try dsimp only [slotsOf]
 refine sr (lr2 rfl (ns (lr3 rfl (ns (lr2 rfl (nn (WC.seq (sr (lr1 rfl ?_)))))))))
 refine WL.q [] rfl rfl rfl (q_ev tbOk (.v (.int .i64 (e1.Terms.length : Int))) rfl (by exact trivial) (by exact lenT)) ?_
 refine lr1 rfl (nn ?_)
 refine WC.thenCut (X := (List (List Str))) (fun gG => ⟨[(2, .p 2 0), (1, .p 1 0)], [(2053, .row 31 1 (gG.map eLStr)), (1, .blk 54 [.v (.str e1.Code), .v (.int .i64 e1.From), .v (.int .i64 e1.To), .r 2053, .v (.bool e1.Other)]), (2, .blk 54 [.v (.str []), .v (.int .i64 0), .v (.int .i64 0), .v (.raw (.slice none 0 0)), .v (.bool false)])]⟩) (fun gG => cloneEntry_j1 e1 gG = some r) ?_ ?_
 ·refine WC.block ?_
  obtain ⟨eQ1, hl1, hk1⟩ := bnd h
  clear h
  refine WC.rowNilB 1 3 2053 31 1 rfl rfl rfl (cs2 := [.v (.str e1.Code), .v (.int .i64 e1.From), .v (.int .i64 e1.To), .r 2053, .v (.bool e1.Other)]) rfl ?_
  refine WC.loop (σ := Int × (List (List Str))) (τ := ((List (List Str)))) (fun sS => ⟨[(11, .v (.int .i64 sS.1)), (10, .v (.int .i64 (e1.Terms.length : Int))), (9, .v (.sl 1 (e1.Terms.map eLStr))), (2, .p 2 0), (1, .p 1 0)], [(2053, .row 31 1 (sS.2.map eLStr)), (1, .blk 54 [.v (.str e1.Code), .v (.int .i64 e1.From), .v (.int .i64 e1.To), .r 2053, .v (.bool e1.Other)]), (2, .blk 54 [.v (.str []), .v (.int .i64 0), .v (.int .i64 0), .v (.raw (.slice none 0 0)), .v (.bool false)])]⟩) (cloneEntry_b1 e1) [] ((0 : Int), []) hl1 sub ?_
  rintro ⟨t112, c1_32⟩ m hn1 he1 hx1
  obtain ⟨o1, hf1⟩ := some_of hx1
  have h := hf1
  unfold cloneEntry_b1 at h
  try dsimp only [slotsOf]
  refine sr (lr1 rfl (nn (WC.seq ?_)))
  refine WC.cond rfl (fun hc1 => ?_) (fun hc1 => ?_)
  ·replace h := ite_t hc1 h
   refine kn (sb (sr ?_))
   obtain ⟨g1, h⟩ := grd h
   replace h := bnd h; obtain ⟨x3, hxx3, h⟩ := h
   refine WL.q [] rfl rfl rfl (q_idx tbOk rfl (by exact trivial) g1 (map_get (f := eLStr) hxx3)) ?_
   refine lr2 rfl (nn (WC.order mixed ?_))
   refine wr 3 rfl trivial ?_
   replace h := bnd h; obtain ⟨v3, hvv3, h⟩ := h
   refine WR.call0 fn77 rfl rfl rfl rfl (by exact trivial) rfl (cloneS_con hw hvv3) ?_
   refine wr 1 rfl trivial ?_
   obtain ⟨g2, h⟩ := grd h
   refine WR.append tbOk ((c1_32 ++ [v3]).map eLStr) [20, 2053] ap52 rfl rfl rfl rfl (fun _ e => by cases e; rfl) (by exact trivial) (map_cells (f := eLStr) (xs := [v3]) fun _ => rfl) (by have := g2; simp only [List.length_map, List.length_nil, List.length_cons] at this ⊢; omega) rfl rfl (by simp only [List.map_append]; try rfl) rfl rfl ?_
   refine wr 2 rfl trivial ?_
   refine WR.nil (by kernel_rfl) (bn (WC.region (lr2 rfl (WL.nil ?_))))
   cases h
   exact WQ.next [(2053, 20)] ((IntKind.i64.wrap (t112 + (1 : Int))), (c1_32 ++ [v3])) sub (hn1 _ hf1)
  ·replace h := ite_f hc1 h
   refine WC.exit (WQ.thenExit ?_)
   cases h
   have he := he1 _ hf1
   subst he
   replace h := hk1
   try dsimp only at h
   refine eb ?_
   exact WQ.cut [] c1_32 sub h
 ·intro c1_3 h
  replace h : cloneEntry_j1 e1 c1_3 = some _ := h
  unfold cloneEntry_j1 at h
  try dsimp only [slotsOf]
  refine WC.seq ?_
  refine WC.publish 2053 rfl rfl ?_
  refine WC.region (lr2 rfl (nr ?_))
  cases h
  exact rt tbOk hR
theorem reduce_con {wg : World} (hw : WG wg) {b : ApiNomenclature} {g : ApiGood} {basis : Int} {c : (List ApiCodeEntry)} {r : Int × ApiCodeEntry} (h : reduce b g basis c = some r) : Con Tryz.prog wg gl 30 [.v (.agg [.sl 5 (b.Entries.map eApiCodeEntry), .sl 3 (b.Notes.map eApiCodeNote)]), .v (.agg [.sl 1 (g.Words.map eStr), .sl 2 (g.Materials.map eApiMaterial), .sl 2 (g.Parts.map eApiComponent), .bool g.Incomplete]), .v (.int .i64 basis), .v (.sl 5 (c.map eApiCodeEntry))] [] (.tup [.v (.int .i64 r.1), .v (.agg [.str r.2.Code, .int .i64 r.2.From, .int .i64 r.2.To, .sl 1 (r.2.Terms.map eLStr), .bool r.2.Other])]) [] := by
 unfold reduce at h
 refine con_of_WC (S := slotsOf 0 _) Tryz.func30 rfl Tryz.ntmps30 rfl (fun t x hx => (slotsOf_get hx).2) ?_
 intro F L w ρ0 R hR
 try dsimp only [slotsOf]
 refine sr (lr4 rfl (nn (WC.seq (sr (lr1 rfl ?_)))))
 refine WL.q [] rfl rfl rfl (q_ev tbOk (.v (.int .i64 (c.length : Int))) rfl (by exact trivial) (by exact lenT)) ?_
 refine lr1 rfl (nn ?_)
 refine WC.cond rfl (fun hc1 => ?_) (fun hc1 => ?_)
 ·replace h := ite_t hc1 h
  refine sr (lr3 rfl (nr (WQ.thenRet ?_)))
  cases h
  exact WQ.rets tbOk (r := .tup [.v (.int .i64 (0 : Int)), .v (.agg [.str ((⟨[], 0, 0, [], false⟩ : ApiCodeEntry).Code), .int .i64 ((⟨[], 0, 0, [], false⟩ : ApiCodeEntry).From), .int .i64 ((⟨[], 0, 0, [], false⟩ : ApiCodeEntry).To), .sl 1 (((⟨[], 0, 0, [], false⟩ : ApiCodeEntry).Terms).map eLStr), .bool ((⟨[], 0, 0, [], false⟩ : ApiCodeEntry).Other)])]) hR [] (.inl rfl) rfl rfl (Le.tup (.cons (Le.refl _) (.cons (Le.agg (.same (.same (.same (.sl 1 (.same .nil)))))) .nil))) (by exact trivial) rfl rfl rfl rfl
 ·replace h := ite_f hc1 h
  refine kn (WC.seq (sr (lr1 rfl ?_)))
  refine WL.q [] rfl rfl rfl (q_ev tbOk (.v (.int .i64 (c.length : Int))) rfl (by exact trivial) (by exact lenT)) ?_
  refine lr 9 rfl (by exact sideR) ?_
  refine nn ?_
  refine WC.cond rfl (fun hc2 => ?_) (fun hc2 => ?_)
  ·replace h := ite_t hc2 h
   refine sr (lr3 rfl ?_)
   refine WL.q [] rfl rfl rfl (q_ev tbOk (.v (.int .i64 (c.length : Int))) rfl (by exact trivial) (by exact lenT)) ?_
   refine lr1 rfl ?_
   obtain ⟨g1, h⟩ := grd h
   replace h := bnd h; obtain ⟨x, hxx, h⟩ := h
   refine WL.q [] rfl rfl rfl (q_idx tbOk rfl (by exact trivial) g1 (map_get (f := eApiCodeEntry) hxx)) ?_
   refine lr1 rfl ?_
   replace h := bnd h; obtain ⟨v, hvv, h⟩ := h
   refine WL.call0 fn70 rfl rfl rfl rfl (by exact trivial) rfl (cloneEntry_con hw hvv) ?_
   refine lr2 rfl (nr (WQ.thenRet ?_))
   cases h
   exact WQ.rets tbOk (r := .tup [.v (.int .i64 basis), .v (.agg [.str v.Code, .int .i64 v.From, .int .i64 v.To, .sl 1 (v.Terms.map eLStr), .bool v.Other])]) hR [] (.inl rfl) rfl rfl (Le.tup (.cons (Le.refl _) (.cons (Le.refl _) .nil))) (by exact trivial) rfl rfl rfl rfl
  ·replace h := ite_f hc2 h
   refine kn (WC.seq (sr ?_))
   refine lr 6 rfl (by exact sideR) ?_
   refine nn ?_
   refine WC.thenCut (X := (List ApiCodeEntry)) (fun gG => ⟨[(3, .v (.sl 5 (gG.map eApiCodeEntry))), (9, .p 9 0), (5, .p 5 0), (4, .p 4 0)], [(9, .blk 54 [.v (.str []), .v (.int .i64 0), .v (.int .i64 0), .v (.raw (.slice none 0 0)), .v (.bool false)]), (4, .blk 28 [.v (.sl 5 (b.Entries.map eApiCodeEntry)), .v (.sl 3 (b.Notes.map eApiCodeNote))]), (5, .blk 43 [.v (.sl 1 (g.Words.map eStr)), .v (.sl 2 (g.Materials.map eApiMaterial)), .v (.sl 2 (g.Parts.map eApiComponent)), .v (.bool g.Incomplete)])]⟩) (fun gG => reduce_j1 b g gG = some r) ?_ ?_
   ·refine WC.cond rfl (fun hc6 => ?_) (fun hc6 => ?_)
    ·replace h := ite_t hc6 h
     refine sr (lr3 rfl (nn (WC.seq (sr ?_))))
     refine lr 6 rfl (by exact sideR) ?_
     refine nn ?_
     refine WC.thenCut (X := (List Str)) (fun gG => ⟨[(10, .v (.sl 1 (gG.map eStr))), (9, .p 9 0), (5, .p 5 0), (4, .p 4 0), (3, .v (.sl 5 (c.map eApiCodeEntry)))], [(9, .blk 54 [.v (.str []), .v (.int .i64 0), .v (.int .i64 0), .v (.raw (.slice none 0 0)), .v (.bool false)]), (4, .blk 28 [.v (.sl 5 (b.Entries.map eApiCodeEntry)), .v (.sl 3 (b.Notes.map eApiCodeNote))]), (5, .blk 43 [.v (.sl 1 (g.Words.map eStr)), .v (.sl 2 (g.Materials.map eApiMaterial)), .v (.sl 2 (g.Parts.map eApiComponent)), .v (.bool g.Incomplete)])]⟩) (fun gG => reduce_j3 b g c gG = some r) ?_ ?_
     ·refine WC.cond rfl (fun hc8 => ?_) (fun hc8 => ?_)
      ·replace h := ite_t hc8 h
       refine WC.region (lr1 rfl ?_)
       replace h := bnd h; obtain ⟨v10, hvv10, h⟩ := h
       refine WL.call0 fn71 rfl rfl rfl rfl (by exact trivial) rfl (incompleteWords_con hw hvv10) ?_
       refine lr1 rfl (WL.nil ?_)
       exact WQ.cut [] v10 sub h
      ·replace h := ite_f hc8 h
       refine WC.skip ?_
       exact WQ.cut [] g.Words sub h
     ·intro words h
      replace h : reduce_j3 b g c words = some _ := h
      unfold reduce_j3 at h
      try dsimp only [slotsOf]
      refine sr (lr3 rfl ?_)
      replace h := bnd h; obtain ⟨v8, hvv8, h⟩ := h
      refine WL.call0 fn72 rfl rfl rfl rfl (by exact trivial) rfl (mostSpecific_con hw hvv8) ?_
      refine lr1 rfl (ns (lr1 rfl ?_))
      refine WL.q [] rfl rfl rfl (q_ev tbOk (.v (.int .i64 (v8.length : Int))) rfl (by exact trivial) (by exact lenT)) ?_
      refine lr1 rfl (nn ?_)
      refine WC.cond rfl (fun hc7 => ?_) (fun hc7 => ?_)
      ·replace h := ite_t hc7 h
       refine sr (lr1 rfl ?_)
       replace h := bnd h; obtain ⟨x7, hxx7, h⟩ := h
       refine WL.q [] rfl rfl rfl (q_idx tbOk rfl (by exact trivial) (by decide) (map_get (f := eApiCodeEntry) hxx7)) ?_
       refine lr1 rfl ?_
       replace h := bnd h; obtain ⟨v9, hvv9, h⟩ := h
       refine WL.call0 fn70 rfl rfl rfl rfl (by exact trivial) rfl (cloneEntry_con hw hvv9) ?_
       refine lr2 rfl (nr (WQ.thenRet ?_))
       cases h
       exact WQ.rets tbOk (r := .tup [.v (.int .i64 (4 : Int)), .v (.agg [.str v9.Code, .int .i64 v9.From, .int .i64 v9.To, .sl 1 (v9.Terms.map eLStr), .bool v9.Other])]) hR [] (.inl rfl) rfl rfl (Le.tup (.cons (Le.refl _) (.cons (Le.refl _) .nil))) (by exact trivial) rfl rfl rfl rfl
      ·replace h := ite_f hc7 h
       refine WC.skip ?_
       exact WQ.cut [] v8 sub h
    ·replace h := ite_f hc6 h
     refine WC.skip ?_
     exact WQ.cut [] c sub h
   ·intro c2 h
    replace h : reduce_j1 b g c2 = some _ := h
    unfold reduce_j1 at h
    try dsimp only [slotsOf]
    refine WC.seq (sr (lr1 rfl ?_))
    replace h := bnd h; obtain ⟨v2, hvv2, h⟩ := h
    refine WL.call0 fn73 rfl rfl rfl rfl (by exact trivial) rfl (goodsCharacters_con hw hvv2) ?_
    refine WL.q [] rfl rfl rfl (q_ev tbOk (.v (.int .i64 (v2.length : Int))) rfl (by exact trivial) (by exact lenT)) ?_
    refine lr1 rfl (nn ?_)
    refine WC.thenCut (X := (List ApiCodeEntry)) (fun gG => ⟨[(3, .v (.sl 5 (gG.map eApiCodeEntry))), (9, .p 9 0)], [(9, .blk 54 [.v (.str []), .v (.int .i64 0), .v (.int .i64 0), .v (.raw (.slice none 0 0)), .v (.bool false)])]⟩) (fun gG => reduce_j2 gG = some r) ?_ ?_
    ·refine WC.block ?_
     obtain ⟨eQ1, hl1, hk1⟩ := bnd h
     clear h
     refine WC.loop (σ := Int × (List ApiCodeEntry)) (τ := ((Int × ApiCodeEntry) ⊕ ((List ApiCodeEntry)))) (fun sS => ⟨[(67, .v (.int .i64 sS.1)), (66, .v (.int .i64 (v2.length : Int))), (65, .v (.sl 2 (v2.map eApiComponent))), (3, .v (.sl 5 (sS.2.map eApiCodeEntry))), (9, .p 9 0), (4, .p 4 0)], [(9, .blk 54 [.v (.str []), .v (.int .i64 0), .v (.int .i64 0), .v (.raw (.slice none 0 0)), .v (.bool false)]), (4, .blk 28 [.v (.sl 5 (b.Entries.map eApiCodeEntry)), .v (.sl 3 (b.Notes.map eApiCodeNote))])]⟩) (reduce_b1 b v2) [] ((0 : Int), c2) hl1 sub ?_
     rintro ⟨t67, c4⟩ m hn1 he1 hx1
     obtain ⟨o1, hf1⟩ := some_of hx1
     have h := hf1
     unfold reduce_b1 at h
     try dsimp only [slotsOf]
     refine sr (lr1 rfl (nn (WC.seq ?_)))
     refine WC.cond rfl (fun hc3 => ?_) (fun hc3 => ?_)
     ·replace h := ite_t hc3 h
      refine kn (sb (sr ?_))
      obtain ⟨g3, h⟩ := grd h
      replace h := bnd h; obtain ⟨x5, hxx5, h⟩ := h
      refine WL.q [] rfl rfl rfl (q_idx tbOk rfl (by exact trivial) g3 (map_get (f := eApiComponent) hxx5)) ?_
      refine lr3 rfl (ns (lr4 rfl ?_))
      replace h := bnd h; obtain ⟨v6, hvv6, h⟩ := h
      refine WL.call0 fn74 rfl rfl rfl rfl (by exact trivial) rfl (scored_con hw hvv6) ?_
      refine lr1 rfl (nn (WC.seq (sr (lr1 rfl ?_))))
      refine WL.q [] rfl rfl rfl (q_ev tbOk (.v (.int .i64 (v6.length : Int))) rfl (by exact trivial) (by exact lenT)) ?_
      refine lr1 rfl (nn ?_)
      refine WC.cond rfl (fun hc4 => ?_) (fun hc4 => ?_)
      ·replace h := ite_t hc4 h
       refine sr (lr1 rfl ?_)
       replace h := bnd h; obtain ⟨x6, hxx6, h⟩ := h
       refine WL.q [] rfl rfl rfl (q_idx tbOk rfl (by exact trivial) (by decide) (map_get (f := eApiCodeEntry) hxx6)) ?_
       refine lr1 rfl ?_
       replace h := bnd h; obtain ⟨v7, hvv7, h⟩ := h
       refine WL.call0 fn70 rfl rfl rfl rfl (by exact trivial) rfl (cloneEntry_con hw hvv7) ?_
       refine lr2 rfl (nr (WQ.thenRet (rb ?_)))
       cases h
       have he := he1 _ hf1
       subst he
       have h : some ((5 : Int), v7) = some _ := hk1
       refine WQ.thenRet (rb ?_)
       cases h
       exact WQ.rets tbOk (r := .tup [.v (.int .i64 (5 : Int)), .v (.agg [.str v7.Code, .int .i64 v7.From, .int .i64 v7.To, .sl 1 (v7.Terms.map eLStr), .bool v7.Other])]) hR [] (.inl rfl) rfl rfl (Le.tup (.cons (Le.refl _) (.cons (Le.refl _) .nil))) (by exact trivial) rfl rfl rfl rfl
      ·replace h := ite_f hc4 h
       refine kn (sr (lr1 rfl ?_))
       refine WL.q [] rfl rfl rfl (q_ev tbOk (.v (.int .i64 (v6.length : Int))) rfl (by exact trivial) (by exact lenT)) ?_
       refine lr1 rfl (nn ?_)
       refine WC.cond rfl (fun hc5 => ?_) (fun hc5 => ?_)
       ·replace h := ite_t hc5 h
        refine sr (lr2 rfl (nn (WC.exit ?_)))
        refine WQ.blockPass rfl ?_
        refine WQ.thenExit ?_
        cases h
        have he := he1 _ hf1
        subst he
        replace h := hk1
        try dsimp only at h
        refine eb ?_
        exact WQ.cut [] v6 sub h
       ·replace h := ite_f hc5 h
        refine WC.skip (bn (WC.region (lr2 rfl (WL.nil ?_))))
        cases h
        exact WQ.next [] ((IntKind.i64.wrap (t67 + (1 : Int))), c4) sub (hn1 _ hf1)
     ·replace h := ite_f hc3 h
      refine WC.exit (WQ.thenExit ?_)
      cases h
      have he := he1 _ hf1
      subst he
      replace h := hk1
      try dsimp only at h
      refine eb ?_
      exact WQ.cut [] c4 sub h
    ·intro c3 h
     replace h : reduce_j2 c3 = some _ := h
     unfold reduce_j2 at h
     try dsimp only [slotsOf]
     refine sr (lr2 rfl ?_)
     refine WL.q [] rfl rfl rfl (q_ev tbOk (.v (.int .i64 (c3.length : Int))) rfl (by exact trivial) (by exact lenT)) ?_
     refine lr1 rfl ?_
     obtain ⟨g2, h⟩ := grd h
     replace h := bnd h; obtain ⟨x2, hxx2, h⟩ := h
     refine WL.q [] rfl rfl rfl (q_idx tbOk rfl (by exact trivial) g2 (map_get (f := eApiCodeEntry) hxx2)) ?_
     refine lr1 rfl ?_
     replace h := bnd h; obtain ⟨v3, hvv3, h⟩ := h
     refine WL.call0 fn70 rfl rfl rfl rfl (by exact trivial) rfl (cloneEntry_con hw hvv3) ?_
     refine lr2 rfl (nr ?_)
     cases h
     exact WQ.rets tbOk (r := .tup [.v (.int .i64 (6 : Int)), .v (.agg [.str v3.Code, .int .i64 v3.From, .int .i64 v3.To, .sl 1 (v3.Terms.map eLStr), .bool v3.Other])]) hR [] (.inl rfl) rfl rfl (Le.tup (.cons (Le.refl _) (.cons (Le.refl _) .nil))) (by exact trivial) rfl rfl rfl rfl
theorem classify_con {wg : World} (hw : WG wg) {b : ApiNomenclature} {day : Int} {g : ApiGood} {r : Str × (List ApiClassStep) × Int} (h : classify b day g = some r) : Con Tryz.prog wg gl 22 [.v (.agg [.sl 5 (b.Entries.map eApiCodeEntry), .sl 3 (b.Notes.map eApiCodeNote)]), .v (.int .i64 day), .v (.agg [.sl 1 (g.Words.map eStr), .sl 2 (g.Materials.map eApiMaterial), .sl 2 (g.Parts.map eApiComponent), .bool g.Incomplete])] [] (.tup [.v (.str r.1), .v (.sl 5 (r.2.1.map eApiClassStep)), .v (.int .i64 r.2.2)]) [] := by
 unfold classify at h
 refine con_of_WC (S := slotsOf 0 _) Tryz.func22 rfl Tryz.ntmps22 rfl (fun t x hx => (slotsOf_get hx).2) ?_
 intro F L w ρ0 R hR
 try dsimp only [slotsOf]
 refine sr (lr5 rfl (nn (WC.seq (sr (lr1 rfl ?_)))))
 replace h := bnd h; obtain ⟨v, hvv, h⟩ := h
 refine WL.call0 fn36 rfl rfl rfl rfl (by exact trivial) rfl (nomValidate_con hw hvv) ?_
 refine lr1 rfl (ns (lr2 rfl (nn ?_)))
 refine WC.cond rfl (fun hc1 => ?_) (fun hc1 => ?_)
 ·replace h := ite_t hc1 h
  refine sr (lr4 rfl (nr (WQ.thenRet ?_)))
  cases h
  exact WQ.rets tbOk (r := .tup [.v (.str ([] : Str)), .v (.sl 5 ([].map eApiClassStep)), .v (.int .i64 v)]) hR [] (.inl rfl) rfl rfl (Le.tup (.cons (Le.refl _) (.cons (Le.nil 5) (.cons (Le.refl _) .nil)))) (by exact trivial) rfl rfl rfl rfl
 ·replace h := ite_f hc1 h
  refine kn (WC.seq (sr (lr1 rfl ?_)))
  replace h := bnd h; obtain ⟨v2, hvv2, h⟩ := h
  refine WL.call0 fn57 rfl rfl rfl rfl (by exact trivial) rfl (goodsValidate_con hw hvv2) ?_
  refine lr1 rfl (ns (lr2 rfl (nn ?_)))
  refine WC.cond rfl (fun hc2 => ?_) (fun hc2 => ?_)
  ·replace h := ite_t hc2 h
   refine sr (lr4 rfl (nr (WQ.thenRet ?_)))
   cases h
   exact WQ.rets tbOk (r := .tup [.v (.str ([] : Str)), .v (.sl 5 ([].map eApiClassStep)), .v (.int .i64 v2)]) hR [] (.inl rfl) rfl rfl (Le.tup (.cons (Le.refl _) (.cons (Le.nil 5) (.cons (Le.refl _) .nil)))) (by exact trivial) rfl rfl rfl rfl
  ·replace h := ite_f hc2 h
   refine kn (WC.seq (sr ?_))
   refine lr 6 rfl (by exact sideR) ?_
   refine nn ?_
   refine WC.cond rfl (fun hc3 => ?_) (fun hc3 => ?_)
   ·replace h := ite_t hc3 h
    refine sr (lr3 rfl (nr (WQ.thenRet ?_)))
    cases h
    exact WQ.rets tbOk (r := .tup [.v (.str ([] : Str)), .v (.sl 5 ([].map eApiClassStep)), .v (.int .i64 (2 : Int))]) hR [] (.inl rfl) rfl rfl (Le.tup (.cons (Le.refl _) (.cons (Le.nil 5) (.cons (Le.refl _) .nil)))) (by exact trivial) rfl rfl rfl rfl
   ·replace h := ite_f hc3 h
    refine kn (sr (lr1 rfl (ns (lr1 rfl (nn (WC.seq ?_))))))
    refine WC.thenCut (X := Str × (List ApiClassStep)) (fun gG => ⟨[(12, .v (.str gG.1)), (11, .r 1011)], [(1011, .row 64 5 (gG.2.map eApiClassStep))]⟩) (fun gG => classify_j1 gG.1 gG.2 = some r) ?_ ?_
    ·refine WC.block ?_
     obtain ⟨eQ1, hl1, hk1⟩ := bnd h
     clear h
     refine WC.rowNil 11 1011 64 5 rfl rfl ?_
     refine WC.loop (σ := Str × (List ApiClassStep)) (τ := (Str × (List ApiClassStep))) (fun sS => ⟨[(12, .v (.str sS.1)), (11, .r 1011), (5, .p 5 0), (3, .p 3 0), (1, .v (.int .i64 day))], [(1011, .row 64 5 (sS.2.map eApiClassStep)), (3, .blk 28 [.v (.sl 5 (b.Entries.map eApiCodeEntry)), .v (.sl 3 (b.Notes.map eApiCodeNote))]), (5, .blk 43 [.v (.sl 1 (g.Words.map eStr)), .v (.sl 2 (g.Materials.map eApiMaterial)), .v (.sl 2 (g.Parts.map eApiComponent)), .v (.bool g.Incomplete)])]⟩) (classify_b1 b day g) [] (([] : Str), []) hl1 sub ?_
     rintro ⟨code3, steps2⟩ m hn1 he1 hx1
     obtain ⟨o1, hf1⟩ := some_of hx1
     have h := hf1
     unfold classify_b1 at h
     try dsimp only [slotsOf]
     refine WC.block (sr (lr4 rfl ?_))
     replace h := bnd h; obtain ⟨v7, hvv7, h⟩ := h
     refine WL.call0 fn27 rfl rfl rfl rfl (by exact trivial) rfl (basis_con hw hvv7) ?_
     refine lr5 rfl (nn (WC.seq (sr (lr1 rfl ?_))))
     refine WL.q [] rfl rfl rfl (q_ev tbOk (.v (.int .i64 (v7.2.length : Int))) rfl (by exact trivial) (by exact lenT)) ?_
     refine lr1 rfl (nn ?_)
     refine WC.cond rfl (fun hc5 => ?_) (fun hc5 => ?_)
     ·replace h := ite_t hc5 h
      refine WC.exit (WQ.thenExit ?_)
      refine WQ.blockPass rfl ?_
      cases h
      have he := he1 _ hf1
      subst he
      replace h := hk1
      try dsimp only at h
      refine eb ?_
      exact WQ.cut [] (code3, steps2) sub h
     ·replace h := ite_f hc5 h
      refine kn (sr (lr4 rfl ?_))
      replace h := bnd h; obtain ⟨v8, hvv8, h⟩ := h
      refine WL.call0 fn30 rfl rfl rfl rfl (by exact trivial) rfl (reduce_con hw hvv8) ?_
      refine lr6 rfl (ns (lr 8 rfl trivial (nn (WC.seq (sr (lr1 rfl ?_))))))
      refine WL.q [] rfl rfl rfl (q_ev tbOk (.v (.int .i64 (v7.2.length : Int))) rfl (by exact trivial) (by exact lenT)) ?_
      refine lr1 rfl (nn ?_)
      refine WC.thenCut (X := (List ApiClassStep) × (List Str)) (fun gG => ⟨[(17, .p 17 0), (16, .p 16 0), (11, .r 1011), (5, .p 5 0), (3, .p 3 0), (1, .v (.int .i64 day))], [(1011, .row 64 5 (gG.1.map eApiClassStep)), (16, .blk 54 [.v (.str v8.2.Code), .v (.int .i64 v8.2.From), .v (.int .i64 v8.2.To), .v (.sl 1 (v8.2.Terms.map eLStr)), .v (.bool v8.2.Other)]), (2852, .row 9 1 (gG.2.map eStr)), (17, .blk 64 [.v (.str code3), .v (.int .i64 v7.1), .r 2852, .v (.int .i64 v8.1), .v (.str v8.2.Code)]), (3, .blk 28 [.v (.sl 5 (b.Entries.map eApiCodeEntry)), .v (.sl 3 (b.Notes.map eApiCodeNote))]), (5, .blk 43 [.v (.sl 1 (g.Words.map eStr)), .v (.sl 2 (g.Materials.map eApiMaterial)), .v (.sl 2 (g.Parts.map eApiComponent)), .v (.bool g.Incomplete)])]⟩) (fun gG => classify_j2 b day g code3 v7 v8 gG.1 gG.2 = some o1) ?_ ?_
      ·refine WC.block ?_
       obtain ⟨eQ2, hl2, hk2⟩ := bnd h
       clear h
       refine WC.rowNilB 17 2 2852 9 1 rfl rfl rfl (cs2 := [.v (.str code3), .v (.int .i64 v7.1), .r 2852, .v (.int .i64 v8.1), .v (.str v8.2.Code)]) rfl ?_
       refine WC.loop (σ := Int × (List ApiClassStep) × (List Str)) (τ := ((List ApiClassStep) × (List Str))) (fun sS => ⟨[(63, .v (.int .i64 sS.1)), (62, .v (.int .i64 (v7.2.length : Int))), (61, .v (.sl 5 (v7.2.map eApiCodeEntry))), (17, .p 17 0), (16, .p 16 0), (11, .r 1011), (5, .p 5 0), (3, .p 3 0), (1, .v (.int .i64 day))], [(1011, .row 64 5 (sS.2.1.map eApiClassStep)), (16, .blk 54 [.v (.str v8.2.Code), .v (.int .i64 v8.2.From), .v (.int .i64 v8.2.To), .v (.sl 1 (v8.2.Terms.map eLStr)), .v (.bool v8.2.Other)]), (2852, .row 9 1 (sS.2.2.map eStr)), (17, .blk 64 [.v (.str code3), .v (.int .i64 v7.1), .r 2852, .v (.int .i64 v8.1), .v (.str v8.2.Code)]), (3, .blk 28 [.v (.sl 5 (b.Entries.map eApiCodeEntry)), .v (.sl 3 (b.Notes.map eApiCodeNote))]), (5, .blk 43 [.v (.sl 1 (g.Words.map eStr)), .v (.sl 2 (g.Materials.map eApiMaterial)), .v (.sl 2 (g.Parts.map eApiComponent)), .v (.bool g.Incomplete)])]⟩) (classify_b2 b day g code3 v7 v8) [] ((0 : Int), steps2, []) hl2 sub ?_
       rintro ⟨t636, steps10, c17_28⟩ m hn2 he2 hx2
       obtain ⟨o2, hf2⟩ := some_of hx2
       have h := hf2
       unfold classify_b2 at h
       try dsimp only [slotsOf]
       refine sr (lr1 rfl (nn (WC.seq ?_)))
       refine WC.cond rfl (fun hc6 => ?_) (fun hc6 => ?_)
       ·replace h := ite_t hc6 h
        refine kn (sb (sr ?_))
        obtain ⟨g2, h⟩ := grd h
        replace h := bnd h; obtain ⟨x9, hxx9, h⟩ := h
        refine WL.q [] rfl rfl rfl (q_idx tbOk rfl (by exact trivial) g2 (map_get (f := eApiCodeEntry) hxx9)) ?_
        refine lr3 rfl (nn (WC.region (lr5 rfl ?_)))
        obtain ⟨g3, h⟩ := grd h
        refine WL.append tbOk ((c17_28 ++ [x9.Code]).map eStr) [72, 2852] ap31 rfl rfl rfl rfl (fun _ e => by cases e; rfl) (by exact trivial) (map_cells (f := eStr) (xs := [x9.Code]) fun _ => rfl) (by have := g3; simp only [List.length_map, List.length_nil, List.length_cons] at this ⊢; omega) rfl rfl (by simp only [List.map_append]; try rfl) rfl ?_
        refine lr2 rfl (WL.nil (bn (WC.region (lr2 rfl (WL.nil ?_)))))
        cases h
        exact WQ.next [(2852, 72)] ((IntKind.i64.wrap (t636 + (1 : Int))), steps10, (c17_28 ++ [x9.Code])) sub (hn2 _ hf2)
       ·replace h := ite_f hc6 h
        refine WC.exit (WQ.thenExit ?_)
        cases h
        have he := he2 _ hf2
        subst he
        replace h := hk2
        try dsimp only at h
        refine eb ?_
        exact WQ.cut [] (steps10, c17_28) sub h
      ·rintro ⟨steps8, c17_27⟩ h
       replace h : classify_j2 b day g code3 v7 v8 steps8 c17_27 = some _ := h
       unfold classify_j2 at h
       try dsimp only [slotsOf]
       refine WC.seq ?_
       refine WC.publish 2852 rfl rfl ?_
       refine WC.region (lr3 rfl ?_)
       obtain ⟨g1, h⟩ := grd h
       refine WL.append tbOk ((steps8 ++ [(⟨code3, v7.1, c17_27, v8.1, v8.2.Code⟩ : ApiClassStep)]).map eApiClassStep) [78, 1011] ap45 rfl rfl rfl rfl (fun _ e => by cases e; rfl) (by exact trivial) (map_cells (f := eApiClassStep) (xs := [(⟨code3, v7.1, c17_27, v8.1, v8.2.Code⟩ : ApiClassStep)]) fun _ => rfl) (by have := g1; simp only [List.length_map, List.length_nil, List.length_cons] at this ⊢; omega) rfl rfl (by simp only [List.map_append]; try rfl) rfl ?_
       refine lr1 rfl (nn (WC.region (lr3 rfl (WL.nil (WQ.blockNormal ?_)))))
       cases h
       exact WQ.next [(1011, 78)] (v8.2.Code, (steps8 ++ [(⟨code3, v7.1, c17_27, v8.1, v8.2.Code⟩ : ApiClassStep)])) sub (hn1 _ hf1)
    ·rintro ⟨code, steps⟩ h
     replace h : classify_j1 code steps = some _ := h
     unfold classify_j1 at h
     try dsimp only [slotsOf]
     refine WC.seq (sr (lr1 rfl ?_))
     refine WL.q [1011] rfl rfl rfl (q_ev tbOk (.v (.int .i64 (steps.length : Int))) rfl (by exact trivial) (by exact lenT)) ?_
     refine lr1 rfl (nn ?_)
     refine WC.cond rfl (fun hc4 => ?_) (fun hc4 => ?_)
     ·replace h := ite_t hc4 h
      refine sr (lr3 rfl (nr (WQ.thenRet ?_)))
      cases h
      exact WQ.rets tbOk (r := .tup [.v (.str ([] : Str)), .v (.sl 5 ([].map eApiClassStep)), .v (.int .i64 (7 : Int))]) hR [] (.inl rfl) rfl rfl (Le.tup (.cons (Le.refl _) (.cons (Le.nil 5) (.cons (Le.refl _) .nil)))) (by exact trivial) rfl rfl rfl rfl
     ·replace h := ite_f hc4 h
      refine kn (sr (lr5 rfl (nr ?_)))
      refine WQ.publish 1011 rfl rfl ?_
      cases h
      exact WQ.rets tbOk (r := .tup [.v (.str code), .v (.sl 5 (steps.map eApiClassStep)), .v (.int .i64 (0 : Int))]) hR [] (.inl rfl) rfl rfl (Le.tup (.cons (Le.refl _) (.cons (Le.refl _) (.cons (Le.refl _) .nil)))) (by exact trivial) rfl rfl rfl rfl
end Go.Proofs.YtfkefolbabniaaaGreatDoor
end

section
set_option linter.unusedVariables false
set_option linter.unusedSimpArgs false
set_option maxHeartbeats 4000000
set_option maxRecDepth 20000
namespace Go.Proofs.YtfkefolbabniaaaGreatDoor
open Go.V Go.C
theorem book10_con {wg : World} (hw : WG wg)  {r : ApiNomenclature} (h : book10  = some r) : Con Tryz.prog wg gl 61 [] [] (.v (.agg [.sl 5 (r.Entries.map eApiCodeEntry), .sl 3 (r.Notes.map eApiCodeNote)])) [] := by
 unfold book10 at h
 refine con_of_WC (S := slotsOf 0 _) Tryz.func61 rfl Tryz.ntmps61 rfl (fun t x hx => (slotsOf_get hx).2) ?_
 intro F L w ρ0 R hR
 try dsimp only [slotsOf]
 refine sr (lr1 rfl (ns (lr 8 rfl trivial ?_)))
 refine WL.mkLe tbOk (.v (.sl 5 ([(⟨([57, 52] : Str), 0, (100 : Int), [], false⟩ : ApiCodeEntry), (⟨([57, 52, 48, 49] : Str), 0, (100 : Int), [[([99, 104, 97, 105, 114] : Str)], [([115, 101, 97, 116] : Str)]], false⟩ : ApiCodeEntry), (⟨([57, 52, 48, 51] : Str), 0, (100 : Int), [[([102, 117, 114, 110, 105, 116, 117, 114, 101] : Str)]], false⟩ : ApiCodeEntry)].map eApiCodeEntry))) rfl (by exact trivial) (Le.sl (.cons (.same (.same (.same (.sl 1 (.same .nil))))) (.cons (.same (.same (.same (.same (.same .nil))))) (.cons (.same (.same (.same (.same (.same .nil))))) .nil)))) ?_
 refine lr2 rfl (nr ?_)
 cases h
 exact WQ.rets tbOk (r := .v (.agg [.sl 5 (((⟨[(⟨([57, 52] : Str), 0, (100 : Int), [], false⟩ : ApiCodeEntry), (⟨([57, 52, 48, 49] : Str), 0, (100 : Int), [[([99, 104, 97, 105, 114] : Str)], [([115, 101, 97, 116] : Str)]], false⟩ : ApiCodeEntry), (⟨([57, 52, 48, 51] : Str), 0, (100 : Int), [[([102, 117, 114, 110, 105, 116, 117, 114, 101] : Str)]], false⟩ : ApiCodeEntry)], []⟩ : ApiNomenclature).Entries).map eApiCodeEntry), .sl 3 (((⟨[(⟨([57, 52] : Str), 0, (100 : Int), [], false⟩ : ApiCodeEntry), (⟨([57, 52, 48, 49] : Str), 0, (100 : Int), [[([99, 104, 97, 105, 114] : Str)], [([115, 101, 97, 116] : Str)]], false⟩ : ApiCodeEntry), (⟨([57, 52, 48, 51] : Str), 0, (100 : Int), [[([102, 117, 114, 110, 105, 116, 117, 114, 101] : Str)]], false⟩ : ApiCodeEntry)], []⟩ : ApiNomenclature).Notes).map eApiCodeNote)])) hR [] (.inl rfl) rfl rfl (Le.agg (.same (.sl 3 .nil))) (by exact trivial) rfl rfl rfl rfl
theorem awake10_con {wg : World} (hw : WG wg)  {r : Bool} (h : awake10  = some r) : Con Tryz.prog wg gl 26 [] [] (.v (.bool r)) [] := by
 unfold awake10 at h
 refine con_of_WC (S := slotsOf 0 _) Tryz.func26 rfl Tryz.ntmps26 rfl (fun t x hx => (slotsOf_get hx).2) ?_
 intro F L w ρ0 R hR
 try dsimp only [slotsOf]
 refine sr (lr1 rfl (ns ?_))
 replace h := bnd h; obtain ⟨v, hvv, h⟩ := h
 refine WL.call0 fn61 rfl rfl rfl rfl (by exact trivial) rfl (book10_con hw hvv) ?_
 refine lr2 rfl ?_
 replace h := bnd h; obtain ⟨v2, hvv2, h⟩ := h
 refine WL.call0 fn22 rfl rfl rfl rfl (by exact trivial) rfl (con_le (.cons (Le.refl _) (.cons (Le.refl _) (.cons (Le.agg (.same (.sl 2 (.sl 2 (.same .nil))))) .nil))) (classify_con hw hvv2)) ?_
 refine lr 7 rfl trivial (ns ?_)
 replace h := bnd h; obtain ⟨v3, hvv3, h⟩ := h
 refine WL.call0 fn61 rfl rfl rfl rfl (by exact trivial) rfl (book10_con hw hvv3) ?_
 refine lr2 rfl ?_
 replace h := bnd h; obtain ⟨v4, hvv4, h⟩ := h
 refine WL.call0 fn22 rfl rfl rfl rfl (by exact trivial) rfl (con_le (.cons (Le.refl _) (.cons (Le.refl _) (.cons (Le.agg (.same (.sl 2 (.sl 2 (.same .nil))))) .nil))) (classify_con hw hvv4)) ?_
 refine lr 7 rfl trivial (ns ?_)
 replace h := bnd h; obtain ⟨v5, hvv5, h⟩ := h
 refine WL.call0 fn61 rfl rfl rfl rfl (by exact trivial) rfl (book10_con hw hvv5) ?_
 refine lr2 rfl ?_
 replace h := bnd h; obtain ⟨v6, hvv6, h⟩ := h
 refine WL.call0 fn22 rfl rfl rfl rfl (by exact trivial) rfl (con_le (.cons (Le.refl _) (.cons (Le.refl _) (.cons (Le.agg (.same (.sl 2 (.sl 2 (.same .nil))))) .nil))) (classify_con hw hvv6)) ?_
 refine lr 7 rfl trivial (ns ?_)
 refine lr 4 rfl (by exact sideR) ?_
 refine WL.gq [] rfl rfl rfl rfl (fun hg => q_ev tbOk (.v (.int .i64 (v2.2.1.length : Int))) rfl (by exact sideR) (by exact lenT)) ?_
 refine lr 4 rfl (by exact sideR) ?_
 obtain ⟨g1, h⟩ := grd h
 refine WL.gq [] rfl rfl rfl rfl (fun hg => q_idx tbOk rfl (by exact sideR) (g1 hg).1 (map_getD (f := eApiClassStep) (g1 hg).2 (g1 hg).1)) ?_
 refine lr 21 rfl (by exact sideR) ?_
 refine nr ?_
 cases h
 exact rt tbOk hR
theorem day10_con {wg : World} (hw : WG wg) {n1 : Int} {r : Int} (h : day10 n1 = some r) : Con Tryz.prog wg gl 23 [.v (.int .i64 n1)] [] (.v (.int .i64 r)) [] := by
 unfold day10 at h
 refine con_of_WC (S := slotsOf 0 _) Tryz.func23 rfl Tryz.ntmps23 rfl (fun t x hx => (slotsOf_get hx).2) ?_
 intro F L w ρ0 R hR
 try dsimp only [slotsOf]
 refine sr (lr1 rfl (ns (lr1 rfl ?_)))
 replace h := bnd h; obtain ⟨v, hvv, h⟩ := h
 refine WL.call0 fn14 rfl rfl rfl rfl (by exact trivial) rfl (within_con hw hvv) ?_
 refine lr1 rfl (nr ?_)
 cases h
 exact rt tbOk hR
theorem lawBasis_con {wg : World} (hw : WG wg) {l : (List Int)} {m1 : (List Int)} {d : Int} {at_ : Int} {top : Bool} {r : Bool} (h : lawBasis l m1 d at_ top = some r) : Con Tryz.prog wg gl 6 [.v (.sl 1 (l.map eInt_i64)), .v (.sl 1 (m1.map eInt_i64)), .v (.int .i64 d), .v (.int .i64 at_), .v (.bool top)] [] (.v (.bool r)) [] := by
 unfold lawBasis at h
 refine con_of_WC (S := slotsOf 0 _) Tryz.func6 rfl Tryz.ntmps6 rfl (fun t x hx => (slotsOf_get hx).2) ?_
 intro F L w ρ0 R hR
 try dsimp only [slotsOf]
 refine sr (lr1 rfl (ns (lr1 rfl ?_)))
 replace h := bnd h; obtain ⟨v, hvv, h⟩ := h
 refine WL.call0 fn13 rfl rfl rfl rfl (by exact trivial) rfl (madeNom_con hw hvv) ?_
 refine lr1 rfl ?_
 replace h := bnd h; obtain ⟨v2, hvv2, h⟩ := h
 refine WL.call0 fn21 rfl rfl rfl rfl (by exact trivial) rfl (madeGood_con hw hvv2) ?_
 refine lr4 rfl (ns (lr1 rfl (nn (WC.seq (sr (lr2 rfl (nn ?_)))))))
 refine WC.thenCut (X := Str) (fun gG => ⟨[(13, .v (.str gG)), (12, .p 12 0), (11, .p 11 0), (2, .v (.int .i64 d))], [(11, .blk 28 [.v (.sl 5 (v.Entries.map eApiCodeEntry)), .v (.sl 3 (v.Notes.map eApiCodeNote))]), (12, .blk 43 [.v (.sl 1 (v2.Words.map eStr)), .v (.sl 2 (v2.Materials.map eApiMaterial)), .v (.sl 2 (v2.Parts.map eApiComponent)), .v (.bool v2.Incomplete)])]⟩) (fun gG => lawBasis_j1 d v v2 gG = some r) ?_ ?_
 ·refine WC.cond rfl (fun hc3 => ?_) (fun hc3 => ?_)
  ·replace h := ite_t hc3 h
   refine WC.order mixed ?_
   refine wr 5 rfl trivial ?_
   refine WR.q [] rfl rfl rfl (q_ev tbOk (.v (.int .i64 (v.Entries.length : Int))) rfl (by exact trivial) (by exact lenT)) ?_
   replace h := bnd h; obtain ⟨v13, hvv13, h⟩ := h
   refine WR.call0 fn14 rfl rfl rfl rfl (by exact trivial) rfl (within_con hw hvv13) ?_
   obtain ⟨g1, h⟩ := grd h
   replace h := bnd h; obtain ⟨x, hxx, h⟩ := h
   refine WR.q [] rfl rfl rfl (q_idx tbOk rfl (by exact trivial) g1 (map_get (f := eApiCodeEntry) hxx)) ?_
   refine wr 3 rfl trivial ?_
   refine WR.nil (by kernel_rfl) ?_
   exact WQ.cut [] x.Code sub h
  ·replace h := ite_f hc3 h
   refine WC.skip ?_
   exact WQ.cut [] ([] : Str) sub h
 ·intro parent h
  replace h : lawBasis_j1 d v v2 parent = some _ := h
  unfold lawBasis_j1 at h
  try dsimp only [slotsOf]
  refine WC.seq (WC.order mixed ?_)
  refine wr 2 rfl trivial ?_
  replace h := bnd h; obtain ⟨v3, hvv3, h⟩ := h
  refine WR.call0 fn23 rfl rfl rfl rfl (by exact trivial) rfl (day10_con hw hvv3) ?_
  refine wr 2 rfl trivial ?_
  replace h := bnd h; obtain ⟨v4, hvv4, h⟩ := h
  refine WR.call0 fn27 rfl rfl rfl rfl (by exact trivial) rfl (basis_con hw hvv4) ?_
  refine wr 5 rfl trivial ?_
  refine WR.nil (by kernel_rfl) (WQ.thenNormal (WC.seq (WC.order mixed ?_)))
  refine wr 2 rfl trivial ?_
  replace h := bnd h; obtain ⟨v5, hvv5, h⟩ := h
  refine WR.call0 fn23 rfl rfl rfl rfl (by exact trivial) rfl (day10_con hw hvv5) ?_
  refine wr 2 rfl trivial ?_
  replace h := bnd h; obtain ⟨v6, hvv6, h⟩ := h
  refine WR.call0 fn28 rfl rfl rfl rfl (by exact trivial) rfl (rBasis_con hw hvv6) ?_
  refine wr 5 rfl trivial ?_
  refine WR.nil (by kernel_rfl) (WQ.thenNormal (WC.seq (sr ?_)))
  refine lr 6 rfl (by exact sideR) ?_
  replace h := bnd h; obtain ⟨v7, hvv7, h⟩ := h
  refine WL.gcall0 fn29 rfl rfl rfl rfl rfl (fun _ => (by exact sideR)) rfl (fun hg => (sameEntries_con hw (ite_t hg hvv7))) ?_
  refine lr 2 rfl (by exact sideR) ?_
  refine nn ?_
  refine WC.cond rfl (fun hc1 => ?_) (fun hc1 => ?_)
  ·replace h := ite_t hc1 h
   refine sr (lr1 rfl (nr (WQ.thenRet ?_)))
   cases h
   exact rt tbOk hR
  ·replace h := ite_f hc1 h
   refine kn (WC.seq (sr (lr1 rfl ?_)))
   refine WL.q [] rfl rfl rfl (q_ev tbOk (.v (.int .i64 (v4.2.length : Int))) rfl (by exact trivial) (by exact lenT)) ?_
   refine lr1 rfl (nn ?_)
   refine WC.cond rfl (fun hc2 => ?_) (fun hc2 => ?_)
   ·replace h := ite_t hc2 h
    refine sr (lr3 rfl ?_)
    replace h := bnd h; obtain ⟨v8, hvv8, h⟩ := h
    refine WL.gcall0 fn26 rfl rfl rfl rfl rfl (fun _ => (by exact sideR)) rfl (fun hg => (awake10_con hw (ite_t hg hvv8))) ?_
    refine lr 2 rfl (by exact sideR) ?_
    refine nr (WQ.thenRet ?_)
    cases h
    exact rt tbOk hR
   ·replace h := ite_f hc2 h
    refine kn (sr (lr4 rfl ?_))
    replace h := bnd h; obtain ⟨v9, hvv9, h⟩ := h
    refine WL.call0 fn30 rfl rfl rfl rfl (by exact trivial) rfl (reduce_con hw hvv9) ?_
    refine lr6 rfl (ns (lr4 rfl ?_))
    replace h := bnd h; obtain ⟨v10, hvv10, h⟩ := h
    refine WL.call0 fn31 rfl rfl rfl rfl (by exact trivial) rfl (rReduce_con hw hvv10) ?_
    refine lr6 rfl (ns ?_)
    refine lr 5 rfl (by exact sideR) ?_
    refine WL.gmake tbOk (x := .v (.sl 5 ([v9.2].map eApiCodeEntry))) rfl rfl rfl rfl rfl (fun _ => (by exact sideR)) ?_
    refine lr 1 rfl (by exact sideR) ?_
    refine WL.gmake tbOk (x := .v (.sl 5 ([v10.2].map eApiCodeEntry))) rfl rfl rfl rfl rfl (fun _ => (by exact sideR)) ?_
    replace h := bnd h; obtain ⟨v11, hvv11, h⟩ := h
    refine WL.gcall0 fn29 rfl rfl rfl rfl rfl (fun _ => (by exact sideR)) rfl (fun hg => (sameEntries_con hw (ite_t hg hvv11))) ?_
    refine lr 2 rfl (by exact sideR) ?_
    replace h := bnd h; obtain ⟨v12, hvv12, h⟩ := h
    refine WL.gcall0 fn26 rfl rfl rfl rfl rfl (fun _ => (by exact sideR)) rfl (fun hg => (awake10_con hw (ite_t hg hvv12))) ?_
    refine lr 2 rfl (by exact sideR) ?_
    refine nr ?_
    cases h
    exact rt tbOk hR
theorem lawPath_con {wg : World} (hw : WG wg) {l : (List Int)} {m1 : (List Int)} {d : Int} {r : Bool} (h : lawPath l m1 d = some r) : Con Tryz.prog wg gl 11 [.v (.sl 1 (l.map eInt_i64)), .v (.sl 1 (m1.map eInt_i64)), .v (.int .i64 d)] [] (.v (.bool r)) [] := by
 unfold lawPath at h
 refine con_of_WC (S := slotsOf 0 _) Tryz.func11 rfl Tryz.ntmps11 rfl (fun t x hx => (slotsOf_get hx).2) ?_
 intro F L w ρ0 R hR
 try dsimp only [slotsOf]
 refine sr (lr1 rfl (ns (lr1 rfl ?_)))
 replace h := bnd h; obtain ⟨v, hvv, h⟩ := h
 refine WL.call0 fn13 rfl rfl rfl rfl (by exact trivial) rfl (madeNom_con hw hvv) ?_
 refine lr1 rfl ?_
 replace h := bnd h; obtain ⟨v2, hvv2, h⟩ := h
 refine WL.call0 fn21 rfl rfl rfl rfl (by exact trivial) rfl (madeGood_con hw hvv2) ?_
 refine lr4 rfl (nn (WC.seq (WC.order mixed ?_)))
 refine wr 2 rfl trivial ?_
 replace h := bnd h; obtain ⟨v3, hvv3, h⟩ := h
 refine WR.call0 fn23 rfl rfl rfl rfl (by exact trivial) rfl (day10_con hw hvv3) ?_
 refine wr 1 rfl trivial ?_
 replace h := bnd h; obtain ⟨v4, hvv4, h⟩ := h
 refine WR.call0 fn22 rfl rfl rfl rfl (by exact trivial) rfl (classify_con hw hvv4) ?_
 refine wr 7 rfl trivial ?_
 refine WR.nil (by kernel_rfl) (WQ.thenNormal (WC.seq (sr (lr2 rfl (nn ?_)))))
 refine WC.cond rfl (fun hc1 => ?_) (fun hc1 => ?_)
 ·replace h := ite_t hc1 h
  refine sr (lr3 rfl ?_)
  replace h := bnd h; obtain ⟨v5, hvv5, h⟩ := h
  refine WL.gcall0 fn26 rfl rfl rfl rfl rfl (fun _ => (by exact sideR)) rfl (fun hg => (awake10_con hw (ite_t hg hvv5))) ?_
  refine lr 2 rfl (by exact sideR) ?_
  refine nr (WQ.thenRet ?_)
  cases h
  exact rt tbOk hR
 ·replace h := ite_f hc1 h
  refine kn (sr (lr1 rfl (nn (WC.seq (sr (lr1 rfl (nn ?_)))))))
  refine WC.thenCut (X := Str) (fun gG => ⟨[(12, .v (.str gG)), (10, .v (.sl 5 (v4.2.1.map eApiClassStep))), (9, .v (.str v4.1)), (7, .p 7 0), (2, .v (.int .i64 d))], [(7, .blk 28 [.v (.sl 5 (v.Entries.map eApiCodeEntry)), .v (.sl 3 (v.Notes.map eApiCodeNote))])]⟩) (fun gG => lawPath_j1 d v v4 gG = some r) ?_ ?_
  ·refine WC.block ?_
   obtain ⟨eQ1, hl1, hk1⟩ := bnd h
   clear h
   refine WC.loop (σ := Int × Str) (τ := ((Bool) ⊕ (Str))) (fun sS => ⟨[(13, .v (.int .i64 sS.1)), (12, .v (.str sS.2)), (10, .v (.sl 5 (v4.2.1.map eApiClassStep))), (9, .v (.str v4.1)), (7, .p 7 0), (2, .v (.int .i64 d))], [(7, .blk 28 [.v (.sl 5 (v.Entries.map eApiCodeEntry)), .v (.sl 3 (v.Notes.map eApiCodeNote))])]⟩) (lawPath_b1 d v v4) [] ((0 : Int), ([] : Str)) hl1 sub ?_
   rintro ⟨i, parent2⟩ m hn1 he1 hx1
   obtain ⟨o1, hf1⟩ := some_of hx1
   have h := hf1
   unfold lawPath_b1 at h
   try dsimp only [slotsOf]
   refine WC.seq (sr (lr2 rfl ?_))
   refine WL.q [] rfl rfl rfl (q_ev tbOk (.v (.int .i64 (v4.2.1.length : Int))) rfl (by exact trivial) (by exact lenT)) ?_
   refine lr1 rfl (nn ?_)
   refine WC.cond rfl (fun hc2 => ?_) (fun hc2 => ?_)
   ·replace h := ite_t hc2 h
    refine kn (sb (WC.seq (WC.order mixed ?_)))
    refine wr 2 rfl trivial ?_
    replace h := bnd h; obtain ⟨v12, hvv12, h⟩ := h
    refine WR.call0 fn23 rfl rfl rfl rfl (by exact trivial) rfl (day10_con hw hvv12) ?_
    refine wr 2 rfl trivial ?_
    obtain ⟨g1, h⟩ := grd h
    replace h := bnd h; obtain ⟨x4, hxx4, h⟩ := h
    refine WR.q [] rfl rfl rfl (q_idx tbOk rfl (by exact trivial) g1 (map_get (f := eApiClassStep) hxx4)) ?_
    refine wr 2 rfl trivial ?_
    replace h := bnd h; obtain ⟨v13, hvv13, h⟩ := h
    refine WR.call0 fn39 rfl rfl rfl rfl (by exact trivial) rfl (nomFind_con hw hvv13) ?_
    refine wr 6 rfl trivial ?_
    refine WR.nil (by kernel_rfl) (WQ.thenNormal (WC.seq (WC.seq (WC.order mixed ?_))))
    refine wr 2 rfl trivial ?_
    obtain ⟨g2, h⟩ := grd h
    replace h := bnd h; obtain ⟨x5, hxx5, h⟩ := h
    refine WR.q [] rfl rfl rfl (q_idx tbOk rfl (by exact trivial) g2 (map_get (f := eApiClassStep) hxx5)) ?_
    refine wr 7 rfl (by exact sideR) ?_
    obtain ⟨g3, h⟩ := grd h
    refine WR.gq [] rfl rfl rfl rfl (fun hg => q_idx tbOk rfl (by exact sideR) (g3 hg).1 (map_getD (f := eApiClassStep) (g3 hg).2 (g3 hg).1)) ?_
    refine wr 4 rfl (by exact sideR) ?_
    obtain ⟨g4, h⟩ := grd h
    refine WR.gq [] rfl rfl rfl rfl (fun hg => q_idx tbOk rfl (by exact sideR) (g4 hg).1 (map_getD (f := eApiClassStep) (g4 hg).2 (g4 hg).1)) ?_
    refine wr 2 rfl (by exact sideR) ?_
    replace h := bnd h; obtain ⟨v14, hvv14, h⟩ := h
    refine WR.gcall0 fn40 rfl rfl rfl rfl rfl (fun _ => (by exact sideR)) rfl (fun hg => (refHas_con hw (ite_t hg hvv14))) ?_
    refine wr 9 rfl (by exact sideR) ?_
    obtain ⟨g5, h⟩ := grd h
    refine WR.gq [] rfl rfl rfl rfl (fun hg => q_idx tbOk rfl (by exact sideR) (g5 hg).1 (map_getD (f := eApiClassStep) (g5 hg).2 (g5 hg).1)) ?_
    refine wr 8 rfl (by exact sideR) ?_
    refine WR.nil (by kernel_rfl) (WQ.thenNormal ?_)
    refine WC.cond rfl (fun hc3 => ?_) (fun hc3 => ?_)
    ·replace h := ite_t hc3 h
     refine sr (lr1 rfl (nr (WQ.thenRet (rb ?_))))
     cases h
     have he := he1 _ hf1
     subst he
     have h : some false = some _ := hk1
     refine WQ.thenRet (rb ?_)
     cases h
     exact rt tbOk hR
    ·replace h := ite_f hc3 h
     refine kn (WC.region (lr2 rfl ?_))
     obtain ⟨g6, h⟩ := grd h
     replace h := bnd h; obtain ⟨x6, hxx6, h⟩ := h
     refine WL.q [] rfl rfl rfl (q_idx tbOk rfl (by exact trivial) g6 (map_get (f := eApiClassStep) hxx6)) ?_
     refine lr3 rfl (WL.nil (bn (WC.region (lr3 rfl (WL.nil ?_)))))
     cases h
     exact WQ.next [] ((IntKind.i64.wrap (i + (1 : Int))), x6.Chosen) sub (hn1 _ hf1)
   ·replace h := ite_f hc2 h
    refine WC.exit (WQ.thenExit ?_)
    cases h
    have he := he1 _ hf1
    subst he
    replace h := hk1
    try dsimp only at h
    refine eb ?_
    exact WQ.cut [] parent2 sub h
  ·intro parent h
   replace h : lawPath_j1 d v v4 parent = some _ := h
   unfold lawPath_j1 at h
   try dsimp only [slotsOf]
   refine WC.seq (WC.order mixed ?_)
   refine wr 1 rfl trivial ?_
   refine WR.q [] rfl rfl rfl (q_ev tbOk (.v (.int .i64 (v4.2.1.length : Int))) rfl (by exact trivial) (by exact lenT)) ?_
   refine wr 3 rfl (by exact sideR) ?_
   refine WR.gq [] rfl rfl rfl rfl (fun hg => q_ev tbOk (.v (.int .i64 (v4.2.1.length : Int))) rfl (by exact sideR) (by exact lenT)) ?_
   refine wr 10 rfl (by exact sideR) ?_
   replace h := bnd h; obtain ⟨v6, hvv6, h⟩ := h
   refine WR.gcall0 fn23 rfl rfl rfl rfl rfl (fun _ => (by exact sideR)) rfl (fun hg => (day10_con hw (ite_t hg hvv6))) ?_
   refine wr 1 rfl (by exact sideR) ?_
   replace h := bnd h; obtain ⟨v7, hvv7, h⟩ := h
   refine WR.gcall0 fn41 rfl rfl rfl rfl rfl (fun _ => (by exact sideR)) rfl (fun hg => (nomBelow_con hw (ite_t hg hvv7))) ?_
   refine WR.gq [] rfl rfl rfl rfl (fun hg => q_ev tbOk (.v (.int .i64 (v7.length : Int))) rfl (by exact sideR) (by exact lenT)) ?_
   refine wr 3 rfl (by exact sideR) ?_
   replace h := bnd h; obtain ⟨v8, hvv8, h⟩ := h
   refine WR.gcall0 fn26 rfl rfl rfl rfl rfl (fun _ => (by exact sideR)) rfl (fun hg => (awake10_con hw (ite_t hg hvv8))) ?_
   refine wr 2 rfl (by exact sideR) ?_
   refine WR.nil (by kernel_rfl) (WQ.thenNormal (WC.ret ?_))
   cases h
   exact rt tbOk hR
theorem lawExcluded_con {wg : World} (hw : WG wg) {l : (List Int)} {m1 : (List Int)} {d : Int} {r : Bool} (h : lawExcluded l m1 d = some r) : Con Tryz.prog wg gl 8 [.v (.sl 1 (l.map eInt_i64)), .v (.sl 1 (m1.map eInt_i64)), .v (.int .i64 d)] [] (.v (.bool r)) [] := by
 unfold lawExcluded at h
 refine con_of_WC (S := slotsOf 0 _) Tryz.func8 rfl Tryz.ntmps8 rfl (fun t x hx => (slotsOf_get hx).2) ?_
 intro F L w ρ0 R hR
 try dsimp only [slotsOf]
 refine sr (lr1 rfl (ns (lr1 rfl ?_)))
 replace h := bnd h; obtain ⟨v, hvv, h⟩ := h
 refine WL.call0 fn13 rfl rfl rfl rfl (by exact trivial) rfl (madeNom_con hw hvv) ?_
 refine lr1 rfl ?_
 replace h := bnd h; obtain ⟨v2, hvv2, h⟩ := h
 refine WL.call0 fn21 rfl rfl rfl rfl (by exact trivial) rfl (madeGood_con hw hvv2) ?_
 refine lr4 rfl (nn (WC.seq (WC.order mixed ?_)))
 refine wr 2 rfl trivial ?_
 replace h := bnd h; obtain ⟨v3, hvv3, h⟩ := h
 refine WR.call0 fn23 rfl rfl rfl rfl (by exact trivial) rfl (day10_con hw hvv3) ?_
 refine wr 1 rfl trivial ?_
 replace h := bnd h; obtain ⟨v4, hvv4, h⟩ := h
 refine WR.call0 fn22 rfl rfl rfl rfl (by exact trivial) rfl (classify_con hw hvv4) ?_
 refine wr 7 rfl trivial ?_
 refine WR.nil (by kernel_rfl) (WQ.thenNormal (WC.seq (sr (lr2 rfl (nn ?_)))))
 refine WC.cond rfl (fun hc1 => ?_) (fun hc1 => ?_)
 ·replace h := ite_t hc1 h
  refine sr ?_
  replace h := bnd h; obtain ⟨v5, hvv5, h⟩ := h
  refine WL.call0 fn26 rfl rfl rfl rfl (by exact trivial) rfl (awake10_con hw hvv5) ?_
  refine lr1 rfl (nr (WQ.thenRet ?_))
  cases h
  exact rt tbOk hR
 ·replace h := ite_f hc1 h
  refine kn (WC.seq (sr (lr1 rfl (nn ?_))))
  refine WC.thenCut (X := Unit) (fun gG => ⟨[(9, .v (.str v4.1)), (8, .p 8 0), (7, .p 7 0)], [(8, .blk 43 [.v (.sl 1 (v2.Words.map eStr)), .v (.sl 2 (v2.Materials.map eApiMaterial)), .v (.sl 2 (v2.Parts.map eApiComponent)), .v (.bool v2.Incomplete)]), (7, .blk 28 [.v (.sl 5 (v.Entries.map eApiCodeEntry)), .v (.sl 3 (v.Notes.map eApiCodeNote))])]⟩) (fun gG => lawExcluded_j1 v v2 v4 = some r) ?_ ?_
  ·refine WC.block ?_
   obtain ⟨eQ1, hl1, hk1⟩ := bnd h
   clear h
   refine WC.loop (σ := Int) (τ := ((Bool) ⊕ (Unit))) (fun sS => ⟨[(12, .v (.int .i64 sS)), (10, .v (.sl 5 (v4.2.1.map eApiClassStep))), (9, .v (.str v4.1)), (8, .p 8 0), (7, .p 7 0)], [(8, .blk 43 [.v (.sl 1 (v2.Words.map eStr)), .v (.sl 2 (v2.Materials.map eApiMaterial)), .v (.sl 2 (v2.Parts.map eApiComponent)), .v (.bool v2.Incomplete)]), (7, .blk 28 [.v (.sl 5 (v.Entries.map eApiCodeEntry)), .v (.sl 3 (v.Notes.map eApiCodeNote))])]⟩) (lawExcluded_b1 v v2 v4) [] (0 : Int) hl1 sub ?_
   intro i m hn1 he1 hx1
   obtain ⟨o1, hf1⟩ := some_of hx1
   have h := hf1
   unfold lawExcluded_b1 at h
   try dsimp only [slotsOf]
   refine WC.seq (sr (lr2 rfl ?_))
   refine WL.q [] rfl rfl rfl (q_ev tbOk (.v (.int .i64 (v4.2.1.length : Int))) rfl (by exact trivial) (by exact lenT)) ?_
   refine lr1 rfl (nn ?_)
   refine WC.cond rfl (fun hc2 => ?_) (fun hc2 => ?_)
   ·replace h := ite_t hc2 h
    refine kn (sb (sr (lr2 rfl ?_)))
    obtain ⟨g1, h⟩ := grd h
    replace h := bnd h; obtain ⟨x2, hxx2, h⟩ := h
    refine WL.q [] rfl rfl rfl (q_idx tbOk rfl (by exact trivial) g1 (map_get (f := eApiClassStep) hxx2)) ?_
    refine lr 6 rfl (by exact sideR) ?_
    obtain ⟨g2, h⟩ := grd h
    refine WL.gq [] rfl rfl rfl rfl (fun hg => q_idx tbOk rfl (by exact sideR) (g2 hg).1 (map_getD (f := eApiClassStep) (g2 hg).2 (g2 hg).1)) ?_
    refine lr 7 rfl (by exact sideR) ?_
    obtain ⟨g3, h⟩ := grd h
    refine WL.gq [] rfl rfl rfl rfl (fun hg => q_idx tbOk rfl (by exact sideR) (g3 hg).1 (map_getD (f := eApiClassStep) (g3 hg).2 (g3 hg).1)) ?_
    refine lr 8 rfl (by exact sideR) ?_
    refine nn ?_
    refine WC.cond rfl (fun hc3 => ?_) (fun hc3 => ?_)
    ·replace h := ite_t hc3 h
     refine sr ?_
     replace h := bnd h; obtain ⟨v9, hvv9, h⟩ := h
     refine WL.call0 fn26 rfl rfl rfl rfl (by exact trivial) rfl (awake10_con hw hvv9) ?_
     refine lr1 rfl (nr (rb ?_))
     cases h
     have he := he1 _ hf1
     subst he
     have h : some v9 = some _ := hk1
     refine WQ.thenRet (rb ?_)
     cases h
     exact rt tbOk hR
    ·replace h := ite_f hc3 h
     refine WC.skip (bn (WC.region (lr3 rfl (WL.nil ?_))))
     cases h
     exact WQ.next [] (IntKind.i64.wrap (i + (1 : Int))) sub (hn1 _ hf1)
   ·replace h := ite_f hc2 h
    refine WC.exit (WQ.thenExit ?_)
    cases h
    have he := he1 _ hf1
    subst he
    replace h := hk1
    try dsimp only at h
    refine eb ?_
    exact WQ.cut [] () sub h
  ·intro _ h
   replace h : lawExcluded_j1 v v2 v4 = some _ := h
   unfold lawExcluded_j1 at h
   try dsimp only [slotsOf]
   refine sr (lr4 rfl ?_)
   replace h := bnd h; obtain ⟨v6, hvv6, h⟩ := h
   refine WL.call0 fn35 rfl rfl rfl rfl (by exact trivial) rfl (nomExcluded_con hw hvv6) ?_
   refine lr2 rfl ?_
   replace h := bnd h; obtain ⟨v7, hvv7, h⟩ := h
   refine WL.gcall0 fn26 rfl rfl rfl rfl rfl (fun _ => (by exact sideR)) rfl (fun hg => (awake10_con hw (ite_t hg hvv7))) ?_
   refine lr 2 rfl (by exact sideR) ?_
   refine nr ?_
   cases h
   exact rt tbOk hR
theorem lawOtherDays_con {wg : World} (hw : WG wg) {l : (List Int)} {m1 : (List Int)} {d : Int} {at_ : Int} {r : Bool} (h : lawOtherDays l m1 d at_ = some r) : Con Tryz.prog wg gl 9 [.v (.sl 1 (l.map eInt_i64)), .v (.sl 1 (m1.map eInt_i64)), .v (.int .i64 d), .v (.int .i64 at_)] [] (.v (.bool r)) [] := by
 unfold lawOtherDays at h
 refine con_of_WC (S := slotsOf 0 _) Tryz.func9 rfl Tryz.ntmps9 rfl (fun t x hx => (slotsOf_get hx).2) ?_
 intro F L w ρ0 R hR
 try dsimp only [slotsOf]
 refine sr (lr1 rfl (ns (lr1 rfl ?_)))
 replace h := bnd h; obtain ⟨v, hvv, h⟩ := h
 refine WL.call0 fn13 rfl rfl rfl rfl (by exact trivial) rfl (madeNom_con hw hvv) ?_
 refine lr1 rfl ?_
 replace h := bnd h; obtain ⟨v2, hvv2, h⟩ := h
 refine WL.call0 fn21 rfl rfl rfl rfl (by exact trivial) rfl (madeGood_con hw hvv2) ?_
 refine lr4 rfl (ns (lr3 rfl ?_))
 refine WL.q [] rfl rfl rfl (q_ev tbOk (.v (.int .i64 (v.Entries.length : Int))) rfl (by exact trivial) (by exact lenT)) ?_
 replace h := bnd h; obtain ⟨v3, hvv3, h⟩ := h
 refine WL.call0 fn14 rfl rfl rfl rfl (by exact trivial) rfl (within_con hw hvv3) ?_
 refine lr1 rfl (nn (WC.seq (WC.seq (WC.order mixed ?_))))
 refine wr 3 rfl trivial ?_
 obtain ⟨g1, h⟩ := grd h
 replace h := bnd h; obtain ⟨x, hxx, h⟩ := h
 refine WR.q [] rfl rfl rfl (q_idx tbOk rfl (by exact trivial) g1 (map_get (f := eApiCodeEntry) hxx)) ?_
 refine wr 3 rfl trivial ?_
 replace h := bnd h; obtain ⟨v4, hvv4, h⟩ := h
 refine WR.call0 fn23 rfl rfl rfl rfl (by exact trivial) rfl (day10_con hw hvv4) ?_
 refine wr 3 rfl (by exact sideR) ?_
 replace h := bnd h; obtain ⟨v5, hvv5, h⟩ := h
 refine WR.gcall0 fn23 rfl rfl rfl rfl rfl (fun _ => (by exact sideR)) rfl (fun hg => (day10_con hw (ite_t hg hvv5))) ?_
 refine wr 3 rfl (by exact sideR) ?_
 obtain ⟨g2, h⟩ := grd h
 refine WR.gq [] rfl rfl rfl rfl (fun hg => q_idx tbOk rfl (by exact sideR) (g2 hg).1 (map_getD (f := eApiCodeEntry) (g2 hg).2 (g2 hg).1)) ?_
 refine wr 4 rfl (by exact sideR) ?_
 refine WR.nil (by kernel_rfl) (WQ.thenNormal ?_)
 refine WC.cond rfl (fun hc1 => ?_) (fun hc1 => ?_)
 ·replace h := ite_t hc1 h
  refine sr ?_
  replace h := bnd h; obtain ⟨v6, hvv6, h⟩ := h
  refine WL.call0 fn26 rfl rfl rfl rfl (by exact trivial) rfl (awake10_con hw hvv6) ?_
  refine lr1 rfl (nr (WQ.thenRet ?_))
  cases h
  exact rt tbOk hR
 ·replace h := ite_f hc1 h
  refine kn (WC.seq (WC.order mixed ?_))
  refine WR.buildRow tbOk (([] : (List ApiCodeEntry)).map eApiCodeEntry) rfl rfl rfl rfl (by exact trivial) rfl rfl ?_
  refine wr 3 rfl trivial ?_
  obtain ⟨g3, h⟩ := grd h
  refine WR.q [] rfl rfl rfl (q_ev tbOk (.v (.sl 5 (((v.Entries.take v3.toNat).drop (0 : Int).toNat).map eApiCodeEntry))) rfl (by exact sideR) (by exact tdT)) ?_
  obtain ⟨g4, h⟩ := grd h
  refine WR.append tbOk (((v.Entries.take v3.toNat).drop (0 : Int).toNat).map eApiCodeEntry) [54, 49] ap25 rfl rfl rfl rfl (fun _ e => by cases e; rfl) (by exact trivial) (map_cells (f := eApiCodeEntry) (xs := ((v.Entries.take v3.toNat).drop (0 : Int).toNat)) fun _ => rfl) (by have := g4; simp only [List.length_map, List.length_nil, List.length_cons] at this ⊢; omega) rfl rfl rfl rfl rfl ?_
  refine wr 4 rfl trivial ?_
  obtain ⟨g5, h⟩ := grd h
  refine WR.q [] rfl rfl rfl (q_ev tbOk (.v (.sl 5 ((v.Entries.drop (IntKind.i64.wrap (v3 + (1 : Int))).toNat).map eApiCodeEntry))) rfl (by exact sideR) (by exact tdT)) ?_
  obtain ⟨g6, h⟩ := grd h
  refine WR.appendV (k := 54) tbOk ((((v.Entries.take v3.toNat).drop (0 : Int).toNat) ++ (v.Entries.drop (IntKind.i64.wrap (v3 + (1 : Int))).toNat)).map eApiCodeEntry) ap25 rfl rfl rfl rfl rfl (by exact trivial) (map_cells (f := eApiCodeEntry) (xs := (v.Entries.drop (IntKind.i64.wrap (v3 + (1 : Int))).toNat)) fun _ => rfl) (by have := g6; simp only [List.length_map, List.length_nil, List.length_cons] at this ⊢; omega) (by simp only [List.map_append]; try rfl) rfl ?_
  refine wr 5 rfl trivial ?_
  refine WR.nil (by kernel_rfl) (WQ.thenNormal (WC.seq (sr (lr1 rfl ?_))))
  replace h := bnd h; obtain ⟨v7, hvv7, h⟩ := h
  refine WL.call0 fn36 rfl rfl rfl rfl (by exact trivial) rfl (nomValidate_con hw hvv7) ?_
  refine lr1 rfl (nn ?_)
  refine WC.cond rfl (fun hc2 => ?_) (fun hc2 => ?_)
  ·replace h := ite_t hc2 h
   refine sr ?_
   replace h := bnd h; obtain ⟨v8, hvv8, h⟩ := h
   refine WL.call0 fn26 rfl rfl rfl rfl (by exact trivial) rfl (awake10_con hw hvv8) ?_
   refine lr1 rfl (nr (WQ.thenRet ?_))
   cases h
   exact rt tbOk hR
  ·replace h := ite_f hc2 h
   refine kn (WC.seq (WC.order mixed ?_))
   refine wr 2 rfl trivial ?_
   replace h := bnd h; obtain ⟨v9, hvv9, h⟩ := h
   refine WR.call0 fn23 rfl rfl rfl rfl (by exact trivial) rfl (day10_con hw hvv9) ?_
   refine wr 1 rfl trivial ?_
   replace h := bnd h; obtain ⟨v10, hvv10, h⟩ := h
   refine WR.call0 fn22 rfl rfl rfl rfl (by exact trivial) rfl (classify_con hw hvv10) ?_
   refine wr 7 rfl trivial ?_
   refine WR.nil (by kernel_rfl) (WQ.thenNormal (WC.seq (WC.order mixed ?_)))
   refine wr 2 rfl trivial ?_
   replace h := bnd h; obtain ⟨v11, hvv11, h⟩ := h
   refine WR.call0 fn23 rfl rfl rfl rfl (by exact trivial) rfl (day10_con hw hvv11) ?_
   refine wr 1 rfl trivial ?_
   replace h := bnd h; obtain ⟨v12, hvv12, h⟩ := h
   refine WR.call0 fn22 rfl rfl rfl rfl (by exact trivial) rfl (classify_con hw hvv12) ?_
   refine wr 7 rfl trivial ?_
   refine WR.nil (by kernel_rfl) (WQ.thenNormal (sr ?_))
   refine lr 11 rfl (by exact sideR) ?_
   replace h := bnd h; obtain ⟨v13, hvv13, h⟩ := h
   refine WL.gcall0 fn25 rfl rfl rfl rfl rfl (fun _ => (by exact sideR)) rfl (fun hg => (sameSteps_con hw (ite_t hg hvv13))) ?_
   refine lr 2 rfl (by exact sideR) ?_
   replace h := bnd h; obtain ⟨v14, hvv14, h⟩ := h
   refine WL.gcall0 fn26 rfl rfl rfl rfl rfl (fun _ => (by exact sideR)) rfl (fun hg => (awake10_con hw (ite_t hg hvv14))) ?_
   refine lr 2 rfl (by exact sideR) ?_
   refine nr ?_
   cases h
   exact rt tbOk hR
end Go.Proofs.YtfkefolbabniaaaGreatDoor
end

section
set_option linter.unusedVariables false
set_option linter.unusedSimpArgs false
namespace Go.C
open Go.V
theorem loop_step {σ τ : Type} {f : σ → Option (σ ⊕ τ)} {s x : σ} (h : f s = some (.inl x)) : loopO f s = loopO f x := by rw [loopO_eq, h]
theorem loop_stop {σ τ : Type} {f : σ → Option (σ ⊕ τ)} {s : σ} {r : τ} (h : f s = some (.inr r)) : loopO f s = some r := by rw [loopO_eq, h]
/-- A loop over a list, that may be left early with one value. -/
theorem loop_list {α β σ τ : Type} (xs : List α) (f : σ → Option (σ ⊕ τ)) (mk : Nat → β → σ) (step : β → α → β) (p : Nat → Bool) (bad : τ) (r : β → τ) (I : Nat → β → Prop)
    (hI : ∀ i x b, I i b → xs[i]? = some x → I (i + 1) (step b x))
    (hgo : ∀ i x b, I i b → xs[i]? = some x → p i = true → f (mk i b) = some (.inl (mk (i + 1) (step b x))))
    (hbad : ∀ i x b, I i b → xs[i]? = some x → p i = false → f (mk i b) = some (.inr bad))
    (hend : ∀ b, I xs.length b → f (mk xs.length b) = some (.inr (r b))) (b0 : β) (h0 : I 0 b0) :
    loopO f (mk 0 b0) = some (if (List.range xs.length).all p = true then r (xs.foldl step b0) else bad) := by
  have key : ∀ (m k : Nat) (b : β), k + m = xs.length → I k b → loopO f (mk k b) = some (if (List.range' k m).all p = true then r ((xs.drop k).foldl step b) else bad) := by
    intro m
    induction m with
    | zero =>
      intro k b hk hb
      have : k = xs.length := by omega
      subst this
      rw [loop_stop (hend b hb)]
      simp
    | succ m ih =>
      intro k b hk hb
      have hlt : k < xs.length := by omega
      have hx : xs[k]? = some xs[k] := List.getElem?_eq_getElem hlt
      cases hp : p k with
      | true =>
        rw [loop_step (hgo k _ b hb hx hp), ih (k + 1) _ (by omega) (hI k _ b hb hx)]
        rw [List.drop_eq_getElem_cons hlt, List.foldl_cons, List.range'_succ, List.all_cons, hp, Bool.true_and]
      | false =>
        rw [loop_stop (hbad k _ b hb hx hp), List.range'_succ, List.all_cons, hp, Bool.false_and]
        simp
  have := key xs.length 0 b0 (by omega) h0
  rwa [← List.range_eq_range', List.drop_zero] at this
/-- A loop over a list that always goes to its end. -/
theorem loop_fold {α β σ τ : Type} (xs : List α) (f : σ → Option (σ ⊕ τ)) (mk : Nat → β → σ) (step : β → α → β) (r : β → τ) (I : Nat → β → Prop)
    (hI : ∀ i x b, I i b → xs[i]? = some x → I (i + 1) (step b x))
    (hgo : ∀ i x b, I i b → xs[i]? = some x → f (mk i b) = some (.inl (mk (i + 1) (step b x))))
    (hend : ∀ b, I xs.length b → f (mk xs.length b) = some (.inr (r b))) (b0 : β) (h0 : I 0 b0) :
    loopO f (mk 0 b0) = some (r (xs.foldl step b0)) := by
  have key : ∀ (m k : Nat) (b : β), k + m = xs.length → I k b → loopO f (mk k b) = some (r ((xs.drop k).foldl step b)) := by
    intro m
    induction m with
    | zero =>
      intro k b hk hb
      have : k = xs.length := by omega
      subst this
      rw [loop_stop (hend b hb)]
      simp
    | succ m ih =>
      intro k b hk hb
      have hlt : k < xs.length := by omega
      have hx : xs[k]? = some xs[k] := List.getElem?_eq_getElem hlt
      rw [loop_step (hgo k _ b hb hx), ih (k + 1) _ (by omega) (hI k _ b hb hx), List.drop_eq_getElem_cons hlt, List.foldl_cons]
  have := key xs.length 0 b0 (by omega) h0
  rwa [List.drop_zero] at this
theorem w64 {n : Int} (h : -9223372036854775808 ≤ n ∧ n ≤ 9223372036854775807) : IntKind.i64.wrap n = n := IntWalk.i64_in n h
theorem bl_total : ∀ a b : List UInt8, (Op.bytesLess a b || a == b) = !Op.bytesLess b a
 | [], [] => by simp [Op.bytesLess]
 | [], y :: b => by simp [Op.bytesLess]
 | x :: a, [] => by simp [Op.bytesLess]
 | x :: a, y :: b => by
  have ih := bl_total a b
  simp only [Op.bytesLess]
  by_cases h1 : x < y
  ·have h2 : ¬ y < x := fun h => absurd (UInt8.lt_trans h1 h) (UInt8.lt_irrefl x)
   have h3 : x ≠ y := fun h => by subst h; exact UInt8.lt_irrefl x h1
   simp [h1, h2, h3, Ne.symm h3]
  ·by_cases h2 : y < x
   ·have h3 : x ≠ y := fun h => by subst h; exact UInt8.lt_irrefl x h2
    simp [h1, h2, h3, Ne.symm h3]
   ·have h3 : x = y := UInt8.le_antisymm (UInt8.not_lt.1 h2) (UInt8.not_lt.1 h1)
    subst h3
    simp [ih]
/-- A letter; a word. -/
def isL (b : UInt8) : Bool := decide (97 ≤ b.toNat) && decide (b.toNat ≤ 122)
def isW (s : List UInt8) : Bool := decide (1 ≤ s.length) && (decide (s.length ≤ 12) && (List.range s.length).all fun i => isL (s.getD i 0))
theorem rune_low (s : List UInt8) (p : Nat) (h : p < s.length) (hb : (s.getD p 0).toNat < 128) : runeI s p = ((s.getD p 0).toNat : Int) ∧ runeW s p = 1 := by
 have hs : p < (⟨⟨s⟩⟩ : ByteArray).size := h
 have e : (⟨⟨s⟩⟩ : ByteArray)[p]'hs = s.getD p 0 := by
  show s[p] = _
  simp [List.getD_eq_getElem?_getD, List.getElem?_eq_getElem h]
 have := decode_ascii ⟨⟨s⟩⟩ p hs (by rw [e]; exact hb)
 unfold runeI runeW
 rw [this, e]
 exact ⟨rfl, rfl⟩
theorem rune_high (s : List UInt8) (p : Nat) (h : p < s.length) (hb : 128 ≤ (s.getD p 0).toNat) : 128 ≤ runeI s p := by
 have hs : p < (⟨⟨s⟩⟩ : ByteArray).size := h
 have e : (⟨⟨s⟩⟩ : ByteArray)[p]'hs = s.getD p 0 := by
  show s[p] = _
  simp [List.getD_eq_getElem?_getD, List.getElem?_eq_getElem h]
 have := (decode_high ⟨⟨s⟩⟩ p hs (by rw [e]; exact hb)).1
 unfold runeI
 omega
theorem rng_f {a lo hi : Int} (h : lo ≤ a ∧ a ≤ hi) : ¬ ((bif (decide (a < lo)) then true else (decide (hi < a))) = true) := by
 have e1 : ¬ a < lo := by omega
 have e2 : ¬ hi < a := by omega
 simp [e1, e2]
theorem rng_t {a lo hi : Int} (h : a < lo ∨ hi < a) : (bif (decide (a < lo)) then true else (decide (hi < a))) = true := by
 rcases h with h | h
 ·simp [h]
 ·simp [h]
end Go.C
end
