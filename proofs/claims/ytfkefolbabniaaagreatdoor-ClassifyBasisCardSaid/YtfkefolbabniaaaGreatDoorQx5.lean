/- Packed by pack.py. -/
import Derived.Test.YtfkefolbabniaaaGreatDoorQx3
import Derived.Test.YtfkefolbabniaaaGreatDoorQx4
import Derived.Sort.Grow
import Derived.Sort.EncStr
section
set_option linter.unusedVariables false
set_option linter.unusedSimpArgs false
set_option maxHeartbeats 4000000
set_option maxRecDepth 20000
namespace Go.Proofs.YtfkefolbabniaaaGreatDoor
open Go.V Go.C
theorem sIndex_con {wg : World} (hw : WG wg) {s : (List Str)} {v : Str} {r : Int} (h : sIndex s v = some r) : Con Tryz.prog wg gl 156 [.v (.sl 1 (s.map eStr)), .v (.str v)] [] (.v (.int .i64 r)) [] := by
 unfold sIndex at h
 refine con_of_WC (S := slotsOf 0 _) Tryz.func156 rfl Tryz.ntmps156 rfl (fun t x hx => (slotsOf_get hx).2) ?_
 intro F L w ρ0 R hR
 try dsimp only [slotsOf]
 refine sr (lr1 rfl (nn (WC.seq (sr (lr1 rfl ?_)))))
 refine WL.q [] rfl rfl rfl (q_ev tbOk (.v (.int .i64 (s.length : Int))) rfl (by exact trivial) (by exact lenT)) ?_
 refine lr1 rfl (nn ?_)
 refine WC.thenCut (X := Unit) (fun gG => ⟨[], []⟩) (fun gG => sIndex_j1  = some r) ?_ ?_
 ·refine WC.block ?_
  obtain ⟨eQ1, hl1, hk1⟩ := bnd h
  clear h
  refine WC.loop (σ := Int) (τ := ((Int) ⊕ (Unit))) (fun sS => ⟨[(8, .v (.int .i64 sS)), (7, .v (.int .i64 (s.length : Int))), (0, .v (.sl 1 (s.map eStr))), (1, .v (.str v))], []⟩) (sIndex_b1 s v) [] (0 : Int) hl1 sub ?_
  intro t8 m hn1 he1 hx1
  obtain ⟨o1, hf1⟩ := some_of hx1
  have h := hf1
  unfold sIndex_b1 at h
  try dsimp only [slotsOf]
  refine sr (lr1 rfl (nn (WC.seq ?_)))
  refine WC.cond rfl (fun hc1 => ?_) (fun hc1 => ?_)
  ·replace h := ite_t hc1 h
   refine kn (sb (sr (lr2 rfl (ns (lr3 rfl ?_)))))
   obtain ⟨g1, h⟩ := grd h
   replace h := bnd h; obtain ⟨x2, hxx2, h⟩ := h
   refine WL.q [] rfl rfl rfl (q_idx tbOk rfl (by exact trivial) g1 (map_get (f := eStr) hxx2)) ?_
   refine lr2 rfl (nn ?_)
   refine WC.cond rfl (fun hc2 => ?_) (fun hc2 => ?_)
   ·replace h := ite_t hc2 h
    refine sr (lr2 rfl (nr (rb ?_)))
    cases h
    have he := he1 _ hf1
    subst he
    have h : some t8 = some _ := hk1
    refine WQ.thenRet (rb ?_)
    cases h
    exact rt tbOk hR
   ·replace h := ite_f hc2 h
    refine WC.skip (bn (WC.region (lr2 rfl (WL.nil ?_))))
    cases h
    exact WQ.next [] (IntKind.i64.wrap (t8 + (1 : Int))) sub (hn1 _ hf1)
  ·replace h := ite_f hc1 h
   refine WC.exit (WQ.thenExit ?_)
   cases h
   have he := he1 _ hf1
   subst he
   replace h := hk1
   try dsimp only at h
   refine eb ?_
   exact WQ.cut [] () sub h
 ·intro _ h
  replace h : sIndex_j1 = some _ := h
  unfold sIndex_j1 at h
  try dsimp only [slotsOf]
  refine sr (lr1 rfl (nr ?_))
  cases h
  exact rt tbOk hR
theorem sContains_con {wg : World} (hw : WG wg) {s : (List Str)} {v : Str} {r : Bool} (h : sContains s v = some r) : Con Tryz.prog wg gl 113 [.v (.sl 1 (s.map eStr)), .v (.str v)] [] (.v (.bool r)) [] := by
 unfold sContains at h
 refine con_of_WC (S := slotsOf 0 _) Tryz.func113 rfl Tryz.ntmps113 rfl (fun t x hx => (slotsOf_get hx).2) ?_
 intro F L w ρ0 R hR
 try dsimp only [slotsOf]
 refine sr (lr1 rfl (ns (lr2 rfl ?_)))
 replace h := bnd h; obtain ⟨v2, hvv2, h⟩ := h
 refine WL.call0 fn156 rfl rfl rfl rfl (by exact trivial) rfl (sIndex_con hw hvv2) ?_
 refine lr2 rfl (nr ?_)
 cases h
 exact rt tbOk hR
theorem memberIn_con {wg : World} (hw : WG wg) {s : Str} {a1 : (List Str)} {r : Bool} (h : memberIn s a1 = some r) : Con Tryz.prog wg gl 163 [.v (.str s), .p 1 0] [(1, .blk 31 [.v (.sl 1 (a1.map eStr))])] (.v (.bool r)) [(1, .blk 31 [.v (.sl 1 (a1.map eStr))])] := by
 unfold memberIn at h
 refine con_of_WC (S := slotsOf 0 _) Tryz.func163 rfl Tryz.ntmps163 rfl (fun t x hx => (slotsOf_get hx).2) ?_
 intro F L w ρ0 R hR
 try dsimp only [slotsOf]
 refine sr (lr1 rfl (ns (lr2 rfl ?_)))
 replace h := bnd h; obtain ⟨v, hvv, h⟩ := h
 refine WL.call0 fn113 rfl rfl rfl rfl (by exact trivial) rfl (sContains_con hw hvv) ?_
 refine lr1 rfl (nr ?_)
 cases h
 exact rt tbOk hR
theorem member_con {wg : World} (hw : WG wg) {l : (List Str)} {r : (List Str)} (h : member l = some r) : Con Tryz.prog wg gl 133 [.v (.sl 1 (l.map eStr))] [] (.fn 163 [.p 500 0]) [(500, .blk 31 [.v (.sl 1 (r.map eStr))])] := by
 unfold member at h
 refine con_of_WC (S := slotsOf 0 _) Tryz.func133 rfl Tryz.ntmps133 rfl (fun t x hx => (slotsOf_get hx).2) ?_
 intro F L w ρ0 R hR
 try dsimp only [slotsOf]
 refine sr (lr2 rfl (nn (WC.seq (sr (lr1 rfl ?_)))))
 refine WL.q [] rfl rfl rfl (q_ev tbOk (.v (.int .i64 (l.length : Int))) rfl (by exact trivial) (by exact lenT)) ?_
 refine lr1 rfl (nn ?_)
 refine WC.cond rfl (fun hc1 => ?_) (fun hc1 => ?_)
 ·replace h := ite_t hc1 h
  refine sr (lr2 rfl (nr (WQ.thenRet ?_)))
  cases h
  exact WQ.rets tbOk hR [(500, 1)] (.inl rfl) rfl rfl (Le.refl _) (by exact eqs) rfl rfl rfl rfl
 ·replace h := ite_f hc1 h
  refine kn (WC.seq ?_)
  cases h
theorem subset_con {wg : World} (hw : WG wg) {a : (List Str)} {b : (List Str)} {r : Bool} (h : subset a b = some r) : Con Tryz.prog wg gl 85 [.v (.sl 1 (a.map eStr)), .v (.sl 1 (b.map eStr))] [] (.v (.bool r)) [] := by
 unfold subset at h
 refine con_of_WC (S := slotsOf 0 _) Tryz.func85 rfl Tryz.ntmps85 rfl (fun t x hx => (slotsOf_get hx).2) ?_
 intro F L w ρ0 R hR
 try dsimp only [slotsOf]
 refine sr (lr1 rfl (ns (lr1 rfl ?_)))
 replace h := bnd h; obtain ⟨v, hvv, h⟩ := h
 refine WL.callO [] [(500, 9)] [9] fn133 rfl rfl rfl rfl (by exact trivial) (member_con hw hvv) rfl rfl (by exact trivial) rfl rfl rfl rfl rfl rfl ?_
 refine lr1 rfl (nn (WC.seq (sr (lr1 rfl ?_))))
 refine WL.q [] rfl rfl rfl (q_ev tbOk (.v (.int .i64 (a.length : Int))) rfl (by exact trivial) (by exact lenT)) ?_
 refine lr1 rfl (nn ?_)
 refine WC.thenCut (X := Unit) (fun gG => ⟨[], []⟩) (fun gG => subset_j1  = some r) ?_ ?_
 ·refine WC.block ?_
  obtain ⟨eQ1, hl1, hk1⟩ := bnd h
  clear h
  refine WC.loop (σ := Int) (τ := ((Bool) ⊕ (Unit))) (fun sS => ⟨[(12, .v (.int .i64 sS)), (11, .v (.int .i64 (a.length : Int))), (10, .v (.sl 1 (a.map eStr))), (5, .fn 163 [.p 9 0])], [(9, .blk 31 [.v (.sl 1 (v.map eStr))])]⟩) (subset_b1 a v) [] (0 : Int) hl1 sub ?_
  intro t12 m hn1 he1 hx1
  obtain ⟨o1, hf1⟩ := some_of hx1
  have h := hf1
  unfold subset_b1 at h
  try dsimp only [slotsOf]
  refine sr (lr1 rfl (nn (WC.seq ?_)))
  refine WC.cond rfl (fun hc1 => ?_) (fun hc1 => ?_)
  ·replace h := ite_t hc1 h
   refine kn (sb (sr ?_))
   obtain ⟨g1, h⟩ := grd h
   replace h := bnd h; obtain ⟨x2, hxx2, h⟩ := h
   refine WL.q [] rfl rfl rfl (q_idx tbOk rfl (by exact trivial) g1 (map_get (f := eStr) hxx2)) ?_
   refine lr2 rfl (ns (lr2 rfl ?_))
   replace h := bnd h; obtain ⟨v3, hvv3, h⟩ := h
   refine WL.callO [(1, 9)] [(1, 9)] [9] fn163 rfl rfl rfl rfl (by exact trivial) (memberIn_con hw hvv3) rfl rfl (by exact eqs) rfl rfl rfl rfl rfl rfl ?_
   refine lr1 rfl (nn ?_)
   refine WC.cond rfl (fun hc2 => ?_) (fun hc2 => ?_)
   ·replace h := ite_t hc2 h
    refine sr (lr1 rfl (nr (rb ?_)))
    cases h
    have he := he1 _ hf1
    subst he
    have h : some false = some _ := hk1
    refine WQ.thenRet (rb ?_)
    cases h
    exact rt tbOk hR
   ·replace h := ite_f hc2 h
    refine WC.skip (bn (WC.region (lr2 rfl (WL.nil ?_))))
    cases h
    exact WQ.next [] (IntKind.i64.wrap (t12 + (1 : Int))) sub (hn1 _ hf1)
  ·replace h := ite_f hc1 h
   refine WC.exit (WQ.thenExit ?_)
   cases h
   have he := he1 _ hf1
   subst he
   replace h := hk1
   try dsimp only at h
   refine eb ?_
   exact WQ.cut [] () sub h
 ·intro _ h
  replace h : subset_j1 = some _ := h
  unfold subset_j1 at h
  try dsimp only [slotsOf]
  refine sr (lr1 rfl (nr ?_))
  cases h
  exact rt tbOk hR
theorem cloneWords_con {wg : World} (hw : WG wg) {l : (List (List Str))} {r : (List (List Str))} (h : cloneWords l = some r) : Con Tryz.prog wg gl 132 [.v (.sl 1 (l.map eLStr))] [] (.r 500) [(500, .row 31 1 (r.map eLStr))] := by
 unfold cloneWords at h
 refine con_of_WC (S := slotsOf 0 _) Tryz.func132 rfl Tryz.ntmps132 rfl (fun t x hx => (slotsOf_get hx).2) ?_
 intro F L w ρ0 R hR
 try dsimp only [slotsOf]
 refine sr (lr1 rfl (ns (lr1 rfl (nn (WC.seq (sr (lr1 rfl ?_)))))))
 refine WL.q [] rfl rfl rfl (q_ev tbOk (.v (.int .i64 (l.length : Int))) rfl (by exact trivial) (by exact lenT)) ?_
 refine lr1 rfl (nn ?_)
 refine WC.thenCut (X := (List (List Str))) (fun gG => ⟨[(3, .r 1003)], [(1003, .row 31 1 (gG.map eLStr))]⟩) (fun gG => cloneWords_j1 gG = some r) ?_ ?_
 ·refine WC.block ?_
  obtain ⟨eQ1, hl1, hk1⟩ := bnd h
  clear h
  refine WC.rowNil 3 1003 31 1 rfl rfl ?_
  refine WC.loop (σ := Int × (List (List Str))) (τ := ((List (List Str)))) (fun sS => ⟨[(8, .v (.int .i64 sS.1)), (7, .v (.int .i64 (l.length : Int))), (6, .v (.sl 1 (l.map eLStr))), (3, .r 1003)], [(1003, .row 31 1 (sS.2.map eLStr))]⟩) (cloneWords_b1 l) [] ((0 : Int), []) hl1 sub ?_
  rintro ⟨t82, result2⟩ m hn1 he1 hx1
  obtain ⟨o1, hf1⟩ := some_of hx1
  have h := hf1
  unfold cloneWords_b1 at h
  try dsimp only [slotsOf]
  refine sr (lr1 rfl (nn (WC.seq ?_)))
  refine WC.cond rfl (fun hc1 => ?_) (fun hc1 => ?_)
  ·replace h := ite_t hc1 h
   refine kn (sb (sr ?_))
   obtain ⟨g1, h⟩ := grd h
   replace h := bnd h; obtain ⟨x3, hxx3, h⟩ := h
   refine WL.q [] rfl rfl rfl (q_idx tbOk rfl (by exact trivial) g1 (map_get (f := eLStr) hxx3)) ?_
   refine lr2 rfl (nn (WC.region (lr2 rfl ?_)))
   replace h := bnd h; obtain ⟨v3, hvv3, h⟩ := h
   refine WL.call0 fn77 rfl rfl rfl rfl (by exact trivial) rfl (cloneS_con hw hvv3) ?_
   refine lr1 rfl ?_
   obtain ⟨g2, h⟩ := grd h
   refine WL.append tbOk ((result2 ++ [v3]).map eLStr) [16, 1003] ap52 rfl rfl rfl rfl (fun _ e => by cases e; rfl) (by exact trivial) (map_cells (f := eLStr) (xs := [v3]) fun _ => rfl) (by have := g2; simp only [List.length_map, List.length_nil, List.length_cons] at this ⊢; omega) rfl rfl (by simp only [List.map_append]; try rfl) rfl ?_
   refine lr1 rfl (WL.nil (bn (WC.region (lr2 rfl (WL.nil ?_)))))
   cases h
   exact WQ.next [(1003, 16)] ((IntKind.i64.wrap (t82 + (1 : Int))), (result2 ++ [v3])) sub (hn1 _ hf1)
  ·replace h := ite_f hc1 h
   refine WC.exit (WQ.thenExit ?_)
   cases h
   have he := he1 _ hf1
   subst he
   replace h := hk1
   try dsimp only at h
   refine eb ?_
   exact WQ.cut [] result2 sub h
 ·intro result h
  replace h : cloneWords_j1 result = some _ := h
  unfold cloneWords_j1 at h
  try dsimp only [slotsOf]
  refine sr (lr2 rfl (nr ?_))
  cases h
  exact WQ.rets tbOk hR [(500, 1003)] (.inl rfl) rfl rfl (Le.refl _) (by exact eqs) rfl rfl rfl rfl
theorem nomAt_con {wg : World} (hw : WG wg) {b : ApiNomenclature} {day : Int} {r : (List ApiCodeEntry)} (h : nomAt b day = some r) : Con Tryz.prog wg gl 95 [.v (.agg [.sl 5 (b.Entries.map eApiCodeEntry), .sl 3 (b.Notes.map eApiCodeNote)]), .v (.int .i64 day)] [] (.v (.sl 5 (r.map eApiCodeEntry))) [] := by
 unfold nomAt at h
 refine con_of_WC (S := slotsOf 0 _) Tryz.func95 rfl Tryz.ntmps95 rfl (fun t x hx => (slotsOf_get hx).2) ?_
 intro F L w ρ0 R hR
 try dsimp only [slotsOf]
 refine sr (lr2 rfl (ns (lr1 rfl (nn (WC.seq (sr (lr2 rfl ?_)))))))
 refine WL.q [] rfl rfl rfl (q_ev tbOk (.v (.int .i64 (b.Entries.length : Int))) rfl (by exact trivial) (by exact lenT)) ?_
 refine lr1 rfl (nn ?_)
 refine WC.thenCut (X := (List ApiCodeEntry)) (fun gG => ⟨[(5, .r 1005)], [(1005, .row 54 5 (gG.map eApiCodeEntry))]⟩) (fun gG => nomAt_j1 gG = some r) ?_ ?_
 ·refine WC.block ?_
  obtain ⟨eQ1, hl1, hk1⟩ := bnd h
  clear h
  refine WC.rowNil 5 1005 54 5 rfl rfl ?_
  refine WC.loop (σ := Int × (List ApiCodeEntry)) (τ := ((List ApiCodeEntry))) (fun sS => ⟨[(11, .v (.int .i64 sS.1)), (10, .v (.int .i64 (b.Entries.length : Int))), (9, .v (.sl 5 (b.Entries.map eApiCodeEntry))), (5, .r 1005), (1, .v (.int .i64 day))], [(1005, .row 54 5 (sS.2.map eApiCodeEntry))]⟩) (nomAt_b1 b day) [] ((0 : Int), []) hl1 sub ?_
  rintro ⟨t112, l3⟩ m hn1 he1 hx1
  obtain ⟨o1, hf1⟩ := some_of hx1
  have h := hf1
  unfold nomAt_b1 at h
  try dsimp only [slotsOf]
  refine sr (lr1 rfl (nn (WC.seq ?_)))
  refine WC.cond rfl (fun hc1 => ?_) (fun hc1 => ?_)
  ·replace h := ite_t hc1 h
   refine kn (WC.seq ?_)
   refine WC.thenCut (X := (List ApiCodeEntry)) (fun gG => ⟨[(5, .r 1005), (11, .v (.int .i64 t112)), (10, .v (.int .i64 (b.Entries.length : Int))), (9, .v (.sl 5 (b.Entries.map eApiCodeEntry))), (1, .v (.int .i64 day))], [(1005, .row 54 5 (gG.map eApiCodeEntry))]⟩) (fun gG => nomAt_j2 b day t112 gG = some o1) ?_ ?_
   ·refine WC.block (sr ?_)
    obtain ⟨g1, h⟩ := grd h
    replace h := bnd h; obtain ⟨x3, hxx3, h⟩ := h
    refine WL.q [] rfl rfl rfl (q_idx tbOk rfl (by exact trivial) g1 (map_get (f := eApiCodeEntry) hxx3)) ?_
    refine lr3 rfl (ns ?_)
    refine lr 10 rfl (by exact sideR) ?_
    refine nn ?_
    refine WC.cond rfl (fun hc2 => ?_) (fun hc2 => ?_)
    ·replace h := ite_t hc2 h
     refine sr (lr2 rfl ?_)
     replace h := bnd h; obtain ⟨v3, hvv3, h⟩ := h
     refine WL.callO [] [(500, 27)] [27] fn132 rfl rfl rfl rfl (by exact trivial) (cloneWords_con hw hvv3) rfl rfl (by exact trivial) rfl rfl rfl rfl rfl rfl ?_
     refine lr2 rfl (nn ?_)
     refine WC.publish 27 rfl rfl ?_
     refine WC.region (lr3 rfl ?_)
     obtain ⟨g2, h⟩ := grd h
     refine WL.append tbOk ((l3 ++ [(⟨x3.Code, x3.From, x3.To, v3, x3.Other⟩ : ApiCodeEntry)]).map eApiCodeEntry) [32, 1005] ap25 rfl rfl rfl rfl (fun _ e => by cases e; rfl) (by exact trivial) (map_cells (f := eApiCodeEntry) (xs := [(⟨x3.Code, x3.From, x3.To, v3, x3.Other⟩ : ApiCodeEntry)]) fun _ => rfl) (by have := g2; simp only [List.length_map, List.length_nil, List.length_cons] at this ⊢; omega) rfl rfl (by simp only [List.map_append]; try rfl) rfl ?_
     refine lr1 rfl (WL.nil (WQ.blockNormal ?_))
     exact WQ.cut [(1005, 32)] (l3 ++ [(⟨x3.Code, x3.From, x3.To, v3, x3.Other⟩ : ApiCodeEntry)]) sub h
    ·replace h := ite_f hc2 h
     refine WC.skip (WQ.blockNormal ?_)
     exact WQ.cut [] l3 sub h
   ·intro l6 h
    replace h : nomAt_j2 b day t112 l6 = some _ := h
    unfold nomAt_j2 at h
    try dsimp only [slotsOf]
    refine WC.region (lr2 rfl (WL.nil ?_))
    cases h
    exact WQ.next [] ((IntKind.i64.wrap (t112 + (1 : Int))), l6) sub (hn1 _ hf1)
  ·replace h := ite_f hc1 h
   refine WC.exit (WQ.thenExit ?_)
   cases h
   have he := he1 _ hf1
   subst he
   replace h := hk1
   try dsimp only at h
   refine eb ?_
   exact WQ.cut [] l3 sub h
 ·intro l h
  replace h : nomAt_j1 l = some _ := h
  unfold nomAt_j1 at h
  try dsimp only [slotsOf]
  refine sr (lr2 rfl (nr ?_))
  refine WQ.publish 1005 rfl rfl ?_
  cases h
  exact rt tbOk hR
theorem nomFind_con {wg : World} (hw : WG wg) {b : ApiNomenclature} {day : Int} {code : Str} {r : ApiCodeEntry × Bool} (h : nomFind b day code = some r) : Con Tryz.prog wg gl 39 [.v (.agg [.sl 5 (b.Entries.map eApiCodeEntry), .sl 3 (b.Notes.map eApiCodeNote)]), .v (.int .i64 day), .v (.str code)] [] (.tup [.v (.agg [.str r.1.Code, .int .i64 r.1.From, .int .i64 r.1.To, .sl 1 (r.1.Terms.map eLStr), .bool r.1.Other]), .v (.bool r.2)]) [] := by
 unfold nomFind at h
 refine con_of_WC (S := slotsOf 0 _) Tryz.func39 rfl Tryz.ntmps39 rfl (fun t x hx => (slotsOf_get hx).2) ?_
 intro F L w ρ0 R hR
 try dsimp only [slotsOf]
 refine sr (lr3 rfl (nn (WC.seq (sr (lr2 rfl ?_)))))
 replace h := bnd h; obtain ⟨v, hvv, h⟩ := h
 refine WL.call0 fn95 rfl rfl rfl rfl (by exact trivial) rfl (nomAt_con hw hvv) ?_
 refine WL.q [] rfl rfl rfl (q_ev tbOk (.v (.int .i64 (v.length : Int))) rfl (by exact trivial) (by exact lenT)) ?_
 refine lr1 rfl (nn ?_)
 refine WC.thenCut (X := Unit) (fun gG => ⟨[(6, .p 6 0)], [(6, .blk 54 [.v (.str []), .v (.int .i64 0), .v (.int .i64 0), .v (.raw (.slice none 0 0)), .v (.bool false)])]⟩) (fun gG => nomFind_j1  = some r) ?_ ?_
 ·refine WC.block ?_
  obtain ⟨eQ1, hl1, hk1⟩ := bnd h
  clear h
  refine WC.loop (σ := Int) (τ := ((ApiCodeEntry × Bool) ⊕ (Unit))) (fun sS => ⟨[(14, .v (.int .i64 sS)), (13, .v (.int .i64 (v.length : Int))), (12, .v (.sl 5 (v.map eApiCodeEntry))), (6, .p 6 0), (2, .v (.str code))], [(6, .blk 54 [.v (.str []), .v (.int .i64 0), .v (.int .i64 0), .v (.raw (.slice none 0 0)), .v (.bool false)])]⟩) (nomFind_b1 code v) [] (0 : Int) hl1 sub ?_
  intro t14 m hn1 he1 hx1
  obtain ⟨o1, hf1⟩ := some_of hx1
  have h := hf1
  unfold nomFind_b1 at h
  try dsimp only [slotsOf]
  refine sr (lr1 rfl (nn (WC.seq ?_)))
  refine WC.cond rfl (fun hc1 => ?_) (fun hc1 => ?_)
  ·replace h := ite_t hc1 h
   refine kn (sb (sr ?_))
   obtain ⟨g1, h⟩ := grd h
   replace h := bnd h; obtain ⟨x2, hxx2, h⟩ := h
   refine WL.q [] rfl rfl rfl (q_idx tbOk rfl (by exact trivial) g1 (map_get (f := eApiCodeEntry) hxx2)) ?_
   refine lr3 rfl (ns (lr4 rfl (nn ?_)))
   refine WC.cond rfl (fun hc2 => ?_) (fun hc2 => ?_)
   ·replace h := ite_t hc2 h
    refine sr (lr3 rfl (nr (rb ?_)))
    cases h
    have he := he1 _ hf1
    subst he
    have h : some (x2, true) = some _ := hk1
    refine WQ.thenRet (rb ?_)
    cases h
    exact WQ.rets tbOk (r := .tup [.v (.agg [.str x2.Code, .int .i64 x2.From, .int .i64 x2.To, .sl 1 (x2.Terms.map eLStr), .bool x2.Other]), .v (.bool true)]) hR [] (.inl rfl) rfl rfl (Le.tup (.cons (Le.refl _) (.cons (Le.refl _) .nil))) (by exact trivial) rfl rfl rfl rfl
   ·replace h := ite_f hc2 h
    refine WC.skip (bn (WC.region (lr2 rfl (WL.nil ?_))))
    cases h
    exact WQ.next [] (IntKind.i64.wrap (t14 + (1 : Int))) sub (hn1 _ hf1)
  ·replace h := ite_f hc1 h
   refine WC.exit (WQ.thenExit ?_)
   cases h
   have he := he1 _ hf1
   subst he
   replace h := hk1
   try dsimp only at h
   refine eb ?_
   exact WQ.cut [] () sub h
 ·intro _ h
  replace h : nomFind_j1 = some _ := h
  unfold nomFind_j1 at h
  try dsimp only [slotsOf]
  refine sr (lr3 rfl (nr ?_))
  cases h
  exact WQ.rets tbOk (r := .tup [.v (.agg [.str ((⟨[], 0, 0, [], false⟩ : ApiCodeEntry).Code), .int .i64 ((⟨[], 0, 0, [], false⟩ : ApiCodeEntry).From), .int .i64 ((⟨[], 0, 0, [], false⟩ : ApiCodeEntry).To), .sl 1 (((⟨[], 0, 0, [], false⟩ : ApiCodeEntry).Terms).map eLStr), .bool ((⟨[], 0, 0, [], false⟩ : ApiCodeEntry).Other)]), .v (.bool false)]) hR [] (.inl rfl) rfl rfl (Le.tup (.cons (Le.agg (.same (.same (.same (.sl 1 (.same .nil)))))) (.cons (Le.refl _) .nil))) (by exact trivial) rfl rfl rfl rfl
theorem nomBelow_con {wg : World} (hw : WG wg) {b : ApiNomenclature} {day : Int} {code : Str} {r : (List ApiCodeEntry)} (h : nomBelow b day code = some r) : Con Tryz.prog wg gl 41 [.v (.agg [.sl 5 (b.Entries.map eApiCodeEntry), .sl 3 (b.Notes.map eApiCodeNote)]), .v (.int .i64 day), .v (.str code)] [] (.v (.sl 5 (r.map eApiCodeEntry))) [] := by
 unfold nomBelow at h
 refine con_of_WC (S := slotsOf 0 _) Tryz.func41 rfl Tryz.ntmps41 rfl (fun t x hx => (slotsOf_get hx).2) ?_
 intro F L w ρ0 R hR
 try dsimp only [slotsOf]
 refine sr (lr2 rfl (ns (lr1 rfl (nn (WC.seq (sr (lr2 rfl ?_)))))))
 replace h := bnd h; obtain ⟨v, hvv, h⟩ := h
 refine WL.call0 fn95 rfl rfl rfl rfl (by exact trivial) rfl (nomAt_con hw hvv) ?_
 refine WL.q [] rfl rfl rfl (q_ev tbOk (.v (.int .i64 (v.length : Int))) rfl (by exact trivial) (by exact lenT)) ?_
 refine lr1 rfl (nn ?_)
 refine WC.thenCut (X := (List ApiCodeEntry)) (fun gG => ⟨[(7, .r 1007)], [(1007, .row 54 5 (gG.map eApiCodeEntry))]⟩) (fun gG => nomBelow_j1 gG = some r) ?_ ?_
 ·refine WC.block ?_
  obtain ⟨eQ1, hl1, hk1⟩ := bnd h
  clear h
  refine WC.rowNil 7 1007 54 5 rfl rfl ?_
  refine WC.loop (σ := Int × (List ApiCodeEntry)) (τ := ((List ApiCodeEntry))) (fun sS => ⟨[(15, .v (.int .i64 sS.1)), (14, .v (.int .i64 (v.length : Int))), (13, .v (.sl 5 (v.map eApiCodeEntry))), (7, .r 1007), (2, .v (.str code))], [(1007, .row 54 5 (sS.2.map eApiCodeEntry))]⟩) (nomBelow_b1 code v) [] ((0 : Int), []) hl1 sub ?_
  rintro ⟨t152, l3⟩ m hn1 he1 hx1
  obtain ⟨o1, hf1⟩ := some_of hx1
  have h := hf1
  unfold nomBelow_b1 at h
  try dsimp only [slotsOf]
  refine sr (lr1 rfl (nn (WC.seq ?_)))
  refine WC.cond rfl (fun hc1 => ?_) (fun hc1 => ?_)
  ·replace h := ite_t hc1 h
   refine kn (WC.seq ?_)
   refine WC.thenCut (X := (List ApiCodeEntry)) (fun gG => ⟨[(7, .r 1007), (15, .v (.int .i64 t152)), (14, .v (.int .i64 (v.length : Int))), (13, .v (.sl 5 (v.map eApiCodeEntry))), (2, .v (.str code))], [(1007, .row 54 5 (gG.map eApiCodeEntry))]⟩) (fun gG => nomBelow_j2 code v t152 gG = some o1) ?_ ?_
   ·refine WC.block (sr ?_)
    obtain ⟨g1, h⟩ := grd h
    replace h := bnd h; obtain ⟨x3, hxx3, h⟩ := h
    refine WL.q [] rfl rfl rfl (q_idx tbOk rfl (by exact trivial) g1 (map_get (f := eApiCodeEntry) hxx3)) ?_
    refine lr3 rfl (ns (lr4 rfl (ns ?_)))
    obtain ⟨g2, h⟩ := grd h
    refine lr 23 rfl (by repeat' (first | exact trivial | assumption | intro _ | exact g2 (by assumption) | apply And.intro | exact sideT | (refine and_i ?_ ?_))) ?_
    refine nn ?_
    refine WC.cond rfl (fun hc2 => ?_) (fun hc2 => ?_)
    ·replace h := ite_t hc2 h
     refine WC.region (lr3 rfl ?_)
     obtain ⟨g3, h⟩ := grd h
     refine WL.append tbOk ((l3 ++ [x3]).map eApiCodeEntry) [48, 1007] ap25 rfl rfl rfl rfl (fun _ e => by cases e; rfl) (by exact trivial) (map_cells (f := eApiCodeEntry) (xs := [x3]) fun _ => rfl) (by have := g3; simp only [List.length_map, List.length_nil, List.length_cons] at this ⊢; omega) rfl rfl (by simp only [List.map_append]; try rfl) rfl ?_
     refine lr1 rfl (WL.nil (WQ.blockNormal ?_))
     exact WQ.cut [(1007, 48)] (l3 ++ [x3]) sub h
    ·replace h := ite_f hc2 h
     refine WC.skip (WQ.blockNormal ?_)
     exact WQ.cut [] l3 sub h
   ·intro l6 h
    replace h : nomBelow_j2 code v t152 l6 = some _ := h
    unfold nomBelow_j2 at h
    try dsimp only [slotsOf]
    refine WC.region (lr2 rfl (WL.nil ?_))
    cases h
    exact WQ.next [] ((IntKind.i64.wrap (t152 + (1 : Int))), l6) sub (hn1 _ hf1)
  ·replace h := ite_f hc1 h
   refine WC.exit (WQ.thenExit ?_)
   cases h
   have he := he1 _ hf1
   subst he
   replace h := hk1
   try dsimp only at h
   refine eb ?_
   exact WQ.cut [] l3 sub h
 ·intro l h
  replace h : nomBelow_j1 l = some _ := h
  unfold nomBelow_j1 at h
  try dsimp only [slotsOf]
  refine sr (lr2 rfl (nr ?_))
  refine WQ.publish 1007 rfl rfl ?_
  cases h
  exact rt tbOk hR
theorem nomExcluded_con {wg : World} (hw : WG wg) {b : ApiNomenclature} {code : Str} {words : (List Str)} {r : Bool} (h : nomExcluded b code words = some r) : Con Tryz.prog wg gl 35 [.v (.agg [.sl 5 (b.Entries.map eApiCodeEntry), .sl 3 (b.Notes.map eApiCodeNote)]), .v (.str code), .v (.sl 1 (words.map eStr))] [] (.v (.bool r)) [] := by
 unfold nomExcluded at h
 refine con_of_WC (S := slotsOf 0 _) Tryz.func35 rfl Tryz.ntmps35 rfl (fun t x hx => (slotsOf_get hx).2) ?_
 intro F L w ρ0 R hR
 try dsimp only [slotsOf]
 refine sr (lr2 rfl (nn (WC.seq (sr (lr2 rfl ?_)))))
 refine WL.q [] rfl rfl rfl (q_ev tbOk (.v (.int .i64 (b.Notes.length : Int))) rfl (by exact trivial) (by exact lenT)) ?_
 refine lr1 rfl (nn ?_)
 refine WC.thenCut (X := Unit) (fun gG => ⟨[], []⟩) (fun gG => nomExcluded_j1  = some r) ?_ ?_
 ·refine WC.block ?_
  obtain ⟨eQ1, hl1, hk1⟩ := bnd h
  clear h
  refine WC.loop (σ := Int) (τ := ((Bool) ⊕ (Unit))) (fun sS => ⟨[(12, .v (.int .i64 sS)), (11, .v (.int .i64 (b.Notes.length : Int))), (10, .v (.sl 3 (b.Notes.map eApiCodeNote))), (1, .v (.str code)), (2, .v (.sl 1 (words.map eStr)))], []⟩) (nomExcluded_b1 b code words) [] (0 : Int) hl1 sub ?_
  intro t12 m hn1 he1 hx1
  obtain ⟨o1, hf1⟩ := some_of hx1
  have h := hf1
  unfold nomExcluded_b1 at h
  try dsimp only [slotsOf]
  refine sr (lr1 rfl (nn (WC.seq ?_)))
  refine WC.cond rfl (fun hc1 => ?_) (fun hc1 => ?_)
  ·replace h := ite_t hc1 h
   refine kn (sb (sr ?_))
   obtain ⟨g1, h⟩ := grd h
   replace h := bnd h; obtain ⟨x2, hxx2, h⟩ := h
   refine WL.q [] rfl rfl rfl (q_idx tbOk rfl (by exact trivial) g1 (map_get (f := eApiCodeNote) hxx2)) ?_
   refine lr3 rfl (ns (lr3 rfl ?_))
   replace h := bnd h; obtain ⟨v3, hvv3, h⟩ := h
   refine WL.call0 fn86 rfl rfl rfl rfl (by exact trivial) rfl (hasPrefixS_con hw hvv3) ?_
   refine lr 4 rfl (by exact sideR) ?_
   replace h := bnd h; obtain ⟨v4, hvv4, h⟩ := h
   refine WL.gcall0 fn85 rfl rfl rfl rfl rfl (fun _ => (by exact sideR)) rfl (fun hg => (subset_con hw (ite_t hg hvv4))) ?_
   refine lr 1 rfl (by exact sideR) ?_
   refine nn ?_
   refine WC.cond rfl (fun hc2 => ?_) (fun hc2 => ?_)
   ·replace h := ite_t hc2 h
    refine sr (lr1 rfl (nr (rb ?_)))
    cases h
    have he := he1 _ hf1
    subst he
    have h : some true = some _ := hk1
    refine WQ.thenRet (rb ?_)
    cases h
    exact rt tbOk hR
   ·replace h := ite_f hc2 h
    refine WC.skip (bn (WC.region (lr2 rfl (WL.nil ?_))))
    cases h
    exact WQ.next [] (IntKind.i64.wrap (t12 + (1 : Int))) sub (hn1 _ hf1)
  ·replace h := ite_f hc1 h
   refine WC.exit (WQ.thenExit ?_)
   cases h
   have he := he1 _ hf1
   subst he
   replace h := hk1
   try dsimp only at h
   refine eb ?_
   exact WQ.cut [] () sub h
 ·intro _ h
  replace h : nomExcluded_j1 = some _ := h
  unfold nomExcluded_j1 at h
  try dsimp only [slotsOf]
  refine sr (lr1 rfl (nr ?_))
  cases h
  exact rt tbOk hR
theorem nomAlts_con {wg : World} (hw : WG wg) {b : ApiNomenclature} {e1 : ApiCodeEntry} {r : (List (List Str))} (h : nomAlts b e1 = some r) : Con Tryz.prog wg gl 78 [.v (.agg [.sl 5 (b.Entries.map eApiCodeEntry), .sl 3 (b.Notes.map eApiCodeNote)]), .v (.agg [.str e1.Code, .int .i64 e1.From, .int .i64 e1.To, .sl 1 (e1.Terms.map eLStr), .bool e1.Other])] [] (.v (.sl 1 (r.map eLStr))) [] := by
 unfold nomAlts at h
 refine con_of_WC (S := slotsOf 0 _) Tryz.func78 rfl Tryz.ntmps78 rfl (fun t x hx => (slotsOf_get hx).2) ?_
 intro F L w ρ0 R hR
 try dsimp only [slotsOf]
 refine sr (lr3 rfl (ns (lr2 rfl ?_)))
 replace h := bnd h; obtain ⟨v, hvv, h⟩ := h
 refine WL.callO [] [(500, 10)] [10] fn132 rfl rfl rfl rfl (by exact trivial) (cloneWords_con hw hvv) rfl rfl (by exact trivial) rfl rfl rfl rfl rfl rfl ?_
 refine lr1 rfl (nn (WC.seq (sr (lr2 rfl ?_))))
 refine WL.q [] rfl rfl rfl (q_ev tbOk (.v (.int .i64 (b.Notes.length : Int))) rfl (by exact trivial) (by exact lenT)) ?_
 refine lr1 rfl (nn ?_)
 refine WC.thenCut (X := (List (List Str))) (fun gG => ⟨[(5, .r 1005)], [(1005, .row 31 1 (gG.map eLStr))]⟩) (fun gG => nomAlts_j1 gG = some r) ?_ ?_
 ·refine WC.block ?_
  obtain ⟨eQ1, hl1, hk1⟩ := bnd h
  clear h
  refine WC.loop (σ := Int × (List (List Str))) (τ := ((List (List Str)))) (fun sS => ⟨[(14, .v (.int .i64 sS.1)), (13, .v (.int .i64 (b.Notes.length : Int))), (12, .v (.sl 3 (b.Notes.map eApiCodeNote))), (5, .r 1005), (3, .p 3 0)], [(1005, .row 31 1 (sS.2.map eLStr)), (3, .blk 54 [.v (.str e1.Code), .v (.int .i64 e1.From), .v (.int .i64 e1.To), .v (.sl 1 (e1.Terms.map eLStr)), .v (.bool e1.Other)])]⟩) (nomAlts_b1 b e1) [(1005, 10)] ((0 : Int), v) hl1 sub ?_
  rintro ⟨t14, l2⟩ m hn1 he1 hx1
  obtain ⟨o1, hf1⟩ := some_of hx1
  have h := hf1
  unfold nomAlts_b1 at h
  try dsimp only [slotsOf]
  refine sr (lr1 rfl (nn (WC.seq ?_)))
  refine WC.cond rfl (fun hc1 => ?_) (fun hc1 => ?_)
  ·replace h := ite_t hc1 h
   refine kn (WC.seq ?_)
   refine WC.thenCut (X := (List (List Str))) (fun gG => ⟨[(5, .r 1005), (14, .v (.int .i64 t14)), (13, .v (.int .i64 (b.Notes.length : Int))), (12, .v (.sl 3 (b.Notes.map eApiCodeNote))), (3, .p 3 0)], [(1005, .row 31 1 (gG.map eLStr)), (3, .blk 54 [.v (.str e1.Code), .v (.int .i64 e1.From), .v (.int .i64 e1.To), .v (.sl 1 (e1.Terms.map eLStr)), .v (.bool e1.Other)])]⟩) (fun gG => nomAlts_j2 b e1 t14 gG = some o1) ?_ ?_
   ·refine WC.block (sr ?_)
    obtain ⟨g1, h⟩ := grd h
    replace h := bnd h; obtain ⟨x2, hxx2, h⟩ := h
    refine WL.q [] rfl rfl rfl (q_idx tbOk rfl (by exact trivial) g1 (map_get (f := eApiCodeNote) hxx2)) ?_
    refine lr3 rfl (ns (lr5 rfl (nn ?_)))
    refine WC.cond rfl (fun hc2 => ?_) (fun hc2 => ?_)
    ·replace h := ite_t hc2 h
     refine WC.region (lr3 rfl ?_)
     replace h := bnd h; obtain ⟨v3, hvv3, h⟩ := h
     refine WL.call0 fn77 rfl rfl rfl rfl (by exact trivial) rfl (cloneS_con hw hvv3) ?_
     refine lr1 rfl ?_
     obtain ⟨g2, h⟩ := grd h
     refine WL.append tbOk ((l2 ++ [v3]).map eLStr) [28, 1005] ap52 rfl rfl rfl rfl (fun _ e => by cases e; rfl) (by exact trivial) (map_cells (f := eLStr) (xs := [v3]) fun _ => rfl) (by have := g2; simp only [List.length_map, List.length_nil, List.length_cons] at this ⊢; omega) rfl rfl (by simp only [List.map_append]; try rfl) rfl ?_
     refine lr1 rfl (WL.nil (WQ.blockNormal ?_))
     exact WQ.cut [(1005, 28)] (l2 ++ [v3]) sub h
    ·replace h := ite_f hc2 h
     refine WC.skip (WQ.blockNormal ?_)
     exact WQ.cut [] l2 sub h
   ·intro l6 h
    replace h : nomAlts_j2 b e1 t14 l6 = some _ := h
    unfold nomAlts_j2 at h
    try dsimp only [slotsOf]
    refine WC.region (lr2 rfl (WL.nil ?_))
    cases h
    exact WQ.next [] ((IntKind.i64.wrap (t14 + (1 : Int))), l6) sub (hn1 _ hf1)
  ·replace h := ite_f hc1 h
   refine WC.exit (WQ.thenExit ?_)
   cases h
   have he := he1 _ hf1
   subst he
   replace h := hk1
   try dsimp only at h
   refine eb ?_
   exact WQ.cut [] l2 sub h
 ·intro l h
  replace h : nomAlts_j1 l = some _ := h
  unfold nomAlts_j1 at h
  try dsimp only [slotsOf]
  refine sr (lr2 rfl (nr ?_))
  refine WQ.publish 1005 rfl rfl ?_
  cases h
  exact rt tbOk hR
theorem nomScore_con {wg : World} (hw : WG wg) {b : ApiNomenclature} {e1 : ApiCodeEntry} {words : (List Str)} {r : Int} (h : nomScore b e1 words = some r) : Con Tryz.prog wg gl 34 [.v (.agg [.sl 5 (b.Entries.map eApiCodeEntry), .sl 3 (b.Notes.map eApiCodeNote)]), .v (.agg [.str e1.Code, .int .i64 e1.From, .int .i64 e1.To, .sl 1 (e1.Terms.map eLStr), .bool e1.Other]), .v (.sl 1 (words.map eStr))] [] (.v (.int .i64 r)) [] := by
 unfold nomScore at h
 refine con_of_WC (S := slotsOf 0 _) Tryz.func34 rfl Tryz.ntmps34 rfl (fun t x hx => (slotsOf_get hx).2) ?_
 intro F L w ρ0 R hR
 try dsimp only [slotsOf]
 refine sr (lr3 rfl (nn (WC.seq (sr (lr4 rfl ?_)))))
 replace h := bnd h; obtain ⟨v, hvv, h⟩ := h
 refine WL.call0 fn35 rfl rfl rfl rfl (by exact trivial) rfl (nomExcluded_con hw hvv) ?_
 refine nn ?_
 refine WC.cond rfl (fun hc1 => ?_) (fun hc1 => ?_)
 ·replace h := ite_t hc1 h
  refine sr (lr1 rfl (nr (WQ.thenRet ?_)))
  cases h
  exact rt tbOk hR
 ·replace h := ite_f hc1 h
  refine kn (sr (lr1 rfl (nn (WC.seq (sr (lr2 rfl ?_))))))
  replace h := bnd h; obtain ⟨v2, hvv2, h⟩ := h
  refine WL.call0 fn78 rfl rfl rfl rfl (by exact trivial) rfl (nomAlts_con hw hvv2) ?_
  refine WL.q [] rfl rfl rfl (q_ev tbOk (.v (.int .i64 (v2.length : Int))) rfl (by exact trivial) (by exact lenT)) ?_
  refine lr1 rfl (nn ?_)
  refine WC.thenCut (X := Int) (fun gG => ⟨[(7, .v (.int .i64 gG))], []⟩) (fun gG => nomScore_j1 gG = some r) ?_ ?_
  ·refine WC.block ?_
   obtain ⟨eQ1, hl1, hk1⟩ := bnd h
   clear h
   refine WC.loop (σ := Int × Int) (τ := (Int)) (fun sS => ⟨[(19, .v (.int .i64 sS.1)), (18, .v (.int .i64 (v2.length : Int))), (17, .v (.sl 1 (v2.map eLStr))), (7, .v (.int .i64 sS.2)), (2, .v (.sl 1 (words.map eStr)))], []⟩) (nomScore_b1 words v2) [] ((0 : Int), (0 : Int)) hl1 sub ?_
   rintro ⟨t19, score2⟩ m hn1 he1 hx1
   obtain ⟨o1, hf1⟩ := some_of hx1
   have h := hf1
   unfold nomScore_b1 at h
   try dsimp only [slotsOf]
   refine sr (lr1 rfl (nn (WC.seq ?_)))
   refine WC.cond rfl (fun hc2 => ?_) (fun hc2 => ?_)
   ·replace h := ite_t hc2 h
    refine kn (WC.seq ?_)
    refine WC.thenCut (X := Int) (fun gG => ⟨[(7, .v (.int .i64 gG)), (19, .v (.int .i64 t19)), (18, .v (.int .i64 (v2.length : Int))), (17, .v (.sl 1 (v2.map eLStr))), (2, .v (.sl 1 (words.map eStr)))], []⟩) (fun gG => nomScore_j2 words v2 t19 gG = some o1) ?_ ?_
    ·refine WC.block (sr ?_)
     obtain ⟨g1, h⟩ := grd h
     replace h := bnd h; obtain ⟨x2, hxx2, h⟩ := h
     refine WL.q [] rfl rfl rfl (q_idx tbOk rfl (by exact trivial) g1 (map_get (f := eLStr) hxx2)) ?_
     refine lr2 rfl (ns (lr1 rfl ?_))
     refine WL.q [] rfl rfl rfl (q_ev tbOk (.v (.int .i64 (x2.length : Int))) rfl (by exact trivial) (by exact lenT)) ?_
     refine lr 5 rfl (by exact sideR) ?_
     replace h := bnd h; obtain ⟨v4, hvv4, h⟩ := h
     refine WL.gcall0 fn85 rfl rfl rfl rfl rfl (fun _ => (by exact sideR)) rfl (fun hg => (subset_con hw (ite_t hg hvv4))) ?_
     refine lr 1 rfl (by exact sideR) ?_
     refine nn ?_
     refine WC.cond rfl (fun hc3 => ?_) (fun hc3 => ?_)
     ·replace h := ite_t hc3 h
      refine WC.region (lr1 rfl ?_)
      refine WL.q [] rfl rfl rfl (q_ev tbOk (.v (.int .i64 (x2.length : Int))) rfl (by exact trivial) (by exact lenT)) ?_
      refine lr1 rfl (WL.nil (WQ.blockNormal ?_))
      exact WQ.cut [] (x2.length : Int) sub h
     ·replace h := ite_f hc3 h
      refine WC.skip (WQ.blockNormal ?_)
      exact WQ.cut [] score2 sub h
    ·intro score6 h
     replace h : nomScore_j2 words v2 t19 score6 = some _ := h
     unfold nomScore_j2 at h
     try dsimp only [slotsOf]
     refine WC.region (lr2 rfl (WL.nil ?_))
     cases h
     exact WQ.next [] ((IntKind.i64.wrap (t19 + (1 : Int))), score6) sub (hn1 _ hf1)
   ·replace h := ite_f hc2 h
    refine WC.exit (WQ.thenExit ?_)
    cases h
    have he := he1 _ hf1
    subst he
    replace h := hk1
    try dsimp only at h
    refine eb ?_
    exact WQ.cut [] score2 sub h
  ·intro score h
   replace h : nomScore_j1 score = some _ := h
   unfold nomScore_j1 at h
   try dsimp only [slotsOf]
   refine sr (lr2 rfl (nr ?_))
   cases h
   exact rt tbOk hR
end Go.Proofs.YtfkefolbabniaaaGreatDoor
end

section
set_option linter.unusedVariables false
set_option linter.unusedSimpArgs false
set_option maxHeartbeats 4000000
set_option maxRecDepth 20000
namespace Go.Proofs.YtfkefolbabniaaaGreatDoor
open Go.V Go.C
theorem refHas_con {wg : World} (hw : WG wg) {l : (List Str)} {s : Str} {r : Bool} (h : refHas l s = some r) : Con Tryz.prog wg gl 40 [.v (.sl 1 (l.map eStr)), .v (.str s)] [] (.v (.bool r)) [] := by
 unfold refHas at h
 refine con_of_WC (S := slotsOf 0 _) Tryz.func40 rfl Tryz.ntmps40 rfl (fun t x hx => (slotsOf_get hx).2) ?_
 intro F L w ρ0 R hR
 try dsimp only [slotsOf]
 refine sr (lr1 rfl (nn (WC.seq (sr (lr1 rfl (nn ?_))))))
 refine WC.thenCut (X := Unit) (fun gG => ⟨[], []⟩) (fun gG => refHas_j1  = some r) ?_ ?_
 ·refine WC.block ?_
  obtain ⟨eQ1, hl1, hk1⟩ := bnd h
  clear h
  refine WC.loop (σ := Int) (τ := ((Bool) ⊕ (Unit))) (fun sS => ⟨[(5, .v (.int .i64 sS)), (0, .v (.sl 1 (l.map eStr))), (1, .v (.str s))], []⟩) (refHas_b1 l s) [] (0 : Int) hl1 sub ?_
  intro i m hn1 he1 hx1
  obtain ⟨o1, hf1⟩ := some_of hx1
  have h := hf1
  unfold refHas_b1 at h
  try dsimp only [slotsOf]
  refine WC.seq (sr (lr2 rfl ?_))
  refine WL.q [] rfl rfl rfl (q_ev tbOk (.v (.int .i64 (l.length : Int))) rfl (by exact trivial) (by exact lenT)) ?_
  refine lr1 rfl (nn ?_)
  refine WC.cond rfl (fun hc1 => ?_) (fun hc1 => ?_)
  ·replace h := ite_t hc1 h
   refine kn (sb (sr (lr2 rfl ?_)))
   obtain ⟨g1, h⟩ := grd h
   replace h := bnd h; obtain ⟨x2, hxx2, h⟩ := h
   refine WL.q [] rfl rfl rfl (q_idx tbOk rfl (by exact trivial) g1 (map_get (f := eStr) hxx2)) ?_
   refine lr3 rfl (nn ?_)
   refine WC.cond rfl (fun hc2 => ?_) (fun hc2 => ?_)
   ·replace h := ite_t hc2 h
    refine sr (lr1 rfl (nr (rb ?_)))
    cases h
    have he := he1 _ hf1
    subst he
    have h : some true = some _ := hk1
    refine WQ.thenRet (rb ?_)
    cases h
    exact rt tbOk hR
   ·replace h := ite_f hc2 h
    refine WC.skip (bn (WC.region (lr3 rfl (WL.nil ?_))))
    cases h
    exact WQ.next [] (IntKind.i64.wrap (i + (1 : Int))) sub (hn1 _ hf1)
  ·replace h := ite_f hc1 h
   refine WC.exit (WQ.thenExit ?_)
   cases h
   have he := he1 _ hf1
   subst he
   replace h := hk1
   try dsimp only at h
   refine eb ?_
   exact WQ.cut [] () sub h
 ·intro _ h
  replace h : refHas_j1 = some _ := h
  unfold refHas_j1 at h
  try dsimp only [slotsOf]
  refine sr (lr1 rfl (nr ?_))
  cases h
  exact rt tbOk hR
theorem refSubset_con {wg : World} (hw : WG wg) {a : (List Str)} {b : (List Str)} {r : Bool} (h : refSubset a b = some r) : Con Tryz.prog wg gl 135 [.v (.sl 1 (a.map eStr)), .v (.sl 1 (b.map eStr))] [] (.v (.bool r)) [] := by
 unfold refSubset at h
 refine con_of_WC (S := slotsOf 0 _) Tryz.func135 rfl Tryz.ntmps135 rfl (fun t x hx => (slotsOf_get hx).2) ?_
 intro F L w ρ0 R hR
 try dsimp only [slotsOf]
 refine sr (lr1 rfl (nn (WC.seq (sr (lr1 rfl (nn ?_))))))
 refine WC.thenCut (X := Unit) (fun gG => ⟨[], []⟩) (fun gG => refSubset_j1  = some r) ?_ ?_
 ·refine WC.block ?_
  obtain ⟨eQ1, hl1, hk1⟩ := bnd h
  clear h
  refine WC.loop (σ := Int) (τ := ((Bool) ⊕ (Unit))) (fun sS => ⟨[(5, .v (.int .i64 sS)), (0, .v (.sl 1 (a.map eStr))), (1, .v (.sl 1 (b.map eStr)))], []⟩) (refSubset_b1 a b) [] (0 : Int) hl1 sub ?_
  intro i m hn1 he1 hx1
  obtain ⟨o1, hf1⟩ := some_of hx1
  have h := hf1
  unfold refSubset_b1 at h
  try dsimp only [slotsOf]
  refine WC.seq (sr (lr2 rfl ?_))
  refine WL.q [] rfl rfl rfl (q_ev tbOk (.v (.int .i64 (a.length : Int))) rfl (by exact trivial) (by exact lenT)) ?_
  refine lr1 rfl (nn ?_)
  refine WC.cond rfl (fun hc1 => ?_) (fun hc1 => ?_)
  ·replace h := ite_t hc1 h
   refine kn (sb (sr (lr3 rfl ?_)))
   obtain ⟨g1, h⟩ := grd h
   replace h := bnd h; obtain ⟨x2, hxx2, h⟩ := h
   refine WL.q [] rfl rfl rfl (q_idx tbOk rfl (by exact trivial) g1 (map_get (f := eStr) hxx2)) ?_
   refine lr1 rfl ?_
   replace h := bnd h; obtain ⟨v2, hvv2, h⟩ := h
   refine WL.call0 fn40 rfl rfl rfl rfl (by exact trivial) rfl (refHas_con hw hvv2) ?_
   refine lr1 rfl (nn ?_)
   refine WC.cond rfl (fun hc2 => ?_) (fun hc2 => ?_)
   ·replace h := ite_t hc2 h
    refine sr (lr1 rfl (nr (rb ?_)))
    cases h
    have he := he1 _ hf1
    subst he
    have h : some false = some _ := hk1
    refine WQ.thenRet (rb ?_)
    cases h
    exact rt tbOk hR
   ·replace h := ite_f hc2 h
    refine WC.skip (bn (WC.region (lr3 rfl (WL.nil ?_))))
    cases h
    exact WQ.next [] (IntKind.i64.wrap (i + (1 : Int))) sub (hn1 _ hf1)
  ·replace h := ite_f hc1 h
   refine WC.exit (WQ.thenExit ?_)
   cases h
   have he := he1 _ hf1
   subst he
   replace h := hk1
   try dsimp only at h
   refine eb ?_
   exact WQ.cut [] () sub h
 ·intro _ h
  replace h : refSubset_j1 = some _ := h
  unfold refSubset_j1 at h
  try dsimp only [slotsOf]
  refine sr (lr1 rfl (nr ?_))
  cases h
  exact rt tbOk hR
theorem refWith_con {wg : World} (hw : WG wg) {l : (List Str)} {s : Str} {r : (List Str)} (h : refWith l s = some r) : Con Tryz.prog wg gl 81 [.v (.sl 1 (l.map eStr)), .v (.str s)] [] (.v (.sl 1 (r.map eStr))) [] := by
 unfold refWith at h
 refine con_of_WC (S := slotsOf 0 _) Tryz.func81 rfl Tryz.ntmps81 rfl (fun t x hx => (slotsOf_get hx).2) ?_
 intro F L w ρ0 R hR
 try dsimp only [slotsOf]
 refine sr (lr1 rfl (ns (lr1 rfl (nn (WC.seq ?_)))))
 refine WC.thenCut (X := Int) (fun gG => ⟨[(5, .v (.int .i64 gG)), (0, .v (.sl 1 (l.map eStr))), (1, .v (.str s))], []⟩) (fun gG => refWith_j1 l s gG = some r) ?_ ?_
 ·refine WC.block ?_
  obtain ⟨eQ1, hl1, hk1⟩ := bnd h
  clear h
  refine WC.loop (σ := Int) (τ := (Int)) (fun sS => ⟨[(5, .v (.int .i64 sS)), (0, .v (.sl 1 (l.map eStr))), (1, .v (.str s))], []⟩) (refWith_b1 l s) [] (0 : Int) hl1 sub ?_
  intro k2 m hn1 he1 hx1
  obtain ⟨o1, hf1⟩ := some_of hx1
  have h := hf1
  unfold refWith_b1 at h
  try dsimp only [slotsOf]
  refine WC.seq (sr (lr2 rfl ?_))
  refine WL.q [] rfl rfl rfl (q_ev tbOk (.v (.int .i64 (l.length : Int))) rfl (by exact trivial) (by exact lenT)) ?_
  refine lr 4 rfl (by exact sideR) ?_
  obtain ⟨g7, h⟩ := grd h
  refine WL.gq [] rfl rfl rfl rfl (fun hg => q_idx tbOk rfl (by exact sideR) (g7 hg).1 (map_getD (f := eStr) (g7 hg).2 (g7 hg).1)) ?_
  refine lr 4 rfl (by exact sideR) ?_
  refine nn ?_
  refine WC.cond rfl (fun hc2 => ?_) (fun hc2 => ?_)
  ·replace h := ite_t hc2 h
   refine kn (WC.block (WC.region (lr3 rfl (WL.nil (WQ.blockNormal ?_)))))
   cases h
   exact WQ.next [] (IntKind.i64.wrap (k2 + (1 : Int))) sub (hn1 _ hf1)
  ·replace h := ite_f hc2 h
   refine WC.exit (WQ.thenExit ?_)
   cases h
   have he := he1 _ hf1
   subst he
   replace h := hk1
   try dsimp only at h
   refine eb ?_
   exact WQ.cut [] k2 sub h
 ·intro k h
  replace h : refWith_j1 l s k = some _ := h
  unfold refWith_j1 at h
  try dsimp only [slotsOf]
  refine WC.seq (sr (lr2 rfl ?_))
  refine WL.q [] rfl rfl rfl (q_ev tbOk (.v (.int .i64 (l.length : Int))) rfl (by exact trivial) (by exact lenT)) ?_
  refine lr 4 rfl (by exact sideR) ?_
  obtain ⟨g1, h⟩ := grd h
  refine WL.gq [] rfl rfl rfl rfl (fun hg => q_idx tbOk rfl (by exact sideR) (g1 hg).1 (map_getD (f := eStr) (g1 hg).2 (g1 hg).1)) ?_
  refine lr 4 rfl (by exact sideR) ?_
  refine nn ?_
  refine WC.cond rfl (fun hc1 => ?_) (fun hc1 => ?_)
  ·replace h := ite_t hc1 h
   refine sr (lr2 rfl (nr (WQ.thenRet ?_)))
   cases h
   exact rt tbOk hR
  ·replace h := ite_f hc1 h
   refine kn (WC.seq (WC.order mixed ?_))
   refine WR.buildRow tbOk (([] : (List Str)).map eStr) rfl rfl rfl rfl (by exact trivial) rfl rfl ?_
   refine wr 2 rfl trivial ?_
   obtain ⟨g2, h⟩ := grd h
   refine WR.q [] rfl rfl rfl (q_ev tbOk (.v (.sl 1 (((l.take k.toNat).drop (0 : Int).toNat).map eStr))) rfl (by exact sideR) (by exact tdT)) ?_
   obtain ⟨g3, h⟩ := grd h
   refine WR.append tbOk (((l.take k.toNat).drop (0 : Int).toNat).map eStr) [37, 33] ap31 rfl rfl rfl rfl (fun _ e => by cases e; rfl) (by exact trivial) (map_cells (f := eStr) (xs := ((l.take k.toNat).drop (0 : Int).toNat)) fun _ => rfl) (by have := g3; simp only [List.length_map, List.length_nil, List.length_cons] at this ⊢; omega) rfl rfl rfl rfl rfl ?_
   refine wr 2 rfl trivial ?_
   obtain ⟨g4, h⟩ := grd h
   refine WR.append tbOk ((((l.take k.toNat).drop (0 : Int).toNat) ++ [s]).map eStr) [40, 37] ap31 rfl rfl rfl rfl (fun _ e => by cases e; rfl) (by exact trivial) (map_cells (f := eStr) (xs := [s]) fun _ => rfl) (by have := g4; simp only [List.length_map, List.length_nil, List.length_cons] at this ⊢; omega) rfl rfl (by simp only [List.map_append]; try rfl) rfl rfl ?_
   refine wr 2 rfl trivial ?_
   obtain ⟨g5, h⟩ := grd h
   refine WR.q [] rfl rfl rfl (q_ev tbOk (.v (.sl 1 ((l.drop k.toNat).map eStr))) rfl (by exact sideR) (by exact tdT)) ?_
   obtain ⟨g6, h⟩ := grd h
   refine WR.append tbOk (((((l.take k.toNat).drop (0 : Int).toNat) ++ [s]) ++ (l.drop k.toNat)).map eStr) [44, 40] ap31 rfl rfl rfl rfl (fun _ e => by cases e; rfl) (by exact trivial) (map_cells (f := eStr) (xs := (l.drop k.toNat)) fun _ => rfl) (by have := g6; simp only [List.length_map, List.length_nil, List.length_cons] at this ⊢; omega) rfl rfl (by simp only [List.map_append]; try rfl) rfl rfl ?_
   refine wr 1 rfl trivial ?_
   refine WR.nil (by kernel_rfl) (WQ.thenNormal (WC.ret ?_))
   refine WQ.publish 44 rfl rfl ?_
   cases h
   exact rt tbOk hR
theorem refUnion_con {wg : World} (hw : WG wg) {a : (List Str)} {b : (List Str)} {r : (List Str)} (h : refUnion a b = some r) : Con Tryz.prog wg gl 82 [.v (.sl 1 (a.map eStr)), .v (.sl 1 (b.map eStr))] [] (.v (.sl 1 (r.map eStr))) [] := by
 unfold refUnion at h
 refine con_of_WC (S := slotsOf 0 _) Tryz.func82 rfl Tryz.ntmps82 rfl (fun t x hx => (slotsOf_get hx).2) ?_
 intro F L w ρ0 R hR
 try dsimp only [slotsOf]
 refine sr (lr1 rfl (ns (lr1 rfl (nn (WC.seq (sr (lr1 rfl (nn ?_))))))))
 refine WC.thenCut (X := (List Str)) (fun gG => ⟨[(5, .v (.sl 1 (gG.map eStr))), (1, .v (.sl 1 (b.map eStr)))], []⟩) (fun gG => refUnion_j1 b gG = some r) ?_ ?_
 ·refine WC.block ?_
  obtain ⟨eQ2, hl2, hk2⟩ := bnd h
  clear h
  refine WC.weaken 5 (.v (.sl 1 [])) rfl (Le.nil 1) ?_
  refine WC.loop (σ := Int × (List Str)) (τ := ((List Str))) (fun sS => ⟨[(6, .v (.int .i64 sS.1)), (5, .v (.sl 1 (sS.2.map eStr))), (0, .v (.sl 1 (a.map eStr))), (1, .v (.sl 1 (b.map eStr)))], []⟩) (refUnion_b2 a b) [] ((0 : Int), []) hl2 sub ?_
  rintro ⟨i4, out6⟩ m hn2 he2 hx2
  obtain ⟨o2, hf2⟩ := some_of hx2
  have h := hf2
  unfold refUnion_b2 at h
  try dsimp only [slotsOf]
  refine WC.seq (sr (lr2 rfl ?_))
  refine WL.q [] rfl rfl rfl (q_ev tbOk (.v (.int .i64 (a.length : Int))) rfl (by exact trivial) (by exact lenT)) ?_
  refine lr1 rfl (nn ?_)
  refine WC.cond rfl (fun hc2 => ?_) (fun hc2 => ?_)
  ·replace h := ite_t hc2 h
   refine kn (sb (WC.region (lr3 rfl ?_)))
   obtain ⟨g2, h⟩ := grd h
   replace h := bnd h; obtain ⟨x5, hxx5, h⟩ := h
   refine WL.q [] rfl rfl rfl (q_idx tbOk rfl (by exact trivial) g2 (map_get (f := eStr) hxx5)) ?_
   refine lr1 rfl ?_
   replace h := bnd h; obtain ⟨v5, hvv5, h⟩ := h
   refine WL.call0 fn81 rfl rfl rfl rfl (by exact trivial) rfl (refWith_con hw hvv5) ?_
   refine lr1 rfl (WL.nil (bn (WC.region (lr3 rfl (WL.nil ?_)))))
   cases h
   exact WQ.next [] ((IntKind.i64.wrap (i4 + (1 : Int))), v5) sub (hn2 _ hf2)
  ·replace h := ite_f hc2 h
   refine WC.exit (WQ.thenExit ?_)
   cases h
   have he := he2 _ hf2
   subst he
   replace h := hk2
   try dsimp only at h
   refine eb ?_
   exact WQ.cut [] out6 sub h
 ·intro out h
  replace h : refUnion_j1 b out = some _ := h
  unfold refUnion_j1 at h
  try dsimp only [slotsOf]
  refine WC.seq (sr (lr1 rfl (nn ?_)))
  refine WC.thenCut (X := (List Str)) (fun gG => ⟨[(5, .v (.sl 1 (gG.map eStr)))], []⟩) (fun gG => refUnion_j2 gG = some r) ?_ ?_
  ·refine WC.block ?_
   obtain ⟨eQ1, hl1, hk1⟩ := bnd h
   clear h
   refine WC.loop (σ := Int × (List Str)) (τ := ((List Str))) (fun sS => ⟨[(7, .v (.int .i64 sS.1)), (5, .v (.sl 1 (sS.2.map eStr))), (1, .v (.sl 1 (b.map eStr)))], []⟩) (refUnion_b1 b) [] ((0 : Int), out) hl1 sub ?_
   rintro ⟨i, out3⟩ m hn1 he1 hx1
   obtain ⟨o1, hf1⟩ := some_of hx1
   have h := hf1
   unfold refUnion_b1 at h
   try dsimp only [slotsOf]
   refine WC.seq (sr (lr2 rfl ?_))
   refine WL.q [] rfl rfl rfl (q_ev tbOk (.v (.int .i64 (b.length : Int))) rfl (by exact trivial) (by exact lenT)) ?_
   refine lr1 rfl (nn ?_)
   refine WC.cond rfl (fun hc1 => ?_) (fun hc1 => ?_)
   ·replace h := ite_t hc1 h
    refine kn (sb (WC.region (lr3 rfl ?_)))
    obtain ⟨g1, h⟩ := grd h
    replace h := bnd h; obtain ⟨x2, hxx2, h⟩ := h
    refine WL.q [] rfl rfl rfl (q_idx tbOk rfl (by exact trivial) g1 (map_get (f := eStr) hxx2)) ?_
    refine lr1 rfl ?_
    replace h := bnd h; obtain ⟨v2, hvv2, h⟩ := h
    refine WL.call0 fn81 rfl rfl rfl rfl (by exact trivial) rfl (refWith_con hw hvv2) ?_
    refine lr1 rfl (WL.nil (bn (WC.region (lr3 rfl (WL.nil ?_)))))
    cases h
    exact WQ.next [] ((IntKind.i64.wrap (i + (1 : Int))), v2) sub (hn1 _ hf1)
   ·replace h := ite_f hc1 h
    refine WC.exit (WQ.thenExit ?_)
    cases h
    have he := he1 _ hf1
    subst he
    replace h := hk1
    try dsimp only at h
    refine eb ?_
    exact WQ.cut [] out3 sub h
  ·intro out2 h
   replace h : refUnion_j2 out2 = some _ := h
   unfold refUnion_j2 at h
   try dsimp only [slotsOf]
   refine sr (lr2 rfl (nr ?_))
   cases h
   exact rt tbOk hR
theorem sameStrings_con {wg : World} (hw : WG wg) {a : (List Str)} {b : (List Str)} {r : Bool} (h : sameStrings a b = some r) : Con Tryz.prog wg gl 54 [.v (.sl 1 (a.map eStr)), .v (.sl 1 (b.map eStr))] [] (.v (.bool r)) [] := by
 unfold sameStrings at h
 refine con_of_WC (S := slotsOf 0 _) Tryz.func54 rfl Tryz.ntmps54 rfl (fun t x hx => (slotsOf_get hx).2) ?_
 intro F L w ρ0 R hR
 try dsimp only [slotsOf]
 refine sr (lr1 rfl (nn (WC.seq (sr (lr1 rfl ?_)))))
 refine WL.q [] rfl rfl rfl (q_ev tbOk (.v (.int .i64 (a.length : Int))) rfl (by exact trivial) (by exact lenT)) ?_
 refine lr1 rfl ?_
 refine WL.q [] rfl rfl rfl (q_ev tbOk (.v (.int .i64 (b.length : Int))) rfl (by exact trivial) (by exact lenT)) ?_
 refine lr1 rfl (nn ?_)
 refine WC.cond rfl (fun hc1 => ?_) (fun hc1 => ?_)
 ·replace h := ite_t hc1 h
  refine sr (lr1 rfl (nr (WQ.thenRet ?_)))
  cases h
  exact rt tbOk hR
 ·replace h := ite_f hc1 h
  refine kn (WC.seq (sr (lr1 rfl (nn ?_))))
  refine WC.thenCut (X := Unit) (fun gG => ⟨[], []⟩) (fun gG => sameStrings_j1  = some r) ?_ ?_
  ·refine WC.block ?_
   obtain ⟨eQ1, hl1, hk1⟩ := bnd h
   clear h
   refine WC.loop (σ := Int) (τ := ((Bool) ⊕ (Unit))) (fun sS => ⟨[(5, .v (.int .i64 sS)), (0, .v (.sl 1 (a.map eStr))), (1, .v (.sl 1 (b.map eStr)))], []⟩) (sameStrings_b1 a b) [] (0 : Int) hl1 sub ?_
   intro i m hn1 he1 hx1
   obtain ⟨o1, hf1⟩ := some_of hx1
   have h := hf1
   unfold sameStrings_b1 at h
   try dsimp only [slotsOf]
   refine WC.seq (sr (lr2 rfl ?_))
   refine WL.q [] rfl rfl rfl (q_ev tbOk (.v (.int .i64 (a.length : Int))) rfl (by exact trivial) (by exact lenT)) ?_
   refine lr1 rfl (nn ?_)
   refine WC.cond rfl (fun hc2 => ?_) (fun hc2 => ?_)
   ·replace h := ite_t hc2 h
    refine kn (sb (WC.seq (WC.order mixed ?_)))
    refine wr 2 rfl trivial ?_
    obtain ⟨g1, h⟩ := grd h
    replace h := bnd h; obtain ⟨x3, hxx3, h⟩ := h
    refine WR.q [] rfl rfl rfl (q_idx tbOk rfl (by exact trivial) g1 (map_get (f := eStr) hxx3)) ?_
    refine wr 3 rfl trivial ?_
    obtain ⟨g2, h⟩ := grd h
    replace h := bnd h; obtain ⟨x4, hxx4, h⟩ := h
    refine WR.q [] rfl rfl rfl (q_idx tbOk rfl (by exact trivial) g2 (map_get (f := eStr) hxx4)) ?_
    refine wr 2 rfl trivial ?_
    refine WR.nil (by kernel_rfl) (WQ.thenNormal ?_)
    refine WC.cond rfl (fun hc3 => ?_) (fun hc3 => ?_)
    ·replace h := ite_t hc3 h
     refine sr (lr1 rfl (nr (rb ?_)))
     cases h
     have he := he1 _ hf1
     subst he
     have h : some false = some _ := hk1
     refine WQ.thenRet (rb ?_)
     cases h
     exact rt tbOk hR
    ·replace h := ite_f hc3 h
     refine WC.skip (bn (WC.region (lr3 rfl (WL.nil ?_))))
     cases h
     exact WQ.next [] (IntKind.i64.wrap (i + (1 : Int))) sub (hn1 _ hf1)
   ·replace h := ite_f hc2 h
    refine WC.exit (WQ.thenExit ?_)
    cases h
    have he := he1 _ hf1
    subst he
    replace h := hk1
    try dsimp only at h
    refine eb ?_
    exact WQ.cut [] () sub h
  ·intro _ h
   replace h : sameStrings_j1 = some _ := h
   unfold sameStrings_j1 at h
   try dsimp only [slotsOf]
   refine sr (lr1 rfl (nr ?_))
   cases h
   exact rt tbOk hR
theorem refPrefix_con {wg : World} (hw : WG wg) {code : Str} {p : Str} {r : Bool} (h : refPrefix code p = some r) : Con Tryz.prog wg gl 120 [.v (.str code), .v (.str p)] [] (.v (.bool r)) [] := by
 unfold refPrefix at h
 refine con_of_WC (S := slotsOf 0 _) Tryz.func120 rfl Tryz.ntmps120 rfl (fun t x hx => (slotsOf_get hx).2) ?_
 intro F L w ρ0 R hR
 try dsimp only [slotsOf]
 refine sr (lr1 rfl (ns ?_))
 obtain ⟨g1, h⟩ := grd h
 refine lr 14 rfl (by repeat' (first | exact trivial | assumption | intro _ | exact g1 (by assumption) | apply And.intro | exact sideT | (refine and_i ?_ ?_))) ?_
 refine nr ?_
 cases h
 exact rt tbOk hR
theorem refAt_con {wg : World} (hw : WG wg) {b : ApiNomenclature} {day : Int} {r : (List ApiCodeEntry)} (h : refAt b day = some r) : Con Tryz.prog wg gl 119 [.v (.agg [.sl 5 (b.Entries.map eApiCodeEntry), .sl 3 (b.Notes.map eApiCodeNote)]), .v (.int .i64 day)] [] (.v (.sl 5 (r.map eApiCodeEntry))) [] := by
 unfold refAt at h
 refine con_of_WC (S := slotsOf 0 _) Tryz.func119 rfl Tryz.ntmps119 rfl (fun t x hx => (slotsOf_get hx).2) ?_
 intro F L w ρ0 R hR
 try dsimp only [slotsOf]
 refine sr (lr2 rfl (ns (lr1 rfl (nn (WC.seq (sr (lr1 rfl (nn ?_))))))))
 refine WC.thenCut (X := (List ApiCodeEntry)) (fun gG => ⟨[(5, .r 1005)], [(1005, .row 54 5 (gG.map eApiCodeEntry))]⟩) (fun gG => refAt_j1 gG = some r) ?_ ?_
 ·refine WC.block ?_
  obtain ⟨eQ1, hl1, hk1⟩ := bnd h
  clear h
  refine WC.rowNil 5 1005 54 5 rfl rfl ?_
  refine WC.loop (σ := Int × (List ApiCodeEntry)) (τ := ((List ApiCodeEntry))) (fun sS => ⟨[(6, .v (.int .i64 sS.1)), (5, .r 1005), (2, .p 2 0), (1, .v (.int .i64 day))], [(1005, .row 54 5 (sS.2.map eApiCodeEntry)), (2, .blk 28 [.v (.sl 5 (b.Entries.map eApiCodeEntry)), .v (.sl 3 (b.Notes.map eApiCodeNote))])]⟩) (refAt_b1 b day) [] ((0 : Int), []) hl1 sub ?_
  rintro ⟨i2, out3⟩ m hn1 he1 hx1
  obtain ⟨o1, hf1⟩ := some_of hx1
  have h := hf1
  unfold refAt_b1 at h
  try dsimp only [slotsOf]
  refine WC.seq (sr (lr3 rfl ?_))
  refine WL.q [] rfl rfl rfl (q_ev tbOk (.v (.int .i64 (b.Entries.length : Int))) rfl (by exact trivial) (by exact lenT)) ?_
  refine lr1 rfl (nn ?_)
  refine WC.cond rfl (fun hc1 => ?_) (fun hc1 => ?_)
  ·replace h := ite_t hc1 h
   refine kn (WC.seq ?_)
   refine WC.thenCut (X := (List ApiCodeEntry)) (fun gG => ⟨[(5, .r 1005), (6, .v (.int .i64 i2)), (2, .p 2 0), (1, .v (.int .i64 day))], [(1005, .row 54 5 (gG.map eApiCodeEntry)), (2, .blk 28 [.v (.sl 5 (b.Entries.map eApiCodeEntry)), .v (.sl 3 (b.Notes.map eApiCodeNote))])]⟩) (fun gG => refAt_j2 b day i2 gG = some o1) ?_ ?_
   ·refine WC.block (sr (lr3 rfl ?_))
    obtain ⟨g1, h⟩ := grd h
    replace h := bnd h; obtain ⟨x5, hxx5, h⟩ := h
    refine WL.q [] rfl rfl rfl (q_idx tbOk rfl (by exact trivial) g1 (map_get (f := eApiCodeEntry) hxx5)) ?_
    refine lr 9 rfl (by exact sideR) ?_
    obtain ⟨g2, h⟩ := grd h
    refine WL.gq [] rfl rfl rfl rfl (fun hg => q_idx tbOk rfl (by exact sideR) (g2 hg).1 (map_getD (f := eApiCodeEntry) (g2 hg).2 (g2 hg).1)) ?_
    refine lr 4 rfl (by exact sideR) ?_
    refine nn ?_
    refine WC.cond rfl (fun hc2 => ?_) (fun hc2 => ?_)
    ·replace h := ite_t hc2 h
     refine WC.region (lr4 rfl ?_)
     obtain ⟨g3, h⟩ := grd h
     replace h := bnd h; obtain ⟨x6, hxx6, h⟩ := h
     refine WL.q [] rfl rfl rfl (q_idx tbOk rfl (by exact trivial) g3 (map_get (f := eApiCodeEntry) hxx6)) ?_
     refine lr2 rfl ?_
     obtain ⟨g4, h⟩ := grd h
     refine WL.append tbOk ((out3 ++ [x6]).map eApiCodeEntry) [39, 1005] ap25 rfl rfl rfl rfl (fun _ e => by cases e; rfl) (by exact trivial) (map_cells (f := eApiCodeEntry) (xs := [x6]) fun _ => rfl) (by have := g4; simp only [List.length_map, List.length_nil, List.length_cons] at this ⊢; omega) rfl rfl (by simp only [List.map_append]; try rfl) rfl ?_
     refine lr1 rfl (WL.nil (WQ.blockNormal ?_))
     exact WQ.cut [(1005, 39)] (out3 ++ [x6]) sub h
    ·replace h := ite_f hc2 h
     refine WC.skip (WQ.blockNormal ?_)
     exact WQ.cut [] out3 sub h
   ·intro out6 h
    replace h : refAt_j2 b day i2 out6 = some _ := h
    unfold refAt_j2 at h
    try dsimp only [slotsOf]
    refine WC.region (lr3 rfl (WL.nil ?_))
    cases h
    exact WQ.next [] ((IntKind.i64.wrap (i2 + (1 : Int))), out6) sub (hn1 _ hf1)
  ·replace h := ite_f hc1 h
   refine WC.exit (WQ.thenExit ?_)
   cases h
   have he := he1 _ hf1
   subst he
   replace h := hk1
   try dsimp only at h
   refine eb ?_
   exact WQ.cut [] out3 sub h
 ·intro out h
  replace h : refAt_j1 out = some _ := h
  unfold refAt_j1 at h
  try dsimp only [slotsOf]
  refine sr (lr2 rfl (nr ?_))
  refine WQ.publish 1005 rfl rfl ?_
  cases h
  exact rt tbOk hR
theorem refBelow_con {wg : World} (hw : WG wg) {b : ApiNomenclature} {day : Int} {code : Str} {r : (List ApiCodeEntry)} (h : refBelow b day code = some r) : Con Tryz.prog wg gl 68 [.v (.agg [.sl 5 (b.Entries.map eApiCodeEntry), .sl 3 (b.Notes.map eApiCodeNote)]), .v (.int .i64 day), .v (.str code)] [] (.v (.sl 5 (r.map eApiCodeEntry))) [] := by
 unfold refBelow at h
 refine con_of_WC (S := slotsOf 0 _) Tryz.func68 rfl Tryz.ntmps68 rfl (fun t x hx => (slotsOf_get hx).2) ?_
 intro F L w ρ0 R hR
 try dsimp only [slotsOf]
 refine sr (lr2 rfl (ns (lr1 rfl (ns (lr2 rfl ?_)))))
 replace h := bnd h; obtain ⟨v, hvv, h⟩ := h
 refine WL.call0 fn119 rfl rfl rfl rfl (by exact trivial) rfl (refAt_con hw hvv) ?_
 refine lr1 rfl (nn (WC.seq (sr (lr1 rfl (nn ?_)))))
 refine WC.thenCut (X := (List ApiCodeEntry)) (fun gG => ⟨[(7, .r 1007)], [(1007, .row 54 5 (gG.map eApiCodeEntry))]⟩) (fun gG => refBelow_j1 gG = some r) ?_ ?_
 ·refine WC.block ?_
  obtain ⟨eQ1, hl1, hk1⟩ := bnd h
  clear h
  refine WC.rowNil 7 1007 54 5 rfl rfl ?_
  refine WC.loop (σ := Int × (List ApiCodeEntry)) (τ := ((List ApiCodeEntry))) (fun sS => ⟨[(9, .v (.int .i64 sS.1)), (8, .v (.sl 5 (v.map eApiCodeEntry))), (7, .r 1007), (2, .v (.str code))], [(1007, .row 54 5 (sS.2.map eApiCodeEntry))]⟩) (refBelow_b1 code v) [] ((0 : Int), []) hl1 sub ?_
  rintro ⟨i2, out3⟩ m hn1 he1 hx1
  obtain ⟨o1, hf1⟩ := some_of hx1
  have h := hf1
  unfold refBelow_b1 at h
  try dsimp only [slotsOf]
  refine WC.seq (sr (lr2 rfl ?_))
  refine WL.q [] rfl rfl rfl (q_ev tbOk (.v (.int .i64 (v.length : Int))) rfl (by exact trivial) (by exact lenT)) ?_
  refine lr1 rfl (nn ?_)
  refine WC.cond rfl (fun hc1 => ?_) (fun hc1 => ?_)
  ·replace h := ite_t hc1 h
   refine kn (WC.seq ?_)
   refine WC.thenCut (X := (List ApiCodeEntry)) (fun gG => ⟨[(7, .r 1007), (9, .v (.int .i64 i2)), (8, .v (.sl 5 (v.map eApiCodeEntry))), (2, .v (.str code))], [(1007, .row 54 5 (gG.map eApiCodeEntry))]⟩) (fun gG => refBelow_j2 code v i2 gG = some o1) ?_ ?_
   ·refine WC.block (sr (lr2 rfl ?_))
    obtain ⟨g1, h⟩ := grd h
    replace h := bnd h; obtain ⟨x5, hxx5, h⟩ := h
    refine WL.q [] rfl rfl rfl (q_idx tbOk rfl (by exact trivial) g1 (map_get (f := eApiCodeEntry) hxx5)) ?_
    refine lr4 rfl (ns ?_)
    refine lr 19 rfl (by exact sideR) ?_
    obtain ⟨g2, h⟩ := grd h
    refine WL.gq [] rfl rfl rfl rfl (fun hg => q_idx tbOk rfl (by exact sideR) (g2 hg).1 (map_getD (f := eApiCodeEntry) (g2 hg).2 (g2 hg).1)) ?_
    refine lr 3 rfl (by exact sideR) ?_
    replace h := bnd h; obtain ⟨v4, hvv4, h⟩ := h
    refine WL.gcall0 fn120 rfl rfl rfl rfl rfl (fun _ => (by exact sideR)) rfl (fun hg => (refPrefix_con hw (ite_t hg hvv4))) ?_
    refine lr 2 rfl (by exact sideR) ?_
    refine nn ?_
    refine WC.cond rfl (fun hc2 => ?_) (fun hc2 => ?_)
    ·replace h := ite_t hc2 h
     refine WC.region (lr3 rfl ?_)
     obtain ⟨g3, h⟩ := grd h
     replace h := bnd h; obtain ⟨x6, hxx6, h⟩ := h
     refine WL.q [] rfl rfl rfl (q_idx tbOk rfl (by exact trivial) g3 (map_get (f := eApiCodeEntry) hxx6)) ?_
     refine lr2 rfl ?_
     obtain ⟨g4, h⟩ := grd h
     refine WL.append tbOk ((out3 ++ [x6]).map eApiCodeEntry) [58, 1007] ap25 rfl rfl rfl rfl (fun _ e => by cases e; rfl) (by exact trivial) (map_cells (f := eApiCodeEntry) (xs := [x6]) fun _ => rfl) (by have := g4; simp only [List.length_map, List.length_nil, List.length_cons] at this ⊢; omega) rfl rfl (by simp only [List.map_append]; try rfl) rfl ?_
     refine lr1 rfl (WL.nil (WQ.blockNormal ?_))
     exact WQ.cut [(1007, 58)] (out3 ++ [x6]) sub h
    ·replace h := ite_f hc2 h
     refine WC.skip (WQ.blockNormal ?_)
     exact WQ.cut [] out3 sub h
   ·intro out6 h
    replace h : refBelow_j2 code v i2 out6 = some _ := h
    unfold refBelow_j2 at h
    try dsimp only [slotsOf]
    refine WC.region (lr3 rfl (WL.nil ?_))
    cases h
    exact WQ.next [] ((IntKind.i64.wrap (i2 + (1 : Int))), out6) sub (hn1 _ hf1)
  ·replace h := ite_f hc1 h
   refine WC.exit (WQ.thenExit ?_)
   cases h
   have he := he1 _ hf1
   subst he
   replace h := hk1
   try dsimp only at h
   refine eb ?_
   exact WQ.cut [] out3 sub h
 ·intro out h
  replace h : refBelow_j1 out = some _ := h
  unfold refBelow_j1 at h
  try dsimp only [slotsOf]
  refine sr (lr2 rfl (nr ?_))
  refine WQ.publish 1007 rfl rfl ?_
  cases h
  exact rt tbOk hR
theorem refExcluded_con {wg : World} (hw : WG wg) {b : ApiNomenclature} {code : Str} {words : (List Str)} {r : Bool} (h : refExcluded b code words = some r) : Con Tryz.prog wg gl 80 [.v (.agg [.sl 5 (b.Entries.map eApiCodeEntry), .sl 3 (b.Notes.map eApiCodeNote)]), .v (.str code), .v (.sl 1 (words.map eStr))] [] (.v (.bool r)) [] := by
 unfold refExcluded at h
 refine con_of_WC (S := slotsOf 0 _) Tryz.func80 rfl Tryz.ntmps80 rfl (fun t x hx => (slotsOf_get hx).2) ?_
 intro F L w ρ0 R hR
 try dsimp only [slotsOf]
 refine sr (lr2 rfl (nn (WC.seq (sr (lr1 rfl (nn ?_))))))
 refine WC.thenCut (X := Unit) (fun gG => ⟨[], []⟩) (fun gG => refExcluded_j1  = some r) ?_ ?_
 ·refine WC.block ?_
  obtain ⟨eQ1, hl1, hk1⟩ := bnd h
  clear h
  refine WC.loop (σ := Int) (τ := ((Bool) ⊕ (Unit))) (fun sS => ⟨[(7, .v (.int .i64 sS)), (3, .p 3 0), (1, .v (.str code)), (2, .v (.sl 1 (words.map eStr)))], [(3, .blk 28 [.v (.sl 5 (b.Entries.map eApiCodeEntry)), .v (.sl 3 (b.Notes.map eApiCodeNote))])]⟩) (refExcluded_b1 b code words) [] (0 : Int) hl1 sub ?_
  intro i m hn1 he1 hx1
  obtain ⟨o1, hf1⟩ := some_of hx1
  have h := hf1
  unfold refExcluded_b1 at h
  try dsimp only [slotsOf]
  refine WC.seq (sr (lr3 rfl ?_))
  refine WL.q [] rfl rfl rfl (q_ev tbOk (.v (.int .i64 (b.Notes.length : Int))) rfl (by exact trivial) (by exact lenT)) ?_
  refine lr1 rfl (nn ?_)
  refine WC.cond rfl (fun hc1 => ?_) (fun hc1 => ?_)
  ·replace h := ite_t hc1 h
   refine kn (sb (sr (lr4 rfl ?_)))
   obtain ⟨g1, h⟩ := grd h
   replace h := bnd h; obtain ⟨x2, hxx2, h⟩ := h
   refine WL.q [] rfl rfl rfl (q_idx tbOk rfl (by exact trivial) g1 (map_get (f := eApiCodeNote) hxx2)) ?_
   refine lr2 rfl ?_
   replace h := bnd h; obtain ⟨v3, hvv3, h⟩ := h
   refine WL.call0 fn120 rfl rfl rfl rfl (by exact trivial) rfl (refPrefix_con hw hvv3) ?_
   refine lr 4 rfl (by exact sideR) ?_
   obtain ⟨g2, h⟩ := grd h
   refine WL.gq [] rfl rfl rfl rfl (fun hg => q_idx tbOk rfl (by exact sideR) (g2 hg).1 (map_getD (f := eApiCodeNote) (g2 hg).2 (g2 hg).1)) ?_
   refine lr 3 rfl (by exact sideR) ?_
   replace h := bnd h; obtain ⟨v4, hvv4, h⟩ := h
   refine WL.gcall0 fn135 rfl rfl rfl rfl rfl (fun _ => (by exact sideR)) rfl (fun hg => (refSubset_con hw (ite_t hg hvv4))) ?_
   refine lr 1 rfl (by exact sideR) ?_
   refine nn ?_
   refine WC.cond rfl (fun hc2 => ?_) (fun hc2 => ?_)
   ·replace h := ite_t hc2 h
    refine sr (lr1 rfl (nr (rb ?_)))
    cases h
    have he := he1 _ hf1
    subst he
    have h : some true = some _ := hk1
    refine WQ.thenRet (rb ?_)
    cases h
    exact rt tbOk hR
   ·replace h := ite_f hc2 h
    refine WC.skip (bn (WC.region (lr3 rfl (WL.nil ?_))))
    cases h
    exact WQ.next [] (IntKind.i64.wrap (i + (1 : Int))) sub (hn1 _ hf1)
  ·replace h := ite_f hc1 h
   refine WC.exit (WQ.thenExit ?_)
   cases h
   have he := he1 _ hf1
   subst he
   replace h := hk1
   try dsimp only at h
   refine eb ?_
   exact WQ.cut [] () sub h
 ·intro _ h
  replace h : refExcluded_j1 = some _ := h
  unfold refExcluded_j1 at h
  try dsimp only [slotsOf]
  refine sr (lr1 rfl (nr ?_))
  cases h
  exact rt tbOk hR
theorem refAlts_con {wg : World} (hw : WG wg) {b : ApiNomenclature} {x : ApiCodeEntry} {r : (List (List Str))} (h : refAlts b x = some r) : Con Tryz.prog wg gl 83 [.v (.agg [.sl 5 (b.Entries.map eApiCodeEntry), .sl 3 (b.Notes.map eApiCodeNote)]), .v (.agg [.str x.Code, .int .i64 x.From, .int .i64 x.To, .sl 1 (x.Terms.map eLStr), .bool x.Other])] [] (.v (.sl 1 (r.map eLStr))) [] := by
 unfold refAlts at h
 refine con_of_WC (S := slotsOf 0 _) Tryz.func83 rfl Tryz.ntmps83 rfl (fun t x hx => (slotsOf_get hx).2) ?_
 intro F L w ρ0 R hR
 try dsimp only [slotsOf]
 refine sr (lr3 rfl (ns ?_))
 refine WL.buildRow tbOk (([] : (List (List Str))).map eLStr) rfl rfl rfl rfl (by exact trivial) rfl rfl ?_
 refine lr2 rfl ?_
 obtain ⟨g1, h⟩ := grd h
 refine WL.append tbOk (x.Terms.map eLStr) [10, 7] ap52 rfl rfl rfl rfl (fun _ e => by cases e; rfl) (by exact trivial) (map_cells (f := eLStr) (xs := x.Terms) fun _ => rfl) (by have := g1; simp only [List.length_map, List.length_nil, List.length_cons] at this ⊢; omega) rfl rfl rfl rfl ?_
 refine lr1 rfl (nn (WC.seq (sr (lr1 rfl (nn ?_)))))
 refine WC.thenCut (X := (List (List Str))) (fun gG => ⟨[(5, .r 1005)], [(1005, .row 31 1 (gG.map eLStr))]⟩) (fun gG => refAlts_j1 gG = some r) ?_ ?_
 ·refine WC.block ?_
  obtain ⟨eQ1, hl1, hk1⟩ := bnd h
  clear h
  refine WC.loop (σ := Int × (List (List Str))) (τ := ((List (List Str)))) (fun sS => ⟨[(6, .v (.int .i64 sS.1)), (5, .r 1005), (3, .p 3 0), (2, .p 2 0)], [(1005, .row 31 1 (sS.2.map eLStr)), (2, .blk 28 [.v (.sl 5 (b.Entries.map eApiCodeEntry)), .v (.sl 3 (b.Notes.map eApiCodeNote))]), (3, .blk 54 [.v (.str x.Code), .v (.int .i64 x.From), .v (.int .i64 x.To), .v (.sl 1 (x.Terms.map eLStr)), .v (.bool x.Other)])]⟩) (refAlts_b1 b x) [(1005, 10)] ((0 : Int), x.Terms) hl1 sub ?_
  rintro ⟨i, out2⟩ m hn1 he1 hx1
  obtain ⟨o1, hf1⟩ := some_of hx1
  have h := hf1
  unfold refAlts_b1 at h
  try dsimp only [slotsOf]
  refine WC.seq (sr (lr3 rfl ?_))
  refine WL.q [] rfl rfl rfl (q_ev tbOk (.v (.int .i64 (b.Notes.length : Int))) rfl (by exact trivial) (by exact lenT)) ?_
  refine lr1 rfl (nn ?_)
  refine WC.cond rfl (fun hc1 => ?_) (fun hc1 => ?_)
  ·replace h := ite_t hc1 h
   refine kn (WC.seq ?_)
   refine WC.thenCut (X := (List (List Str))) (fun gG => ⟨[(5, .r 1005), (6, .v (.int .i64 i)), (3, .p 3 0), (2, .p 2 0)], [(1005, .row 31 1 (gG.map eLStr)), (2, .blk 28 [.v (.sl 5 (b.Entries.map eApiCodeEntry)), .v (.sl 3 (b.Notes.map eApiCodeNote))]), (3, .blk 54 [.v (.str x.Code), .v (.int .i64 x.From), .v (.int .i64 x.To), .v (.sl 1 (x.Terms.map eLStr)), .v (.bool x.Other)])]⟩) (fun gG => refAlts_j2 b x i gG = some o1) ?_ ?_
   ·refine WC.block (WC.seq (WC.order mixed ?_))
    refine wr 3 rfl trivial ?_
    obtain ⟨g2, h⟩ := grd h
    replace h := bnd h; obtain ⟨x4, hxx4, h⟩ := h
    refine WR.q [] rfl rfl rfl (q_idx tbOk rfl (by exact trivial) g2 (map_get (f := eApiCodeNote) hxx4)) ?_
    refine wr 5 rfl trivial ?_
    refine WR.nil (by kernel_rfl) (WQ.thenNormal ?_)
    refine WC.cond rfl (fun hc2 => ?_) (fun hc2 => ?_)
    ·replace h := ite_t hc2 h
     refine WC.region (lr4 rfl ?_)
     obtain ⟨g3, h⟩ := grd h
     replace h := bnd h; obtain ⟨x5, hxx5, h⟩ := h
     refine WL.q [] rfl rfl rfl (q_idx tbOk rfl (by exact trivial) g3 (map_get (f := eApiCodeNote) hxx5)) ?_
     refine lr3 rfl ?_
     obtain ⟨g4, h⟩ := grd h
     refine WL.append tbOk ((out2 ++ [x5.Words]).map eLStr) [35, 1005] ap52 rfl rfl rfl rfl (fun _ e => by cases e; rfl) (by exact trivial) (map_cells (f := eLStr) (xs := [x5.Words]) fun _ => rfl) (by have := g4; simp only [List.length_map, List.length_nil, List.length_cons] at this ⊢; omega) rfl rfl (by simp only [List.map_append]; try rfl) rfl ?_
     refine lr1 rfl (WL.nil (WQ.blockNormal ?_))
     exact WQ.cut [(1005, 35)] (out2 ++ [x5.Words]) sub h
    ·replace h := ite_f hc2 h
     refine WC.skip (WQ.blockNormal ?_)
     exact WQ.cut [] out2 sub h
   ·intro out6 h
    replace h : refAlts_j2 b x i out6 = some _ := h
    unfold refAlts_j2 at h
    try dsimp only [slotsOf]
    refine WC.region (lr3 rfl (WL.nil ?_))
    cases h
    exact WQ.next [] ((IntKind.i64.wrap (i + (1 : Int))), out6) sub (hn1 _ hf1)
  ·replace h := ite_f hc1 h
   refine WC.exit (WQ.thenExit ?_)
   cases h
   have he := he1 _ hf1
   subst he
   replace h := hk1
   try dsimp only at h
   refine eb ?_
   exact WQ.cut [] out2 sub h
 ·intro out h
  replace h : refAlts_j1 out = some _ := h
  unfold refAlts_j1 at h
  try dsimp only [slotsOf]
  refine sr (lr2 rfl (nr ?_))
  refine WQ.publish 1005 rfl rfl ?_
  cases h
  exact rt tbOk hR
theorem refScore_con {wg : World} (hw : WG wg) {b : ApiNomenclature} {x : ApiCodeEntry} {words : (List Str)} {r : Int} (h : refScore b x words = some r) : Con Tryz.prog wg gl 122 [.v (.agg [.sl 5 (b.Entries.map eApiCodeEntry), .sl 3 (b.Notes.map eApiCodeNote)]), .v (.agg [.str x.Code, .int .i64 x.From, .int .i64 x.To, .sl 1 (x.Terms.map eLStr), .bool x.Other]), .v (.sl 1 (words.map eStr))] [] (.v (.int .i64 r)) [] := by
 unfold refScore at h
 refine con_of_WC (S := slotsOf 0 _) Tryz.func122 rfl Tryz.ntmps122 rfl (fun t x hx => (slotsOf_get hx).2) ?_
 intro F L w ρ0 R hR
 try dsimp only [slotsOf]
 refine sr (lr3 rfl (ns (lr1 rfl (nn (WC.seq (sr (lr4 rfl ?_)))))))
 replace h := bnd h; obtain ⟨v, hvv, h⟩ := h
 refine WL.call0 fn80 rfl rfl rfl rfl (by exact trivial) rfl (refExcluded_con hw hvv) ?_
 refine nn ?_
 refine WC.cond rfl (fun hc1 => ?_) (fun hc1 => ?_)
 ·replace h := ite_t hc1 h
  refine sr (lr1 rfl (nr (WQ.thenRet ?_)))
  cases h
  exact rt tbOk hR
 ·replace h := ite_f hc1 h
  refine kn (sr (lr2 rfl ?_))
  replace h := bnd h; obtain ⟨v2, hvv2, h⟩ := h
  refine WL.call0 fn83 rfl rfl rfl rfl (by exact trivial) rfl (refAlts_con hw hvv2) ?_
  refine lr1 rfl (nn (WC.seq (sr (lr1 rfl (nn ?_)))))
  refine WC.thenCut (X := Int) (fun gG => ⟨[(7, .v (.int .i64 gG))], []⟩) (fun gG => refScore_j1 gG = some r) ?_ ?_
  ·refine WC.block ?_
   obtain ⟨eQ1, hl1, hk1⟩ := bnd h
   clear h
   refine WC.loop (σ := Int × Int) (τ := (Int)) (fun sS => ⟨[(9, .v (.int .i64 sS.1)), (8, .v (.sl 1 (v2.map eLStr))), (7, .v (.int .i64 sS.2)), (2, .v (.sl 1 (words.map eStr)))], []⟩) (refScore_b1 words v2) [] ((0 : Int), (0 : Int)) hl1 sub ?_
   rintro ⟨i, n12⟩ m hn1 he1 hx1
   obtain ⟨o1, hf1⟩ := some_of hx1
   have h := hf1
   unfold refScore_b1 at h
   try dsimp only [slotsOf]
   refine WC.seq (sr (lr2 rfl ?_))
   refine WL.q [] rfl rfl rfl (q_ev tbOk (.v (.int .i64 (v2.length : Int))) rfl (by exact trivial) (by exact lenT)) ?_
   refine lr1 rfl (nn ?_)
   refine WC.cond rfl (fun hc2 => ?_) (fun hc2 => ?_)
   ·replace h := ite_t hc2 h
    refine kn (WC.seq ?_)
    refine WC.thenCut (X := Int) (fun gG => ⟨[(7, .v (.int .i64 gG)), (9, .v (.int .i64 i)), (8, .v (.sl 1 (v2.map eLStr))), (2, .v (.sl 1 (words.map eStr)))], []⟩) (fun gG => refScore_j2 words v2 i gG = some o1) ?_ ?_
    ·refine WC.block (sr (lr2 rfl ?_))
     obtain ⟨g1, h⟩ := grd h
     replace h := bnd h; obtain ⟨x4, hxx4, h⟩ := h
     refine WL.q [] rfl rfl rfl (q_idx tbOk rfl (by exact trivial) g1 (map_get (f := eLStr) hxx4)) ?_
     refine lr2 rfl ?_
     replace h := bnd h; obtain ⟨v4, hvv4, h⟩ := h
     refine WL.call0 fn135 rfl rfl rfl rfl (by exact trivial) rfl (refSubset_con hw hvv4) ?_
     refine nn ?_
     refine WC.cond rfl (fun hc3 => ?_) (fun hc3 => ?_)
     ·replace h := ite_t hc3 h
      refine WC.region (lr3 rfl ?_)
      obtain ⟨g2, h⟩ := grd h
      replace h := bnd h; obtain ⟨x5, hxx5, h⟩ := h
      refine WL.q [] rfl rfl rfl (q_idx tbOk rfl (by exact trivial) g2 (map_get (f := eLStr) hxx5)) ?_
      refine lr1 rfl ?_
      refine WL.q [] rfl rfl rfl (q_ev tbOk (.v (.int .i64 (x5.length : Int))) rfl (by exact trivial) (by exact lenT)) ?_
      refine lr2 rfl (WL.nil (WQ.blockNormal ?_))
      exact WQ.cut [] (if (x5.length : Int) > n12 then (x5.length : Int) else n12) sub h
     ·replace h := ite_f hc3 h
      refine WC.skip (WQ.blockNormal ?_)
      exact WQ.cut [] n12 sub h
    ·intro n16 h
     replace h : refScore_j2 words v2 i n16 = some _ := h
     unfold refScore_j2 at h
     try dsimp only [slotsOf]
     refine WC.region (lr3 rfl (WL.nil ?_))
     cases h
     exact WQ.next [] ((IntKind.i64.wrap (i + (1 : Int))), n16) sub (hn1 _ hf1)
   ·replace h := ite_f hc2 h
    refine WC.exit (WQ.thenExit ?_)
    cases h
    have he := he1 _ hf1
    subst he
    replace h := hk1
    try dsimp only at h
    refine eb ?_
    exact WQ.cut [] n12 sub h
  ·intro n1 h
   replace h : refScore_j1 n1 = some _ := h
   unfold refScore_j1 at h
   try dsimp only [slotsOf]
   refine sr (lr2 rfl (nr ?_))
   cases h
   exact rt tbOk hR
theorem sameEntries_con {wg : World} (hw : WG wg) {a : (List ApiCodeEntry)} {b : (List ApiCodeEntry)} {r : Bool} (h : sameEntries a b = some r) : Con Tryz.prog wg gl 29 [.v (.sl 5 (a.map eApiCodeEntry)), .v (.sl 5 (b.map eApiCodeEntry))] [] (.v (.bool r)) [] := by
 unfold sameEntries at h
 refine con_of_WC (S := slotsOf 0 _) Tryz.func29 rfl Tryz.ntmps29 rfl (fun t x hx => (slotsOf_get hx).2) ?_
 intro F L w ρ0 R hR
 try dsimp only [slotsOf]
 refine sr (lr1 rfl (nn (WC.seq (sr (lr1 rfl ?_)))))
 refine WL.q [] rfl rfl rfl (q_ev tbOk (.v (.int .i64 (a.length : Int))) rfl (by exact trivial) (by exact lenT)) ?_
 refine lr1 rfl ?_
 refine WL.q [] rfl rfl rfl (q_ev tbOk (.v (.int .i64 (b.length : Int))) rfl (by exact trivial) (by exact lenT)) ?_
 refine lr1 rfl (nn ?_)
 refine WC.cond rfl (fun hc1 => ?_) (fun hc1 => ?_)
 ·replace h := ite_t hc1 h
  refine sr (lr1 rfl (nr (WQ.thenRet ?_)))
  cases h
  exact rt tbOk hR
 ·replace h := ite_f hc1 h
  refine kn (WC.seq (sr (lr1 rfl (nn ?_))))
  refine WC.thenCut (X := Unit) (fun gG => ⟨[], []⟩) (fun gG => sameEntries_j1  = some r) ?_ ?_
  ·refine WC.block ?_
   obtain ⟨eQ1, hl1, hk1⟩ := bnd h
   clear h
   refine WC.loop (σ := Int) (τ := ((Bool) ⊕ (Unit))) (fun sS => ⟨[(5, .v (.int .i64 sS)), (0, .v (.sl 5 (a.map eApiCodeEntry))), (1, .v (.sl 5 (b.map eApiCodeEntry)))], []⟩) (sameEntries_b1 a b) [] (0 : Int) hl1 sub ?_
   intro i m hn1 he1 hx1
   obtain ⟨o1, hf1⟩ := some_of hx1
   have h := hf1
   unfold sameEntries_b1 at h
   try dsimp only [slotsOf]
   refine WC.seq (sr (lr2 rfl ?_))
   refine WL.q [] rfl rfl rfl (q_ev tbOk (.v (.int .i64 (a.length : Int))) rfl (by exact trivial) (by exact lenT)) ?_
   refine lr1 rfl (nn ?_)
   refine WC.cond rfl (fun hc2 => ?_) (fun hc2 => ?_)
   ·replace h := ite_t hc2 h
    refine kn (WC.seq ?_)
    refine WC.thenCut (X := Unit) (fun gG => ⟨[(5, .v (.int .i64 i)), (0, .v (.sl 5 (a.map eApiCodeEntry))), (1, .v (.sl 5 (b.map eApiCodeEntry)))], []⟩) (fun gG => sameEntries_j2 a b i = some o1) ?_ ?_
    ·refine WC.block (WC.seq (WC.seq (WC.order mixed ?_)))
     refine wr 2 rfl trivial ?_
     obtain ⟨g1, h⟩ := grd h
     replace h := bnd h; obtain ⟨x13, hxx13, h⟩ := h
     refine WR.q [] rfl rfl rfl (q_idx tbOk rfl (by exact trivial) g1 (map_get (f := eApiCodeEntry) hxx13)) ?_
     refine wr 4 rfl trivial ?_
     obtain ⟨g2, h⟩ := grd h
     replace h := bnd h; obtain ⟨x14, hxx14, h⟩ := h
     refine WR.q [] rfl rfl rfl (q_idx tbOk rfl (by exact trivial) g2 (map_get (f := eApiCodeEntry) hxx14)) ?_
     refine wr 6 rfl (by exact sideR) ?_
     obtain ⟨g3, h⟩ := grd h
     refine WR.gq [] rfl rfl rfl rfl (fun hg => q_idx tbOk rfl (by exact sideR) (g3 hg).1 (map_getD (f := eApiCodeEntry) (g3 hg).2 (g3 hg).1)) ?_
     refine wr 4 rfl (by exact sideR) ?_
     obtain ⟨g4, h⟩ := grd h
     refine WR.gq [] rfl rfl rfl rfl (fun hg => q_idx tbOk rfl (by exact sideR) (g4 hg).1 (map_getD (f := eApiCodeEntry) (g4 hg).2 (g4 hg).1)) ?_
     refine wr 7 rfl (by exact sideR) ?_
     obtain ⟨g5, h⟩ := grd h
     refine WR.gq [] rfl rfl rfl rfl (fun hg => q_idx tbOk rfl (by exact sideR) (g5 hg).1 (map_getD (f := eApiCodeEntry) (g5 hg).2 (g5 hg).1)) ?_
     refine wr 4 rfl (by exact sideR) ?_
     obtain ⟨g6, h⟩ := grd h
     refine WR.gq [] rfl rfl rfl rfl (fun hg => q_idx tbOk rfl (by exact sideR) (g6 hg).1 (map_getD (f := eApiCodeEntry) (g6 hg).2 (g6 hg).1)) ?_
     refine wr 7 rfl (by exact sideR) ?_
     obtain ⟨g7, h⟩ := grd h
     refine WR.gq [] rfl rfl rfl rfl (fun hg => q_idx tbOk rfl (by exact sideR) (g7 hg).1 (map_getD (f := eApiCodeEntry) (g7 hg).2 (g7 hg).1)) ?_
     refine wr 4 rfl (by exact sideR) ?_
     obtain ⟨g8, h⟩ := grd h
     refine WR.gq [] rfl rfl rfl rfl (fun hg => q_idx tbOk rfl (by exact sideR) (g8 hg).1 (map_getD (f := eApiCodeEntry) (g8 hg).2 (g8 hg).1)) ?_
     refine wr 7 rfl (by exact sideR) ?_
     obtain ⟨g9, h⟩ := grd h
     refine WR.gq [] rfl rfl rfl rfl (fun hg => q_idx tbOk rfl (by exact sideR) (g9 hg).1 (map_getD (f := eApiCodeEntry) (g9 hg).2 (g9 hg).1)) ?_
     refine wr 2 rfl (by exact sideR) ?_
     refine WR.gq [] rfl rfl rfl rfl (fun hg => q_ev tbOk (.v (.int .i64 (((a.getD i.toNat default).Terms).length : Int))) rfl (by exact sideR) (by exact lenT)) ?_
     refine wr 2 rfl (by exact sideR) ?_
     obtain ⟨g10, h⟩ := grd h
     refine WR.gq [] rfl rfl rfl rfl (fun hg => q_idx tbOk rfl (by exact sideR) (g10 hg).1 (map_getD (f := eApiCodeEntry) (g10 hg).2 (g10 hg).1)) ?_
     refine wr 2 rfl (by exact sideR) ?_
     refine WR.gq [] rfl rfl rfl rfl (fun hg => q_ev tbOk (.v (.int .i64 (((b.getD i.toNat default).Terms).length : Int))) rfl (by exact sideR) (by exact lenT)) ?_
     refine wr 2 rfl (by exact sideR) ?_
     refine WR.nil (by kernel_rfl) (WQ.thenNormal ?_)
     refine WC.cond rfl (fun hc3 => ?_) (fun hc3 => ?_)
     ·replace h := ite_t hc3 h
      refine sr (lr1 rfl (nr (WQ.thenRet (rb ?_))))
      cases h
      have he := he1 _ hf1
      subst he
      have h : some false = some _ := hk1
      refine WQ.thenRet (rb ?_)
      cases h
      exact rt tbOk hR
     ·replace h := ite_f hc3 h
      refine kn (sr (lr1 rfl (nn (WC.block ?_))))
      obtain ⟨eQ2, hl2, hk2⟩ := bnd h
      clear h
      refine WC.loop (σ := Int) (τ := ((Bool) ⊕ (Unit))) (fun sS => ⟨[(6, .v (.int .i64 sS)), (5, .v (.int .i64 i)), (0, .v (.sl 5 (a.map eApiCodeEntry))), (1, .v (.sl 5 (b.map eApiCodeEntry)))], []⟩) (sameEntries_b2 a b i) [] (0 : Int) hl2 sub ?_
      intro k3 m hn2 he2 hx2
      obtain ⟨o2, hf2⟩ := some_of hx2
      have h := hf2
      unfold sameEntries_b2 at h
      try dsimp only [slotsOf]
      refine WC.seq (sr (lr3 rfl ?_))
      obtain ⟨g11, h⟩ := grd h
      replace h := bnd h; obtain ⟨x20, hxx20, h⟩ := h
      refine WL.q [] rfl rfl rfl (q_idx tbOk rfl (by exact trivial) g11 (map_get (f := eApiCodeEntry) hxx20)) ?_
      refine lr2 rfl ?_
      refine WL.q [] rfl rfl rfl (q_ev tbOk (.v (.int .i64 (x20.Terms.length : Int))) rfl (by exact trivial) (by exact lenT)) ?_
      refine lr1 rfl (nn ?_)
      refine WC.cond rfl (fun hc4 => ?_) (fun hc4 => ?_)
      ·replace h := ite_t hc4 h
       refine kn (sb (WC.seq (WC.order mixed ?_)))
       refine wr 2 rfl trivial ?_
       obtain ⟨g12, h⟩ := grd h
       replace h := bnd h; obtain ⟨x21, hxx21, h⟩ := h
       refine WR.q [] rfl rfl rfl (q_idx tbOk rfl (by exact trivial) g12 (map_get (f := eApiCodeEntry) hxx21)) ?_
       refine wr 3 rfl trivial ?_
       obtain ⟨g13, h⟩ := grd h
       replace h := bnd h; obtain ⟨x22, hxx22, h⟩ := h
       refine WR.q [] rfl rfl rfl (q_idx tbOk rfl (by exact trivial) g13 (map_get (f := eLStr) hxx22)) ?_
       refine wr 3 rfl trivial ?_
       obtain ⟨g14, h⟩ := grd h
       replace h := bnd h; obtain ⟨x23, hxx23, h⟩ := h
       refine WR.q [] rfl rfl rfl (q_idx tbOk rfl (by exact trivial) g14 (map_get (f := eApiCodeEntry) hxx23)) ?_
       refine wr 3 rfl trivial ?_
       obtain ⟨g15, h⟩ := grd h
       replace h := bnd h; obtain ⟨x24, hxx24, h⟩ := h
       refine WR.q [] rfl rfl rfl (q_idx tbOk rfl (by exact trivial) g15 (map_get (f := eLStr) hxx24)) ?_
       refine wr 1 rfl trivial ?_
       replace h := bnd h; obtain ⟨v4, hvv4, h⟩ := h
       refine WR.call0 fn54 rfl rfl rfl rfl (by exact trivial) rfl (sameStrings_con hw hvv4) ?_
       refine wr 1 rfl trivial ?_
       refine WR.nil (by kernel_rfl) (WQ.thenNormal ?_)
       refine WC.cond rfl (fun hc5 => ?_) (fun hc5 => ?_)
       ·replace h := ite_t hc5 h
        refine sr (lr1 rfl (nr (rb ?_)))
        cases h
        have he := he2 _ hf2
        subst he
        have h : (some (.inr (.inl false)) : Option ((Int) ⊕ ((Bool) ⊕ (Unit)))) = some _ := hk2
        refine WQ.thenRet (WQ.blockRet (rb ?_))
        cases h
        have he := he1 _ hf1
        subst he
        have h : some false = some _ := hk1
        refine WQ.thenRet (rb ?_)
        cases h
        exact rt tbOk hR
       ·replace h := ite_f hc5 h
        refine WC.skip (bn (WC.region (lr3 rfl (WL.nil ?_))))
        cases h
        exact WQ.next [] (IntKind.i64.wrap (k3 + (1 : Int))) sub (hn2 _ hf2)
      ·replace h := ite_f hc4 h
       refine WC.exit (WQ.thenExit ?_)
       cases h
       have he := he2 _ hf2
       subst he
       replace h := hk2
       try dsimp only at h
       refine eb (WQ.blockNormal ?_)
       exact WQ.cut [] () sub h
    ·intro _ h
     replace h : sameEntries_j2 a b i = some _ := h
     unfold sameEntries_j2 at h
     try dsimp only [slotsOf]
     refine WC.region (lr3 rfl (WL.nil ?_))
     cases h
     exact WQ.next [] (IntKind.i64.wrap (i + (1 : Int))) sub (hn1 _ hf1)
   ·replace h := ite_f hc2 h
    refine WC.exit (WQ.thenExit ?_)
    cases h
    have he := he1 _ hf1
    subst he
    replace h := hk1
    try dsimp only at h
    refine eb ?_
    exact WQ.cut [] () sub h
  ·intro _ h
   replace h : sameEntries_j1 = some _ := h
   unfold sameEntries_j1 at h
   try dsimp only [slotsOf]
   refine sr (lr1 rfl (nr ?_))
   cases h
   exact rt tbOk hR
end Go.Proofs.YtfkefolbabniaaaGreatDoor
end

section
set_option linter.unusedVariables false
set_option linter.unusedSimpArgs false
set_option maxHeartbeats 4000000
set_option maxRecDepth 20000
namespace Go.Proofs.YtfkefolbabniaaaGreatDoor
open Go.V Go.C
theorem described_con {wg : World} (hw : WG wg) {l : (List Str)} {r : Bool} (h : described l = some r) : Con Tryz.prog wg gl 106 [.v (.sl 1 (l.map eStr))] [] (.v (.bool r)) [] := by
 unfold described at h
 refine con_of_WC (S := slotsOf 0 _) Tryz.func106 rfl Tryz.ntmps106 rfl (fun t x hx => (slotsOf_get hx).2) ?_
 intro F L w ρ0 R hR
 try dsimp only [slotsOf]
 refine sr (lr1 rfl (ns (lr1 rfl ?_)))
 refine WL.q [] rfl rfl rfl (q_ev tbOk (.v (.int .i64 (l.length : Int))) rfl (by exact trivial) (by exact lenT)) ?_
 refine lr 3 rfl (by exact sideR) ?_
 replace h := bnd h; obtain ⟨v, hvv, h⟩ := h
 refine WL.gcall0 fn107 rfl rfl rfl rfl rfl (fun _ => (by exact sideR)) rfl (fun hg => (validWords_con hw (ite_t hg hvv))) ?_
 refine lr 2 rfl (by exact sideR) ?_
 refine nr ?_
 cases h
 exact rt tbOk hR
theorem growInt_con {wg : World} (hw : WG wg) {n1 : Int} {r : (List Int)} (h : growInt n1 = some r) : Con Tryz.prog wg gl 155 [.v (.raw (.slice none 0 0)), .v (.int .i64 n1)] [] (.r 500) [(500, .row 3 1 (r.map eInt_i64))] := by
 unfold growInt at h
 refine con_of_WC (S := slotsOf 0 _) Tryz.func155 rfl Tryz.ntmps155 rfl (fun t x hx => (slotsOf_get hx).2) ?_
 intro F L w ρ0 R hR
 try dsimp only [slotsOf]
 refine sr (lr1 rfl (nn (WC.seq (sr (lr2 rfl (nn ?_))))))
 refine WC.cond rfl (fun hc1 => ?_) (fun hc1 => ?_)
 ·replace h := ite_t hc1 h
  cases h
 ·replace h := ite_f hc1 h
  refine kn (WC.seq (sr (lr2 rfl ?_)))
  refine WL.q [] rfl rfl rfl (q_nil ap22 rfl (by exact trivial)) ?_
  refine lr5 rfl (ns (lr2 rfl (nn ?_)))
  refine WC.thenCut (X := (List Int)) (fun gG => ⟨[(0, .r 1000)], [(1000, .row 3 1 (gG.map eInt_i64))]⟩) (fun gG => growInt_j1 gG = some r) ?_ ?_
  ·refine WC.cond rfl (fun hc2 => ?_) (fun hc2 => ?_)
   ·replace h := ite_t hc2 h
    refine WC.region (lr2 rfl ?_)
    refine WL.q [] rfl rfl rfl (q_nil ap22 rfl (by exact trivial)) ?_
    refine WL.q [] rfl rfl rfl (q_nil ap22 rfl (by exact sideR)) ?_
    refine lr1 rfl ?_
    obtain ⟨g1, h⟩ := grd h
    refine WL.growRow tbOk (List.replicate (IntKind.i64.wrap (n1 - (IntKind.i64.wrap ((0 : Int) - (0 : Int))))).toNat [.raw (.int .i64 0)]) ap22 rfl rfl rfl rfl rfl (by exact sideR) g1 rfl rfl ?_
    refine lr2 rfl ?_
    refine WL.rcut tbOk (([] : (List Int)).map eInt_i64) rfl rfl rfl rfl (by exact sideR) rfl ⟨Int.le_refl 0, Int.natCast_nonneg _⟩ rfl rfl ?_
    refine lr1 rfl (WL.nil ?_)
    exact WQ.cut [(1000, 25)] [] sub h
   ·replace h := ite_f hc2 h
    refine WC.skip ?_
    refine WQ.rowNil 0 1000 3 1 rfl rfl ?_
    exact WQ.cut [] [] sub h
  ·intro s h
   replace h : growInt_j1 s = some _ := h
   unfold growInt_j1 at h
   try dsimp only [slotsOf]
   refine sr (lr2 rfl (nr ?_))
   cases h
   exact WQ.rets tbOk hR [(500, 1000)] (.inl rfl) rfl rfl (Le.refl _) (by exact eqs) rfl rfl rfl rfl
theorem concatInt_con {wg : World} (hw : WG wg) {slices : (List (List Int))} {r : (List Int)} (h : concatInt slices = some r) : Con Tryz.prog wg gl 108 [.v (.sl 1 (slices.map eLInt_i64))] [] (.r 500) [(500, .row 3 1 (r.map eInt_i64))] := by
 unfold concatInt at h
 refine con_of_WC (S := slotsOf 0 _) Tryz.func108 rfl Tryz.ntmps108 rfl (fun t x hx => (slotsOf_get hx).2) ?_
 intro F L w ρ0 R hR
 try dsimp only [slotsOf]
 refine sr (lr1 rfl (ns (lr1 rfl (nn (WC.seq (sr (lr1 rfl ?_)))))))
 refine WL.q [] rfl rfl rfl (q_ev tbOk (.v (.int .i64 (slices.length : Int))) rfl (by exact trivial) (by exact lenT)) ?_
 refine lr1 rfl (nn ?_)
 refine WC.thenCut (X := Int) (fun gG => ⟨[(3, .v (.int .i64 gG)), (0, .v (.sl 1 (slices.map eLInt_i64)))], []⟩) (fun gG => concatInt_j1 slices gG = some r) ?_ ?_
 ·refine WC.block ?_
  obtain ⟨eQ2, hl2, hk2⟩ := bnd h
  clear h
  refine WC.loop (σ := Int × Int) (τ := (Int)) (fun sS => ⟨[(11, .v (.int .i64 sS.1)), (10, .v (.int .i64 (slices.length : Int))), (9, .v (.sl 1 (slices.map eLInt_i64))), (3, .v (.int .i64 sS.2)), (0, .v (.sl 1 (slices.map eLInt_i64)))], []⟩) (concatInt_b2 slices) [] ((0 : Int), (0 : Int)) hl2 sub ?_
  rintro ⟨t11, size2⟩ m hn2 he2 hx2
  obtain ⟨o2, hf2⟩ := some_of hx2
  have h := hf2
  unfold concatInt_b2 at h
  try dsimp only [slotsOf]
  refine sr (lr1 rfl (nn (WC.seq ?_)))
  refine WC.cond rfl (fun hc2 => ?_) (fun hc2 => ?_)
  ·replace h := ite_t hc2 h
   refine kn (sb (sr ?_))
   obtain ⟨g3, h⟩ := grd h
   replace h := bnd h; obtain ⟨x4, hxx4, h⟩ := h
   refine WL.q [] rfl rfl rfl (q_idx tbOk rfl (by exact trivial) g3 (map_get (f := eLInt_i64) hxx4)) ?_
   refine lr2 rfl (ns (lr2 rfl ?_))
   refine WL.q [] rfl rfl rfl (q_ev tbOk (.v (.int .i64 (x4.length : Int))) rfl (by exact trivial) (by exact lenT)) ?_
   refine lr2 rfl (ns (lr2 rfl (nn ?_)))
   refine WC.cond rfl (fun hc3 => ?_) (fun hc3 => ?_)
   ·replace h := ite_t hc3 h
    cases h
   ·replace h := ite_f hc3 h
    refine WC.skip (bn (WC.region (lr2 rfl (WL.nil ?_))))
    cases h
    exact WQ.next [] ((IntKind.i64.wrap (t11 + (1 : Int))), (IntKind.i64.wrap (size2 + (x4.length : Int)))) sub (hn2 _ hf2)
  ·replace h := ite_f hc2 h
   refine WC.exit (WQ.thenExit ?_)
   cases h
   have he := he2 _ hf2
   subst he
   replace h := hk2
   try dsimp only at h
   refine eb ?_
   exact WQ.cut [] size2 sub h
 ·intro size h
  replace h : concatInt_j1 slices size = some _ := h
  unfold concatInt_j1 at h
  try dsimp only [slotsOf]
  refine sr (lr1 rfl ?_)
  replace h := bnd h; obtain ⟨v, hvv, h⟩ := h
  refine WL.callO [] [(500, 24)] [24] fn155 rfl rfl rfl rfl (by exact trivial) (growInt_con hw hvv) rfl rfl (by exact trivial) rfl rfl rfl rfl rfl rfl ?_
  refine lr1 rfl (nn (WC.seq (sr (lr1 rfl ?_))))
  refine WL.q [] rfl rfl rfl (q_ev tbOk (.v (.int .i64 (slices.length : Int))) rfl (by exact trivial) (by exact lenT)) ?_
  refine lr1 rfl (nn ?_)
  refine WC.thenCut (X := (List Int)) (fun gG => ⟨[(6, .r 1006)], [(1006, .row 3 1 (gG.map eInt_i64))]⟩) (fun gG => concatInt_j2 gG = some r) ?_ ?_
  ·refine WC.block ?_
   obtain ⟨eQ1, hl1, hk1⟩ := bnd h
   clear h
   refine WC.loop (σ := Int × (List Int)) (τ := ((List Int))) (fun sS => ⟨[(27, .v (.int .i64 sS.1)), (26, .v (.int .i64 (slices.length : Int))), (25, .v (.sl 1 (slices.map eLInt_i64))), (6, .r 1006)], [(1006, .row 3 1 (sS.2.map eInt_i64))]⟩) (concatInt_b1 slices) [(1006, 24)] ((0 : Int), v) hl1 sub ?_
   rintro ⟨t27, newslice2⟩ m hn1 he1 hx1
   obtain ⟨o1, hf1⟩ := some_of hx1
   have h := hf1
   unfold concatInt_b1 at h
   try dsimp only [slotsOf]
   refine sr (lr1 rfl (nn (WC.seq ?_)))
   refine WC.cond rfl (fun hc1 => ?_) (fun hc1 => ?_)
   ·replace h := ite_t hc1 h
    refine kn (sb (sr ?_))
    obtain ⟨g1, h⟩ := grd h
    replace h := bnd h; obtain ⟨x2, hxx2, h⟩ := h
    refine WL.q [] rfl rfl rfl (q_idx tbOk rfl (by exact trivial) g1 (map_get (f := eLInt_i64) hxx2)) ?_
    refine lr2 rfl (nn (WC.region (lr2 rfl ?_)))
    obtain ⟨g2, h⟩ := grd h
    refine WL.append tbOk ((newslice2 ++ x2).map eInt_i64) [33, 1006] ap22 rfl rfl rfl rfl (fun _ e => by cases e; rfl) (by exact trivial) (map_cells (f := eInt_i64) (xs := x2) fun _ => rfl) (by have := g2; simp only [List.length_map, List.length_nil, List.length_cons] at this ⊢; omega) rfl rfl (by simp only [List.map_append]; try rfl) rfl ?_
    refine lr1 rfl (WL.nil (bn (WC.region (lr2 rfl (WL.nil ?_)))))
    cases h
    exact WQ.next [(1006, 33)] ((IntKind.i64.wrap (t27 + (1 : Int))), (newslice2 ++ x2)) sub (hn1 _ hf1)
   ·replace h := ite_f hc1 h
    refine WC.exit (WQ.thenExit ?_)
    cases h
    have he := he1 _ hf1
    subst he
    replace h := hk1
    try dsimp only at h
    refine eb ?_
    exact WQ.cut [] newslice2 sub h
  ·intro newslice h
   replace h : concatInt_j2 newslice = some _ := h
   unfold concatInt_j2 at h
   try dsimp only [slotsOf]
   refine sr (lr2 rfl (nr ?_))
   cases h
   exact WQ.rets tbOk hR [(500, 1006)] (.inl rfl) rfl rfl (Le.refl _) (by exact eqs) rfl rfl rfl rfl
theorem complete_con {wg : World} (hw : WG wg) {shares : (List Int)} {r : Bool} (h : complete shares = some r) : Con Tryz.prog wg gl 109 [.v (.sl 1 (shares.map eInt_i64))] [] (.v (.bool r)) [] := by
 unfold complete at h
 refine con_of_WC (S := slotsOf 0 _) Tryz.func109 rfl Tryz.ntmps109 rfl (fun t x hx => (slotsOf_get hx).2) ?_
 intro F L w ρ0 R hR
 try dsimp only [slotsOf]
 refine sr (lr1 rfl (ns (lr1 rfl (nn (WC.seq (sr (lr1 rfl ?_)))))))
 refine WL.q [] rfl rfl rfl (q_ev tbOk (.v (.int .i64 (shares.length : Int))) rfl (by exact trivial) (by exact lenT)) ?_
 refine lr1 rfl (nn ?_)
 refine WC.thenCut (X := Int) (fun gG => ⟨[(3, .v (.int .i64 gG)), (0, .v (.sl 1 (shares.map eInt_i64)))], []⟩) (fun gG => complete_j1 shares gG = some r) ?_ ?_
 ·refine WC.block ?_
  obtain ⟨eQ1, hl1, hk1⟩ := bnd h
  clear h
  refine WC.loop (σ := Int × Int) (τ := (Int)) (fun sS => ⟨[(8, .v (.int .i64 sS.1)), (7, .v (.int .i64 (shares.length : Int))), (6, .v (.sl 1 (shares.map eInt_i64))), (3, .v (.int .i64 sS.2)), (0, .v (.sl 1 (shares.map eInt_i64)))], []⟩) (complete_b1 shares) [] ((0 : Int), (0 : Int)) hl1 sub ?_
  rintro ⟨t8, sum2⟩ m hn1 he1 hx1
  obtain ⟨o1, hf1⟩ := some_of hx1
  have h := hf1
  unfold complete_b1 at h
  try dsimp only [slotsOf]
  refine sr (lr1 rfl (nn (WC.seq ?_)))
  refine WC.cond rfl (fun hc1 => ?_) (fun hc1 => ?_)
  ·replace h := ite_t hc1 h
   refine kn (sb (sr ?_))
   obtain ⟨g1, h⟩ := grd h
   replace h := bnd h; obtain ⟨x2, hxx2, h⟩ := h
   refine WL.q [] rfl rfl rfl (q_idx tbOk rfl (by exact trivial) g1 (map_get (f := eInt_i64) hxx2)) ?_
   refine lr2 rfl (nn (WC.region (lr4 rfl (WL.nil (bn (WC.region (lr2 rfl (WL.nil ?_))))))))
   cases h
   exact WQ.next [] ((IntKind.i64.wrap (t8 + (1 : Int))), (IntKind.i64.wrap (sum2 + x2))) sub (hn1 _ hf1)
  ·replace h := ite_f hc1 h
   refine WC.exit (WQ.thenExit ?_)
   cases h
   have he := he1 _ hf1
   subst he
   replace h := hk1
   try dsimp only at h
   refine eb ?_
   exact WQ.cut [] sum2 sub h
 ·intro sum h
  replace h : complete_j1 shares sum = some _ := h
  unfold complete_j1 at h
  try dsimp only [slotsOf]
  refine sr (lr1 rfl ?_)
  refine WL.q [] rfl rfl rfl (q_ev tbOk (.v (.int .i64 (shares.length : Int))) rfl (by exact trivial) (by exact lenT)) ?_
  refine lr 6 rfl (by exact sideR) ?_
  refine nr ?_
  cases h
  exact rt tbOk hR
theorem goodsValidate_con {wg : World} (hw : WG wg) {g : ApiGood} {r : Int} (h : goodsValidate g = some r) : Con Tryz.prog wg gl 57 [.v (.agg [.sl 1 (g.Words.map eStr), .sl 2 (g.Materials.map eApiMaterial), .sl 2 (g.Parts.map eApiComponent), .bool g.Incomplete])] [] (.v (.int .i64 r)) [] := by
 unfold goodsValidate at h
 refine con_of_WC (S := slotsOf 0 _) Tryz.func57 rfl Tryz.ntmps57 rfl (fun t x hx => (slotsOf_get hx).2) ?_
 intro F L w ρ0 R hR
 try dsimp only [slotsOf]
 refine sr (lr2 rfl (nn (WC.seq (sr (lr2 rfl ?_)))))
 replace h := bnd h; obtain ⟨v, hvv, h⟩ := h
 refine WL.call0 fn106 rfl rfl rfl rfl (by exact trivial) rfl (described_con hw hvv) ?_
 refine lr1 rfl (nn ?_)
 refine WC.cond rfl (fun hc1 => ?_) (fun hc1 => ?_)
 ·replace h := ite_t hc1 h
  refine sr (lr1 rfl (nr (WQ.thenRet ?_)))
  cases h
  exact rt tbOk hR
 ·replace h := ite_f hc1 h
  refine kn (WC.seq (sr (lr2 rfl ?_)))
  refine WL.q [] rfl rfl rfl (q_ev tbOk (.v (.int .i64 (g.Materials.length : Int))) rfl (by exact trivial) (by exact lenT)) ?_
  refine lr 4 rfl (by exact sideR) ?_
  refine WL.gq [] rfl rfl rfl rfl (fun hg => q_ev tbOk (.v (.int .i64 (g.Parts.length : Int))) rfl (by exact sideR) (by exact lenT)) ?_
  refine lr 2 rfl (by exact sideR) ?_
  refine nn ?_
  refine WC.cond rfl (fun hc2 => ?_) (fun hc2 => ?_)
  ·replace h := ite_t hc2 h
   refine sr (lr1 rfl (nr (WQ.thenRet ?_)))
   cases h
   exact rt tbOk hR
  ·replace h := ite_f hc2 h
   refine kn (sr (lr1 rfl (ns (lr2 rfl (nn (WC.seq (sr (lr2 rfl ?_))))))))
   refine WL.q [] rfl rfl rfl (q_ev tbOk (.v (.int .i64 (g.Materials.length : Int))) rfl (by exact trivial) (by exact lenT)) ?_
   refine lr1 rfl (nn ?_)
   refine WC.thenCut (X := (List Int) × (List Str)) (fun gG => ⟨[(5, .v (.raw (.slice none 0 0))), (4, .r 1004), (3, .r 1003), (1, .p 1 0)], [(1004, .row 3 1 (gG.1.map eInt_i64)), (1003, .row 9 1 (gG.2.map eStr)), (1, .blk 43 [.v (.sl 1 (g.Words.map eStr)), .v (.sl 2 (g.Materials.map eApiMaterial)), .v (.sl 2 (g.Parts.map eApiComponent)), .v (.bool g.Incomplete)])]⟩) (fun gG => goodsValidate_j1 g gG.1 gG.2 = some r) ?_ ?_
   ·refine WC.block ?_
    obtain ⟨eQ3, hl3, hk3⟩ := bnd h
    clear h
    refine WC.rowNil 4 1004 3 1 rfl rfl ?_
    refine WC.rowNil 3 1003 9 1 rfl rfl ?_
    refine WC.loop (σ := Int × (List Int) × (List Str)) (τ := ((List Int) × (List Str))) (fun sS => ⟨[(29, .v (.int .i64 sS.1)), (28, .v (.int .i64 (g.Materials.length : Int))), (27, .v (.sl 2 (g.Materials.map eApiMaterial))), (5, .v (.raw (.slice none 0 0))), (4, .r 1004), (3, .r 1003), (1, .p 1 0)], [(1004, .row 3 1 (sS.2.1.map eInt_i64)), (1003, .row 9 1 (sS.2.2.map eStr)), (1, .blk 43 [.v (.sl 1 (g.Words.map eStr)), .v (.sl 2 (g.Materials.map eApiMaterial)), .v (.sl 2 (g.Parts.map eApiComponent)), .v (.bool g.Incomplete)])]⟩) (goodsValidate_b3 g) [] ((0 : Int), [], []) hl3 sub ?_
    rintro ⟨t292, materials6, names2⟩ m hn3 he3 hx3
    obtain ⟨o3, hf3⟩ := some_of hx3
    have h := hf3
    unfold goodsValidate_b3 at h
    try dsimp only [slotsOf]
    refine sr (lr1 rfl (nn (WC.seq ?_)))
    refine WC.cond rfl (fun hc9 => ?_) (fun hc9 => ?_)
    ·replace h := ite_t hc9 h
     refine kn (sb (sr ?_))
     obtain ⟨g4, h⟩ := grd h
     replace h := bnd h; obtain ⟨x6, hxx6, h⟩ := h
     refine WL.q [] rfl rfl rfl (q_idx tbOk rfl (by exact trivial) g4 (map_get (f := eApiMaterial) hxx6)) ?_
     refine lr3 rfl (ns (lr4 rfl ?_))
     obtain ⟨g5, h⟩ := grd h
     refine WL.append tbOk ((names2 ++ [x6.Name]).map eStr) [37, 1003] ap31 rfl rfl rfl rfl (fun _ e => by cases e; rfl) (by exact trivial) (map_cells (f := eStr) (xs := [x6.Name]) fun _ => rfl) (by have := g5; simp only [List.length_map, List.length_nil, List.length_cons] at this ⊢; omega) rfl rfl (by simp only [List.map_append]; try rfl) rfl ?_
     refine lr1 rfl (nn (WC.region (lr4 rfl ?_)))
     obtain ⟨g6, h⟩ := grd h
     refine WL.append tbOk ((materials6 ++ [x6.Share]).map eInt_i64) [42, 1004] ap22 rfl rfl rfl rfl (fun _ e => by cases e; rfl) (by exact trivial) (map_cells (f := eInt_i64) (xs := [x6.Share]) fun _ => rfl) (by have := g6; simp only [List.length_map, List.length_nil, List.length_cons] at this ⊢; omega) rfl rfl (by simp only [List.map_append]; try rfl) rfl ?_
     refine lr1 rfl (WL.nil (bn (WC.region (lr2 rfl (WL.nil ?_)))))
     cases h
     exact WQ.next [(1004, 42), (1003, 37)] ((IntKind.i64.wrap (t292 + (1 : Int))), (materials6 ++ [x6.Share]), (names2 ++ [x6.Name])) sub (hn3 _ hf3)
    ·replace h := ite_f hc9 h
     refine WC.exit (WQ.thenExit ?_)
     cases h
     have he := he3 _ hf3
     subst he
     replace h := hk3
     try dsimp only at h
     refine eb ?_
     exact WQ.cut [] (materials6, names2) sub h
   ·rintro ⟨materials, names⟩ h
    replace h : goodsValidate_j1 g materials names = some _ := h
    unfold goodsValidate_j1 at h
    try dsimp only [slotsOf]
    refine WC.seq (WC.seq ?_)
    refine WC.publish 1003 rfl rfl ?_
    refine WC.region (lr1 rfl ?_)
    replace h := bnd h; obtain ⟨v2, hvv2, h⟩ := h
    refine WL.call0 fn107 rfl rfl rfl rfl (by exact trivial) rfl (validWords_con hw hvv2) ?_
    refine lr1 rfl (nn ?_)
    refine WC.cond rfl (fun hc3 => ?_) (fun hc3 => ?_)
    ·replace h := ite_t hc3 h
     refine sr (lr1 rfl (nr (WQ.thenRet ?_)))
     cases h
     exact rt tbOk hR
    ·replace h := ite_f hc3 h
     refine kn (WC.seq (sr (lr2 rfl ?_)))
     refine WL.q [] rfl rfl rfl (q_ev tbOk (.v (.int .i64 (g.Parts.length : Int))) rfl (by exact trivial) (by exact lenT)) ?_
     refine lr1 rfl (nn ?_)
     refine WC.thenCut (X := (List Int) × (List Int)) (fun gG => ⟨[(5, .r 1005), (4, .r 1004)], [(1005, .row 3 1 (gG.1.map eInt_i64)), (1004, .row 3 1 (gG.2.map eInt_i64))]⟩) (fun gG => goodsValidate_j2 gG.1 gG.2 = some r) ?_ ?_
     ·refine WC.block ?_
      obtain ⟨eQ2, hl2, hk2⟩ := bnd h
      clear h
      refine WC.rowNil 5 1005 3 1 rfl rfl ?_
      refine WC.loop (σ := Int × (List Int) × (List Int)) (τ := ((Int) ⊕ ((List Int) × (List Int)))) (fun sS => ⟨[(50, .v (.int .i64 sS.1)), (49, .v (.int .i64 (g.Parts.length : Int))), (48, .v (.sl 2 (g.Parts.map eApiComponent))), (5, .r 1005), (4, .r 1004)], [(1005, .row 3 1 (sS.2.1.map eInt_i64)), (1004, .row 3 1 (sS.2.2.map eInt_i64))]⟩) (goodsValidate_b2 g) [] ((0 : Int), [], materials) hl2 sub ?_
      rintro ⟨t502, parts2, materials4⟩ m hn2 he2 hx2
      obtain ⟨o2, hf2⟩ := some_of hx2
      have h := hf2
      unfold goodsValidate_b2 at h
      try dsimp only [slotsOf]
      refine sr (lr1 rfl (nn (WC.seq ?_)))
      refine WC.cond rfl (fun hc7 => ?_) (fun hc7 => ?_)
      ·replace h := ite_t hc7 h
       refine kn (sb (sr ?_))
       obtain ⟨g2, h⟩ := grd h
       replace h := bnd h; obtain ⟨x3, hxx3, h⟩ := h
       refine WL.q [] rfl rfl rfl (q_idx tbOk rfl (by exact trivial) g2 (map_get (f := eApiComponent) hxx3)) ?_
       refine lr3 rfl (nn (WC.seq (sr (lr2 rfl ?_))))
       replace h := bnd h; obtain ⟨v8, hvv8, h⟩ := h
       refine WL.call0 fn106 rfl rfl rfl rfl (by exact trivial) rfl (described_con hw hvv8) ?_
       refine lr1 rfl (nn ?_)
       refine WC.cond rfl (fun hc8 => ?_) (fun hc8 => ?_)
       ·replace h := ite_t hc8 h
        refine sr (lr1 rfl (nr (WQ.thenRet (rb ?_))))
        cases h
        have he := he2 _ hf2
        subst he
        have h : some (1 : Int) = some _ := hk2
        refine WQ.thenRet (rb ?_)
        cases h
        exact rt tbOk hR
       ·replace h := ite_f hc8 h
        refine kn (WC.region (lr4 rfl ?_))
        obtain ⟨g3, h⟩ := grd h
        refine WL.append tbOk ((parts2 ++ [x3.Share]).map eInt_i64) [62, 1005] ap22 rfl rfl rfl rfl (fun _ e => by cases e; rfl) (by exact trivial) (map_cells (f := eInt_i64) (xs := [x3.Share]) fun _ => rfl) (by have := g3; simp only [List.length_map, List.length_nil, List.length_cons] at this ⊢; omega) rfl rfl (by simp only [List.map_append]; try rfl) rfl ?_
        refine lr1 rfl (WL.nil (bn (WC.region (lr2 rfl (WL.nil ?_)))))
        cases h
        exact WQ.next [(1005, 62)] ((IntKind.i64.wrap (t502 + (1 : Int))), (parts2 ++ [x3.Share]), materials4) sub (hn2 _ hf2)
      ·replace h := ite_f hc7 h
       refine WC.exit (WQ.thenExit ?_)
       cases h
       have he := he2 _ hf2
       subst he
       replace h := hk2
       try dsimp only at h
       refine eb ?_
       exact WQ.cut [] (parts2, materials4) sub h
     ·rintro ⟨parts, materials2⟩ h
      replace h : goodsValidate_j2 parts materials2 = some _ := h
      unfold goodsValidate_j2 at h
      try dsimp only [slotsOf]
      refine WC.seq (WC.seq ?_)
      refine WC.publish 1004 rfl rfl ?_
      refine WC.publish 1005 rfl rfl ?_
      refine WC.region (lr3 rfl ?_)
      replace h := bnd h; obtain ⟨v3, hvv3, h⟩ := h
      refine WL.callO [] [(500, 67)] [67] fn108 rfl rfl rfl rfl (by exact trivial) (concatInt_con hw hvv3) rfl rfl (by exact trivial) rfl rfl rfl rfl rfl rfl ?_
      refine WL.q [67] rfl rfl rfl (q_ev tbOk (.v (.int .i64 (v3.length : Int))) rfl (by exact trivial) (by exact lenT)) ?_
      refine lr1 rfl (nn ?_)
      refine WC.thenCut (X := Unit) (fun gG => ⟨[(5, .v (.sl 1 (parts.map eInt_i64))), (4, .v (.sl 1 (materials2.map eInt_i64)))], []⟩) (fun gG => goodsValidate_j3 parts materials2 = some r) ?_ ?_
      ·refine WC.block ?_
       obtain ⟨eQ1, hl1, hk1⟩ := bnd h
       clear h
       refine WC.loop (σ := Int × (List Int)) (τ := ((Int) ⊕ (Unit))) (fun sS => ⟨[(69, .v (.int .i64 sS.1)), (68, .v (.int .i64 (v3.length : Int))), (67, .r 1067), (5, .v (.sl 1 (parts.map eInt_i64))), (4, .v (.sl 1 (materials2.map eInt_i64)))], [(1067, .row 3 1 (sS.2.map eInt_i64))]⟩) (goodsValidate_b1 parts materials2 v3) [(1067, 67)] ((0 : Int), v3) hl1 sub ?_
       rintro ⟨t69, t67⟩ m hn1 he1 hx1
       obtain ⟨o1, hf1⟩ := some_of hx1
       have h := hf1
       unfold goodsValidate_b1 at h
       try dsimp only [slotsOf]
       refine sr (lr1 rfl (nn (WC.seq ?_)))
       refine WC.cond rfl (fun hc5 => ?_) (fun hc5 => ?_)
       ·replace h := ite_t hc5 h
        refine kn (sb (sr ?_))
        obtain ⟨g1, h⟩ := grd h
        refine WL.q [1067] rfl rfl rfl (q_ridx tbOk rfl (by exact trivial) rfl (by simpa only [List.length_map] using g1)) ?_
        refine WL.q [1067] rfl rfl rfl (x := .v (.int .i64 (t67.getD t69.toNat default))) (q_rload tbOk rfl (by exact trivial) rfl (map_getD (f := eInt_i64) g1.2 g1.1) rfl) ?_
        refine lr1 rfl (ns ?_)
        refine lr 6 rfl (by exact sideR) ?_
        refine nn ?_
        refine WC.cond rfl (fun hc6 => ?_) (fun hc6 => ?_)
        ·replace h := ite_t hc6 h
         refine sr (lr1 rfl (nr (rb ?_)))
         cases h
         have he := he1 _ hf1
         subst he
         have h : some (2 : Int) = some _ := hk1
         refine WQ.thenRet (rb ?_)
         cases h
         exact rt tbOk hR
        ·replace h := ite_f hc6 h
         refine WC.skip (bn (WC.region (lr2 rfl (WL.nil ?_))))
         cases h
         exact WQ.next [] ((IntKind.i64.wrap (t69 + (1 : Int))), t67) sub (hn1 _ hf1)
       ·replace h := ite_f hc5 h
        refine WC.exit (WQ.thenExit ?_)
        cases h
        have he := he1 _ hf1
        subst he
        replace h := hk1
        try dsimp only at h
        refine eb ?_
        exact WQ.cut [] () sub h
      ·intro _ h
       replace h : goodsValidate_j3 parts materials2 = some _ := h
       unfold goodsValidate_j3 at h
       try dsimp only [slotsOf]
       refine WC.seq (sr (lr1 rfl ?_))
       replace h := bnd h; obtain ⟨v4, hvv4, h⟩ := h
       refine WL.call0 fn109 rfl rfl rfl rfl (by exact trivial) rfl (complete_con hw hvv4) ?_
       refine lr 3 rfl (by exact sideR) ?_
       replace h := bnd h; obtain ⟨v5, hvv5, h⟩ := h
       refine WL.gcall0 fn109 rfl rfl rfl rfl rfl (fun _ => (by exact sideR)) rfl (fun hg => (complete_con hw (ite_t hg hvv5))) ?_
       refine lr 2 rfl (by exact sideR) ?_
       refine nn ?_
       refine WC.cond rfl (fun hc4 => ?_) (fun hc4 => ?_)
       ·replace h := ite_t hc4 h
        refine sr (lr1 rfl (nr (WQ.thenRet ?_)))
        cases h
        exact rt tbOk hR
       ·replace h := ite_f hc4 h
        refine kn (sr (lr1 rfl (nr ?_)))
        cases h
        exact rt tbOk hR
theorem charLess_con {wg : World} (hw : WG wg) {a : ApiComponent} {b : ApiComponent} {r : Int} (h : charLess a b = some r) : Con Tryz.prog wg gl 127 [.v (.agg [.sl 1 (a.Words.map eStr), .int .i64 a.Share]), .v (.agg [.sl 1 (b.Words.map eStr), .int .i64 b.Share])] [] (.v (.int .i64 r)) [] := by
 unfold charLess at h
 refine con_of_WC (S := slotsOf 0 _) Tryz.func127 rfl Tryz.ntmps127 rfl (fun t x hx => (slotsOf_get hx).2) ?_
 intro F L w ρ0 R hR
 try dsimp only [slotsOf]
 refine sr (lr3 rfl (ns (lr4 rfl ?_)))
 replace h := bnd h; obtain ⟨v, hvv, h⟩ := h
 refine WL.call0 fn128 rfl rfl rfl rfl (by exact trivial) rfl (cmpInt_con hw hvv) ?_
 refine lr1 rfl (nr ?_)
 cases h
 exact rt tbOk hR
theorem insSort_con {wg : World} (hw : WG wg) {data : (List ApiComponent)} {a : Int} {b : Int} {r : (List ApiComponent)} (h : insSort data a b = some r) : Con Tryz.prog wg gl 183 [.r 0, .v (.int .i64 a), .v (.int .i64 b), .fn 127 []] [(0, .row 96 2 (data.map eApiComponent))] (.tup []) [(0, .row 96 2 (r.map eApiComponent))] := by
 unfold insSort at h
 refine con_of_WC (S := slotsOf 0 _) Tryz.func183 rfl Tryz.ntmps183 rfl (fun t x hx => (slotsOf_get hx).2) ?_
 intro F L w ρ0 R hR
 try dsimp only [slotsOf]
 refine sr (lr3 rfl (nn (WC.block ?_)))
 obtain ⟨eQ1, hl1, hk1⟩ := bnd h
 clear h
 refine WC.loop (σ := Int × (List ApiComponent)) (τ := ((List ApiComponent))) (fun sS => ⟨[(8, .v (.int .i64 sS.1)), (0, .r 0), (1, .v (.int .i64 a)), (2, .v (.int .i64 b)), (3, .fn 127 [])], [(0, .row 96 2 (sS.2.map eApiComponent))]⟩) (insSort_b1 a b) [] ((IntKind.i64.wrap (a + (1 : Int))), data) hl1 sub ?_
 rintro ⟨i, row0⟩ m hn1 he1 hx1
 obtain ⟨o1, hf1⟩ := some_of hx1
 have h := hf1
 unfold insSort_b1 at h
 try dsimp only [slotsOf]
 refine WC.seq (sr (lr3 rfl (nn ?_)))
 refine WC.cond rfl (fun hc1 => ?_) (fun hc1 => ?_)
 ·replace h := ite_t hc1 h
  refine kn (WC.seq ?_)
  refine WC.thenCut (X := (List ApiComponent)) (fun gG => ⟨[(8, .v (.int .i64 i)), (0, .r 0), (1, .v (.int .i64 a)), (2, .v (.int .i64 b)), (3, .fn 127 [])], [(0, .row 96 2 (gG.map eApiComponent))]⟩) (fun gG => insSort_j1 a b i gG = some o1) ?_ ?_
  ·refine WC.block (sr (lr2 rfl (nn (WC.block ?_))))
   obtain ⟨eQ2, hl2, hk2⟩ := bnd h
   clear h
   refine WC.loop (σ := Int × (List ApiComponent)) (τ := ((List ApiComponent))) (fun sS => ⟨[(9, .v (.int .i64 sS.1)), (8, .v (.int .i64 i)), (0, .r 0), (1, .v (.int .i64 a)), (2, .v (.int .i64 b)), (3, .fn 127 [])], [(0, .row 96 2 (sS.2.map eApiComponent))]⟩) (insSort_b2 a b i) [] (i, row0) hl2 sub ?_
   rintro ⟨j3, row09⟩ m hn2 he2 hx2
   obtain ⟨o2, hf2⟩ := some_of hx2
   have h := hf2
   unfold insSort_b2 at h
   try dsimp only [slotsOf]
   refine WC.seq (WC.seq (WC.order mixed ?_))
   refine wr 7 rfl (by exact sideR) ?_
   obtain ⟨g1, h⟩ := grd h
   refine WR.gq [0] rfl rfl rfl rfl (fun hg => q_ridx tbOk rfl (by exact sideR) rfl (by simpa only [List.length_map] using g1 hg)) ?_
   refine WR.gq [0] rfl rfl rfl rfl (x := .v (.agg [.sl 1 (((row09.getD j3.toNat default).Words).map eStr), .int .i64 ((row09.getD j3.toNat default).Share)])) (fun hg => q_rload tbOk rfl (by exact sideR) rfl (map_getD (f := eApiComponent) (g1 hg).2 (g1 hg).1) rfl) ?_
   refine wr 3 rfl (by exact sideR) ?_
   obtain ⟨g2, h⟩ := grd h
   refine WR.gq [0] rfl rfl rfl rfl (fun hg => q_ridx tbOk rfl (by exact sideR) rfl (by simpa only [List.length_map] using g2 hg)) ?_
   refine WR.gq [0] rfl rfl rfl rfl (x := .v (.agg [.sl 1 (((row09.getD (IntKind.i64.wrap (j3 - (1 : Int))).toNat default).Words).map eStr), .int .i64 ((row09.getD (IntKind.i64.wrap (j3 - (1 : Int))).toNat default).Share)])) (fun hg => q_rload tbOk rfl (by exact sideR) rfl (map_getD (f := eApiComponent) (g2 hg).2 (g2 hg).1) rfl) ?_
   replace h := bnd h; obtain ⟨v4, hvv4, h⟩ := h
   refine WR.gcall0 fn127 rfl rfl rfl rfl rfl (fun _ => (by exact sideR)) rfl (fun hg => (charLess_con hw (ite_t hg hvv4))) ?_
   refine wr 2 rfl (by exact sideR) ?_
   refine WR.nil (by kernel_rfl) (WQ.thenNormal ?_)
   refine WC.cond rfl (fun hc2 => ?_) (fun hc2 => ?_)
   ·replace h := ite_t hc2 h
    refine kn (sb (WC.order mixed ?_))
    refine wr 8 rfl trivial ?_
    obtain ⟨g3, h⟩ := grd h
    refine WR.q [0] rfl rfl rfl (q_ridx tbOk rfl (by exact trivial) rfl (by simpa only [List.length_map] using g3)) ?_
    refine WR.q [0] rfl rfl rfl (x := .v (.agg [.sl 1 (((row09.getD (IntKind.i64.wrap (j3 - (1 : Int))).toNat default).Words).map eStr), .int .i64 ((row09.getD (IntKind.i64.wrap (j3 - (1 : Int))).toNat default).Share)])) (q_rload tbOk rfl (by exact trivial) rfl (map_getD (f := eApiComponent) g3.2 g3.1) rfl) ?_
    refine wr 2 rfl trivial ?_
    obtain ⟨g4, h⟩ := grd h
    refine WR.q [0] rfl rfl rfl (q_ridx tbOk rfl (by exact trivial) rfl (by simpa only [List.length_map] using g4)) ?_
    refine WR.q [0] rfl rfl rfl (x := .v (.agg [.sl 1 (((row09.getD j3.toNat default).Words).map eStr), .int .i64 ((row09.getD j3.toNat default).Share)])) (q_rload tbOk rfl (by exact trivial) rfl (map_getD (f := eApiComponent) g4.2 g4.1) rfl) ?_
    obtain ⟨g5, h⟩ := grd h
    refine WR.q [0] rfl rfl rfl (q_ridx tbOk rfl (by exact trivial) rfl (by simpa only [List.length_map] using g5)) ?_
    refine WR.rstore tbOk ((row09.set j3.toNat (row09.getD (IntKind.i64.wrap (j3 - (1 : Int))).toNat default)).map eApiComponent) rfl rfl rfl (by exact trivial) rfl (map_getD (f := eApiComponent) g5.2 g5.1) rfl (mapset (f := eApiComponent) (x := (row09.getD (IntKind.i64.wrap (j3 - (1 : Int))).toNat default)) (by rfl)) ?_
    obtain ⟨g6, h⟩ := grd h
    refine WR.q [0] rfl rfl rfl (q_ridx tbOk rfl (by exact trivial) rfl (by simpa only [List.length_map] using g6)) ?_
    refine WR.rstore tbOk (((row09.set j3.toNat (row09.getD (IntKind.i64.wrap (j3 - (1 : Int))).toNat default)).set (IntKind.i64.wrap (j3 - (1 : Int))).toNat (row09.getD j3.toNat default)).map eApiComponent) rfl rfl rfl (by exact trivial) rfl (map_getD (f := eApiComponent) g6.2 g6.1) rfl (mapset (f := eApiComponent) (x := (row09.getD j3.toNat default)) (by rfl)) ?_
    refine WR.nil (by kernel_rfl) (bn (WC.region (lr3 rfl (WL.nil ?_))))
    cases h
    exact WQ.next [] ((IntKind.i64.wrap (j3 - (1 : Int))), ((row09.set j3.toNat (row09.getD (IntKind.i64.wrap (j3 - (1 : Int))).toNat default)).set (IntKind.i64.wrap (j3 - (1 : Int))).toNat (row09.getD j3.toNat default))) sub (hn2 _ hf2)
   ·replace h := ite_f hc2 h
    refine WC.exit (WQ.thenExit ?_)
    cases h
    have he := he2 _ hf2
    subst he
    replace h := hk2
    try dsimp only at h
    refine eb (WQ.blockNormal ?_)
    exact WQ.cut [] row09 sub h
  ·intro row08 h
   replace h : insSort_j1 a b i row08 = some _ := h
   unfold insSort_j1 at h
   try dsimp only [slotsOf]
   refine WC.region (lr3 rfl (WL.nil ?_))
   cases h
   exact WQ.next [] ((IntKind.i64.wrap (i + (1 : Int))), row08) sub (hn1 _ hf1)
 ·replace h := ite_f hc1 h
  refine WC.exit (WQ.thenExit ?_)
  cases h
  have he := he1 _ hf1
  subst he
  replace h := hk1
  try dsimp only at h
  refine eb ?_
  cases h
  exact WQ.rets tbOk (r := .tup []) hR [] (.inr rfl) rfl rfl (Le.tup .nil) (by exact eqs) rfl rfl rfl rfl
theorem stableSort_con {wg : World} (hw : WG wg) {data : (List ApiComponent)} {n1 : Int} {r : (List ApiComponent)} (h : stableSort data n1 = some r) : Con Tryz.prog wg gl 161 [.r 0, .v (.int .i64 n1), .fn 127 []] [(0, .row 96 2 (data.map eApiComponent))] (.tup []) [(0, .row 96 2 (r.map eApiComponent))] := by
 unfold stableSort at h
 refine con_of_WC (S := slotsOf 0 _) Tryz.func161 rfl Tryz.ntmps161 rfl (fun t x hx => (slotsOf_get hx).2) ?_
 intro F L w ρ0 R hR
 try dsimp only [slotsOf]
 refine sr (lr1 rfl (ns (lr3 rfl (nn (WC.seq ?_)))))
 refine WC.thenCut (X := Int × (List ApiComponent)) (fun gG => ⟨[(7, .v (.int .i64 gG.1)), (6, .v (.int .i64 (20 : Int))), (0, .r 0), (1, .v (.int .i64 n1)), (2, .fn 127 [])], [(0, .row 96 2 (gG.2.map eApiComponent))]⟩) (fun gG => stableSort_j1 n1 gG.1 gG.2 = some r) ?_ ?_
 ·refine WC.block ?_
  obtain ⟨eQ3, hl3, hk3⟩ := bnd h
  clear h
  refine WC.loop (σ := Int × Int × (List ApiComponent)) (τ := (Int × (List ApiComponent))) (fun sS => ⟨[(8, .v (.int .i64 sS.1)), (7, .v (.int .i64 sS.2.1)), (6, .v (.int .i64 (20 : Int))), (0, .r 0), (1, .v (.int .i64 n1)), (2, .fn 127 [])], [(0, .row 96 2 (sS.2.2.map eApiComponent))]⟩) (stableSort_b3 n1) [] ((20 : Int), (0 : Int), data) hl3 sub ?_
  rintro ⟨b5, a10, row02⟩ m hn3 he3 hx3
  obtain ⟨o3, hf3⟩ := some_of hx3
  have h := hf3
  unfold stableSort_b3 at h
  try dsimp only [slotsOf]
  refine WC.seq (sr (lr3 rfl (nn ?_)))
  refine WC.cond rfl (fun hc4 => ?_) (fun hc4 => ?_)
  ·replace h := ite_t hc4 h
   refine kn (WC.block (sr (lr4 rfl ?_)))
   replace h := bnd h; obtain ⟨v3, hvv3, h⟩ := h
   refine WL.callO [(0, 0)] [(0, 0)] [0] fn183 rfl rfl rfl rfl (by exact trivial) (insSort_con hw hvv3) rfl rfl (by exact eqs) rfl rfl rfl rfl rfl rfl ?_
   refine ns (lr2 rfl (nn (WC.region (lr4 rfl (WL.nil (WQ.blockNormal ?_))))))
   cases h
   exact WQ.next [] ((IntKind.i64.wrap (b5 + (20 : Int))), b5, v3) sub (hn3 _ hf3)
  ·replace h := ite_f hc4 h
   refine WC.exit (WQ.thenExit ?_)
   cases h
   have he := he3 _ hf3
   subst he
   replace h := hk3
   try dsimp only at h
   refine eb ?_
   exact WQ.cut [] (a10, row02) sub h
 ·rintro ⟨a, row0⟩ h
  replace h : stableSort_j1 n1 a row0 = some _ := h
  unfold stableSort_j1 at h
  try dsimp only [slotsOf]
  refine sr (lr4 rfl ?_)
  replace h := bnd h; obtain ⟨v, hvv, h⟩ := h
  refine WL.callO [(0, 0)] [(0, 0)] [0] fn183 rfl rfl rfl rfl (by exact trivial) (insSort_con hw hvv) rfl rfl (by exact eqs) rfl rfl rfl rfl rfl rfl ?_
  refine nn (WC.block ?_)
  obtain ⟨eQ1, hl1, hk1⟩ := bnd h
  clear h
  refine WC.loop (σ := Int) (τ := (Unit)) (fun sS => ⟨[(6, .v (.int .i64 sS)), (0, .r 0), (1, .v (.int .i64 n1)), (2, .fn 127 [])], [(0, .row 96 2 (v.map eApiComponent))]⟩) (stableSort_b1 n1 v) [] (20 : Int) hl1 sub ?_
  intro blockSize m hn1 he1 hx1
  obtain ⟨o1, hf1⟩ := some_of hx1
  have h := hf1
  unfold stableSort_b1 at h
  try dsimp only [slotsOf]
  refine WC.seq (sr (lr3 rfl (nn ?_)))
  refine WC.cond rfl (fun hc1 => ?_) (fun hc1 => ?_)
  ·replace h := ite_t hc1 h
   refine kn (WC.block (sr (lr4 rfl (nn (WC.seq ?_)))))
   refine WC.thenCut (X := Int) (fun gG => ⟨[(7, .v (.int .i64 gG)), (6, .v (.int .i64 blockSize)), (0, .r 0), (1, .v (.int .i64 n1)), (2, .fn 127 [])], [(0, .row 96 2 (v.map eApiComponent))]⟩) (fun gG => stableSort_j2 n1 v blockSize gG = some o1) ?_ ?_
   ·refine WC.block ?_
    obtain ⟨eQ2, hl2, hk2⟩ := bnd h
    clear h
    refine WC.loop (σ := Int × Int) (τ := (Int)) (fun sS => ⟨[(8, .v (.int .i64 sS.1)), (7, .v (.int .i64 sS.2)), (6, .v (.int .i64 blockSize)), (0, .r 0), (1, .v (.int .i64 n1)), (2, .fn 127 [])], [(0, .row 96 2 (v.map eApiComponent))]⟩) (stableSort_b2 n1 v blockSize) [] ((IntKind.i64.wrap ((2 : Int) * blockSize)), (0 : Int)) hl2 sub ?_
    rintro ⟨b3, a7⟩ m hn2 he2 hx2
    obtain ⟨o2, hf2⟩ := some_of hx2
    have h := hf2
    unfold stableSort_b2 at h
    try dsimp only [slotsOf]
    refine WC.seq (sr (lr3 rfl (nn ?_)))
    refine WC.cond rfl (fun hc3 => ?_) (fun hc3 => ?_)
    ·replace h := ite_t hc3 h
     refine kn (WC.block (WC.seq ?_))
     cases h
    ·replace h := ite_f hc3 h
     refine WC.exit (WQ.thenExit ?_)
     cases h
     have he := he2 _ hf2
     subst he
     replace h := hk2
     try dsimp only at h
     refine eb ?_
     exact WQ.cut [] a7 sub h
   ·intro a6 h
    replace h : stableSort_j2 n1 v blockSize a6 = some _ := h
    unfold stableSort_j2 at h
    try dsimp only [slotsOf]
    refine WC.seq (sr (lr4 rfl (ns (lr3 rfl (nn ?_)))))
    refine WC.cond rfl (fun hc2 => ?_) (fun hc2 => ?_)
    ·replace h := ite_t hc2 h
     cases h
    ·replace h := ite_f hc2 h
     refine kn (WC.region (lr3 rfl (WL.nil (WQ.blockNormal ?_))))
     cases h
     exact WQ.next [] (IntKind.i64.wrap (blockSize * (2 : Int))) sub (hn1 _ hf1)
  ·replace h := ite_f hc1 h
   refine WC.exit (WQ.thenExit ?_)
   cases h
   have he := he1 _ hf1
   subst he
   replace h := hk1
   try dsimp only at h
   refine eb ?_
   cases h
   exact WQ.rets tbOk (r := .tup []) hR [] (.inr rfl) rfl rfl (Le.tup .nil) (by exact eqs) rfl rfl rfl rfl
theorem sortStable_con {wg : World} (hw : WG wg) {x : (List ApiComponent)} {r : (List ApiComponent)} (h : sortStable x = some r) : Con Tryz.prog wg gl 126 [.r 0, .fn 127 []] [(0, .row 96 2 (x.map eApiComponent))] (.tup []) [(0, .row 96 2 (r.map eApiComponent))] := by
 unfold sortStable at h
 refine con_of_WC (S := slotsOf 0 _) Tryz.func126 rfl Tryz.ntmps126 rfl (fun t x hx => (slotsOf_get hx).2) ?_
 intro F L w ρ0 R hR
 try dsimp only [slotsOf]
 refine WC.region (lr2 rfl ?_)
 refine WL.q [0] rfl rfl rfl (q_ev tbOk (.v (.int .i64 (x.length : Int))) rfl (by exact trivial) (by exact lenT)) ?_
 refine lr1 rfl ?_
 replace h := bnd h; obtain ⟨v, hvv, h⟩ := h
 refine WL.callO [(0, 0)] [(0, 0)] [0] fn161 rfl rfl rfl rfl (by exact trivial) (stableSort_con hw hvv) rfl rfl (by exact eqs) rfl rfl rfl rfl rfl rfl ?_
 refine WL.nil ?_
 cases h
 exact WQ.rets tbOk (r := .tup []) hR [] (.inr rfl) rfl rfl (Le.tup .nil) (by exact eqs) rfl rfl rfl rfl
theorem goodsCharacters_con {wg : World} (hw : WG wg) {g : ApiGood} {r : (List ApiComponent)} (h : goodsCharacters g = some r) : Con Tryz.prog wg gl 73 [.v (.agg [.sl 1 (g.Words.map eStr), .sl 2 (g.Materials.map eApiMaterial), .sl 2 (g.Parts.map eApiComponent), .bool g.Incomplete])] [] (.v (.sl 2 (r.map eApiComponent))) [] := by
 unfold goodsCharacters at h
 refine con_of_WC (S := slotsOf 0 _) Tryz.func73 rfl Tryz.ntmps73 rfl (fun t x hx => (slotsOf_get hx).2) ?_
 intro F L w ρ0 R hR
 try dsimp only [slotsOf]
 refine sr (lr2 rfl (ns (lr1 rfl (nn (WC.seq (sr (lr2 rfl ?_)))))))
 refine WL.q [] rfl rfl rfl (q_ev tbOk (.v (.int .i64 (g.Parts.length : Int))) rfl (by exact trivial) (by exact lenT)) ?_
 refine lr1 rfl (nn ?_)
 refine WC.thenCut (X := (List ApiComponent)) (fun gG => ⟨[(3, .r 1003), (1, .p 1 0)], [(1003, .row 96 2 (gG.map eApiComponent)), (1, .blk 43 [.v (.sl 1 (g.Words.map eStr)), .v (.sl 2 (g.Materials.map eApiMaterial)), .v (.sl 2 (g.Parts.map eApiComponent)), .v (.bool g.Incomplete)])]⟩) (fun gG => goodsCharacters_j1 g gG = some r) ?_ ?_
 ·refine WC.block ?_
  obtain ⟨eQ2, hl2, hk2⟩ := bnd h
  clear h
  refine WC.rowNil 3 1003 96 2 rfl rfl ?_
  refine WC.loop (σ := Int × (List ApiComponent)) (τ := ((List ApiComponent))) (fun sS => ⟨[(11, .v (.int .i64 sS.1)), (10, .v (.int .i64 (g.Parts.length : Int))), (9, .v (.sl 2 (g.Parts.map eApiComponent))), (3, .r 1003), (1, .p 1 0)], [(1003, .row 96 2 (sS.2.map eApiComponent)), (1, .blk 43 [.v (.sl 1 (g.Words.map eStr)), .v (.sl 2 (g.Materials.map eApiMaterial)), .v (.sl 2 (g.Parts.map eApiComponent)), .v (.bool g.Incomplete)])]⟩) (goodsCharacters_b2 g) [] ((0 : Int), []) hl2 sub ?_
  rintro ⟨t112, l6⟩ m hn2 he2 hx2
  obtain ⟨o2, hf2⟩ := some_of hx2
  have h := hf2
  unfold goodsCharacters_b2 at h
  try dsimp only [slotsOf]
  refine sr (lr1 rfl (nn (WC.seq ?_)))
  refine WC.cond rfl (fun hc3 => ?_) (fun hc3 => ?_)
  ·replace h := ite_t hc3 h
   refine kn (sb (sr ?_))
   obtain ⟨g3, h⟩ := grd h
   replace h := bnd h; obtain ⟨x5, hxx5, h⟩ := h
   refine WL.q [] rfl rfl rfl (q_idx tbOk rfl (by exact trivial) g3 (map_get (f := eApiComponent) hxx5)) ?_
   refine lr3 rfl (nn (WC.order mixed ?_))
   refine wr 3 rfl trivial ?_
   replace h := bnd h; obtain ⟨v4, hvv4, h⟩ := h
   refine WR.call0 fn77 rfl rfl rfl rfl (by exact trivial) rfl (cloneS_con hw hvv4) ?_
   refine wr 4 rfl trivial ?_
   obtain ⟨g4, h⟩ := grd h
   refine WR.append tbOk ((l6 ++ [(⟨v4, x5.Share⟩ : ApiComponent)]).map eApiComponent) [23, 1003] ap41 rfl rfl rfl rfl (fun _ e => by cases e; rfl) (by exact trivial) (map_cells (f := eApiComponent) (xs := [(⟨v4, x5.Share⟩ : ApiComponent)]) fun _ => rfl) (by have := g4; simp only [List.length_map, List.length_nil, List.length_cons] at this ⊢; omega) rfl rfl (by simp only [List.map_append]; try rfl) rfl rfl ?_
   refine wr 1 rfl trivial ?_
   refine WR.nil (by kernel_rfl) (bn (WC.region (lr2 rfl (WL.nil ?_))))
   cases h
   exact WQ.next [(1003, 23)] ((IntKind.i64.wrap (t112 + (1 : Int))), (l6 ++ [(⟨v4, x5.Share⟩ : ApiComponent)])) sub (hn2 _ hf2)
  ·replace h := ite_f hc3 h
   refine WC.exit (WQ.thenExit ?_)
   cases h
   have he := he2 _ hf2
   subst he
   replace h := hk2
   try dsimp only at h
   refine eb ?_
   exact WQ.cut [] l6 sub h
 ·intro l h
  replace h : goodsCharacters_j1 g l = some _ := h
  unfold goodsCharacters_j1 at h
  try dsimp only [slotsOf]
  refine WC.seq (sr (lr2 rfl ?_))
  refine WL.q [] rfl rfl rfl (q_ev tbOk (.v (.int .i64 (g.Parts.length : Int))) rfl (by exact trivial) (by exact lenT)) ?_
  refine lr1 rfl (nn ?_)
  refine WC.thenCut (X := (List ApiComponent)) (fun gG => ⟨[(3, .r 1003)], [(1003, .row 96 2 (gG.map eApiComponent))]⟩) (fun gG => goodsCharacters_j2 gG = some r) ?_ ?_
  ·refine WC.cond rfl (fun hc1 => ?_) (fun hc1 => ?_)
   ·replace h := ite_t hc1 h
    refine sr (lr2 rfl ?_)
    refine WL.q [] rfl rfl rfl (q_ev tbOk (.v (.int .i64 (g.Materials.length : Int))) rfl (by exact trivial) (by exact lenT)) ?_
    refine lr1 rfl (nn (WC.block ?_))
    obtain ⟨eQ1, hl1, hk1⟩ := bnd h
    clear h
    refine WC.loop (σ := Int × (List ApiComponent)) (τ := ((List ApiComponent))) (fun sS => ⟨[(32, .v (.int .i64 sS.1)), (31, .v (.int .i64 (g.Materials.length : Int))), (30, .v (.sl 2 (g.Materials.map eApiMaterial))), (3, .r 1003)], [(1003, .row 96 2 (sS.2.map eApiComponent))]⟩) (goodsCharacters_b1 g) [] ((0 : Int), l) hl1 sub ?_
    rintro ⟨t32, l3⟩ m hn1 he1 hx1
    obtain ⟨o1, hf1⟩ := some_of hx1
    have h := hf1
    unfold goodsCharacters_b1 at h
    try dsimp only [slotsOf]
    refine sr (lr1 rfl (nn (WC.seq ?_)))
    refine WC.cond rfl (fun hc2 => ?_) (fun hc2 => ?_)
    ·replace h := ite_t hc2 h
     refine kn (sb (sr ?_))
     obtain ⟨g1, h⟩ := grd h
     replace h := bnd h; obtain ⟨x2, hxx2, h⟩ := h
     refine WL.q [] rfl rfl rfl (q_idx tbOk rfl (by exact trivial) g1 (map_get (f := eApiMaterial) hxx2)) ?_
     refine lr3 rfl (nn (WC.region (lr 8 rfl trivial ?_)))
     obtain ⟨g2, h⟩ := grd h
     refine WL.append tbOk ((l3 ++ [(⟨[x2.Name], x2.Share⟩ : ApiComponent)]).map eApiComponent) [44, 1003] ap41 rfl rfl rfl rfl (fun _ e => by cases e; rfl) (by exact trivial) (map_cells (f := eApiComponent) (xs := [(⟨[x2.Name], x2.Share⟩ : ApiComponent)]) fun _ => rfl) (by have := g2; simp only [List.length_map, List.length_nil, List.length_cons] at this ⊢; omega) rfl rfl (by simp only [List.map_append]; try rfl) rfl ?_
     refine lr1 rfl (WL.nil (bn (WC.region (lr2 rfl (WL.nil ?_)))))
     cases h
     exact WQ.next [(1003, 44)] ((IntKind.i64.wrap (t32 + (1 : Int))), (l3 ++ [(⟨[x2.Name], x2.Share⟩ : ApiComponent)])) sub (hn1 _ hf1)
    ·replace h := ite_f hc2 h
     refine WC.exit (WQ.thenExit ?_)
     cases h
     have he := he1 _ hf1
     subst he
     replace h := hk1
     try dsimp only at h
     refine eb ?_
     exact WQ.cut [] l3 sub h
   ·replace h := ite_f hc1 h
    refine WC.skip ?_
    exact WQ.cut [] l sub h
  ·intro l2 h
   replace h : goodsCharacters_j2 l2 = some _ := h
   unfold goodsCharacters_j2 at h
   try dsimp only [slotsOf]
   refine sr (lr1 rfl ?_)
   replace h := bnd h; obtain ⟨v, hvv, h⟩ := h
   refine WL.callO [(0, 1003)] [(0, 1003)] [1003] fn126 rfl rfl rfl rfl (by exact trivial) (sortStable_con hw hvv) rfl rfl (by exact eqs) rfl rfl rfl rfl rfl rfl ?_
   refine ns (lr2 rfl (nr ?_))
   refine WQ.publish 1003 rfl rfl ?_
   cases h
   exact rt tbOk hR
theorem refCharacters_con {wg : World} (hw : WG wg) {g : ApiGood} {r : (List ApiComponent)} (h : refCharacters g = some r) : Con Tryz.prog wg gl 131 [.v (.agg [.sl 1 (g.Words.map eStr), .sl 2 (g.Materials.map eApiMaterial), .sl 2 (g.Parts.map eApiComponent), .bool g.Incomplete])] [] (.v (.sl 2 (r.map eApiComponent))) [] := by
 unfold refCharacters at h
 refine con_of_WC (S := slotsOf 0 _) Tryz.func131 rfl Tryz.ntmps131 rfl (fun t x hx => (slotsOf_get hx).2) ?_
 intro F L w ρ0 R hR
 try dsimp only [slotsOf]
 refine sr (lr2 rfl (ns ?_))
 refine WL.buildRow tbOk (([] : (List ApiComponent)).map eApiComponent) rfl rfl rfl rfl (by exact trivial) rfl rfl ?_
 refine lr2 rfl ?_
 obtain ⟨g1, h⟩ := grd h
 refine WL.append tbOk (g.Parts.map eApiComponent) [11, 8] ap41 rfl rfl rfl rfl (fun _ e => by cases e; rfl) (by exact trivial) (map_cells (f := eApiComponent) (xs := g.Parts) fun _ => rfl) (by have := g1; simp only [List.length_map, List.length_nil, List.length_cons] at this ⊢; omega) rfl rfl rfl rfl ?_
 refine lr1 rfl (nn (WC.seq (sr (lr1 rfl ?_))))
 refine WL.q [11] rfl rfl rfl (q_ev tbOk (.v (.int .i64 (g.Parts.length : Int))) rfl (by exact trivial) (by exact lenT)) ?_
 refine lr1 rfl (nn ?_)
 refine WC.thenCut (X := (List ApiComponent)) (fun gG => ⟨[(3, .r 1003)], [(1003, .row 96 2 (gG.map eApiComponent))]⟩) (fun gG => refCharacters_j1 gG = some r) ?_ ?_
 ·refine WC.cond rfl (fun hc4 => ?_) (fun hc4 => ?_)
  ·replace h := ite_t hc4 h
   refine sr (lr1 rfl (nn (WC.block ?_)))
   obtain ⟨eQ3, hl3, hk3⟩ := bnd h
   clear h
   refine WC.loop (σ := Int × (List ApiComponent)) (τ := ((List ApiComponent))) (fun sS => ⟨[(4, .v (.int .i64 sS.1)), (3, .r 1003), (1, .p 1 0)], [(1003, .row 96 2 (sS.2.map eApiComponent)), (1, .blk 43 [.v (.sl 1 (g.Words.map eStr)), .v (.sl 2 (g.Materials.map eApiMaterial)), .v (.sl 2 (g.Parts.map eApiComponent)), .v (.bool g.Incomplete)])]⟩) (refCharacters_b3 g) [(1003, 11)] ((0 : Int), g.Parts) hl3 sub ?_
   rintro ⟨i7, l22⟩ m hn3 he3 hx3
   obtain ⟨o3, hf3⟩ := some_of hx3
   have h := hf3
   unfold refCharacters_b3 at h
   try dsimp only [slotsOf]
   refine WC.seq (sr (lr3 rfl ?_))
   refine WL.q [] rfl rfl rfl (q_ev tbOk (.v (.int .i64 (g.Materials.length : Int))) rfl (by exact trivial) (by exact lenT)) ?_
   refine lr1 rfl (nn ?_)
   refine WC.cond rfl (fun hc5 => ?_) (fun hc5 => ?_)
   ·replace h := ite_t hc5 h
    refine kn (sb (WC.order mixed ?_))
    refine wr 4 rfl trivial ?_
    obtain ⟨g10, h⟩ := grd h
    replace h := bnd h; obtain ⟨x3, hxx3, h⟩ := h
    refine WR.q [] rfl rfl rfl (q_idx tbOk rfl (by exact trivial) g10 (map_get (f := eApiMaterial) hxx3)) ?_
    refine wr 6 rfl trivial ?_
    obtain ⟨g11, h⟩ := grd h
    replace h := bnd h; obtain ⟨x4, hxx4, h⟩ := h
    refine WR.q [] rfl rfl rfl (q_idx tbOk rfl (by exact trivial) g11 (map_get (f := eApiMaterial) hxx4)) ?_
    refine wr 4 rfl trivial ?_
    obtain ⟨g12, h⟩ := grd h
    refine WR.append tbOk ((l22 ++ [(⟨[x3.Name], x4.Share⟩ : ApiComponent)]).map eApiComponent) [38, 1003] ap41 rfl rfl rfl rfl (fun _ e => by cases e; rfl) (by exact trivial) (map_cells (f := eApiComponent) (xs := [(⟨[x3.Name], x4.Share⟩ : ApiComponent)]) fun _ => rfl) (by have := g12; simp only [List.length_map, List.length_nil, List.length_cons] at this ⊢; omega) rfl rfl (by simp only [List.map_append]; try rfl) rfl rfl ?_
    refine wr 1 rfl trivial ?_
    refine WR.nil (by kernel_rfl) (bn (WC.region (lr3 rfl (WL.nil ?_))))
    cases h
    exact WQ.next [(1003, 38)] ((IntKind.i64.wrap (i7 + (1 : Int))), (l22 ++ [(⟨[x3.Name], x4.Share⟩ : ApiComponent)])) sub (hn3 _ hf3)
   ·replace h := ite_f hc5 h
    refine WC.exit (WQ.thenExit ?_)
    cases h
    have he := he3 _ hf3
    subst he
    replace h := hk3
    try dsimp only at h
    refine eb ?_
    exact WQ.cut [] l22 sub h
  ·replace h := ite_f hc4 h
   refine WC.skip ?_
   exact WQ.cut [(1003, 11)] g.Parts sub h
 ·intro l h
  replace h : refCharacters_j1 l = some _ := h
  unfold refCharacters_j1 at h
  try dsimp only [slotsOf]
  refine sr (lr1 rfl (nn (WC.seq ?_)))
  refine WC.thenCut (X := (List ApiComponent)) (fun gG => ⟨[(5, .r 1005)], [(1005, .row 96 2 (gG.map eApiComponent))]⟩) (fun gG => refCharacters_j2 gG = some r) ?_ ?_
  ·refine WC.block ?_
   obtain ⟨eQ1, hl1, hk1⟩ := bnd h
   clear h
   refine WC.rowNil 5 1005 96 2 rfl rfl ?_
   refine WC.loop (σ := (List ApiComponent) × (List ApiComponent)) (τ := ((List ApiComponent))) (fun sS => ⟨[(5, .r 1005), (3, .r 1003)], [(1005, .row 96 2 (sS.1.map eApiComponent)), (1003, .row 96 2 (sS.2.map eApiComponent))]⟩) (refCharacters_b1) [] ([], l) hl1 sub ?_
   rintro ⟨out2, l9⟩ m hn1 he1 hx1
   obtain ⟨o1, hf1⟩ := some_of hx1
   have h := hf1
   unfold refCharacters_b1 at h
   try dsimp only [slotsOf]
   refine WC.seq (sr (lr1 rfl ?_))
   refine WL.q [1003] rfl rfl rfl (q_ev tbOk (.v (.int .i64 (l9.length : Int))) rfl (by exact trivial) (by exact lenT)) ?_
   refine lr1 rfl (nn ?_)
   refine WC.cond rfl (fun hc1 => ?_) (fun hc1 => ?_)
   ·replace h := ite_t hc1 h
    refine kn (WC.block (sr (lr1 rfl (nn (WC.seq (sr (lr1 rfl (nn ?_))))))))
    refine WC.thenCut (X := Int × (List ApiComponent) × (List ApiComponent)) (fun gG => ⟨[(6, .v (.int .i64 gG.1)), (5, .r 1005), (3, .r 1003)], [(1005, .row 96 2 (gG.2.1.map eApiComponent)), (1003, .row 96 2 (gG.2.2.map eApiComponent))]⟩) (fun gG => refCharacters_j3 gG.1 gG.2.1 gG.2.2 = some o1) ?_ ?_
    ·refine WC.block ?_
     obtain ⟨eQ2, hl2, hk2⟩ := bnd h
     clear h
     refine WC.loop (σ := Int × Int × (List ApiComponent) × (List ApiComponent)) (τ := (Int × (List ApiComponent) × (List ApiComponent))) (fun sS => ⟨[(7, .v (.int .i64 sS.1)), (6, .v (.int .i64 sS.2.1)), (5, .r 1005), (3, .r 1003)], [(1005, .row 96 2 (sS.2.2.1.map eApiComponent)), (1003, .row 96 2 (sS.2.2.2.map eApiComponent))]⟩) (refCharacters_b2) [] ((1 : Int), (0 : Int), out2, l9) hl2 sub ?_
     rintro ⟨i5, best14, out11, l17⟩ m hn2 he2 hx2
     obtain ⟨o2, hf2⟩ := some_of hx2
     have h := hf2
     unfold refCharacters_b2 at h
     try dsimp only [slotsOf]
     refine WC.seq (sr (lr2 rfl ?_))
     refine WL.q [1003] rfl rfl rfl (q_ev tbOk (.v (.int .i64 (l17.length : Int))) rfl (by exact trivial) (by exact lenT)) ?_
     refine lr1 rfl (nn ?_)
     refine WC.cond rfl (fun hc2 => ?_) (fun hc2 => ?_)
     ·replace h := ite_t hc2 h
      refine kn (WC.seq ?_)
      refine WC.thenCut (X := Int × (List ApiComponent) × (List ApiComponent)) (fun gG => ⟨[(6, .v (.int .i64 gG.1)), (7, .v (.int .i64 i5)), (5, .r 1005), (3, .r 1003)], [(1005, .row 96 2 (gG.2.1.map eApiComponent)), (1003, .row 96 2 (gG.2.2.map eApiComponent))]⟩) (fun gG => refCharacters_j4 i5 gG.1 gG.2.1 gG.2.2 = some o2) ?_ ?_
      ·refine WC.block (WC.seq (WC.order mixed ?_))
       refine wr 2 rfl trivial ?_
       obtain ⟨g8, h⟩ := grd h
       refine WR.q [1003] rfl rfl rfl (q_ridx tbOk rfl (by exact trivial) rfl (by simpa only [List.length_map] using g8)) ?_
       refine wr 1 rfl trivial ?_
       refine WR.q [1003] rfl rfl rfl (x := .v (.int .i64 ((l17.getD i5.toNat default).Share))) (q_rload tbOk rfl (by exact trivial) rfl (map_getD (f := eApiComponent) g8.2 g8.1) rfl) ?_
       refine wr 2 rfl trivial ?_
       obtain ⟨g9, h⟩ := grd h
       refine WR.q [1003] rfl rfl rfl (q_ridx tbOk rfl (by exact trivial) rfl (by simpa only [List.length_map] using g9)) ?_
       refine wr 1 rfl trivial ?_
       refine WR.q [1003] rfl rfl rfl (x := .v (.int .i64 ((l17.getD best14.toNat default).Share))) (q_rload tbOk rfl (by exact trivial) rfl (map_getD (f := eApiComponent) g9.2 g9.1) rfl) ?_
       refine wr 1 rfl trivial ?_
       refine WR.nil (by kernel_rfl) (WQ.thenNormal ?_)
       refine WC.cond rfl (fun hc3 => ?_) (fun hc3 => ?_)
       ·replace h := ite_t hc3 h
        refine WC.region (lr2 rfl (WL.nil (WQ.blockNormal ?_)))
        exact WQ.cut [] (i5, out11, l17) sub h
       ·replace h := ite_f hc3 h
        refine WC.skip (WQ.blockNormal ?_)
        exact WQ.cut [] (best14, out11, l17) sub h
      ·rintro ⟨best18, out15, l21⟩ h
       replace h : refCharacters_j4 i5 best18 out15 l21 = some _ := h
       unfold refCharacters_j4 at h
       try dsimp only [slotsOf]
       refine WC.region (lr3 rfl (WL.nil ?_))
       cases h
       exact WQ.next [] ((IntKind.i64.wrap (i5 + (1 : Int))), best18, out15, l21) sub (hn2 _ hf2)
     ·replace h := ite_f hc2 h
      refine WC.exit (WQ.thenExit ?_)
      cases h
      have he := he2 _ hf2
      subst he
      replace h := hk2
      try dsimp only at h
      refine eb ?_
      exact WQ.cut [] (best14, out11, l17) sub h
    ·rintro ⟨best13, out10, l16⟩ h
     replace h : refCharacters_j3 best13 out10 l16 = some _ := h
     unfold refCharacters_j3 at h
     try dsimp only [slotsOf]
     refine sr (lr3 rfl ?_)
     obtain ⟨g2, h⟩ := grd h
     refine WL.q [1003] rfl rfl rfl (q_ridx tbOk rfl (by exact trivial) rfl (by simpa only [List.length_map] using g2)) ?_
     refine WL.q [1003] rfl rfl rfl (x := .v (.agg [.sl 1 (((l16.getD best13.toNat default).Words).map eStr), .int .i64 ((l16.getD best13.toNat default).Share)])) (q_rload tbOk rfl (by exact trivial) rfl (map_getD (f := eApiComponent) g2.2 g2.1) rfl) ?_
     refine lr1 rfl ?_
     obtain ⟨g3, h⟩ := grd h
     refine WL.append tbOk ((out10 ++ [(l16.getD best13.toNat default)]).map eApiComponent) [66, 1005] ap41 rfl rfl rfl rfl (fun _ e => by cases e; rfl) (by exact trivial) (map_cells (f := eApiComponent) (xs := [(l16.getD best13.toNat default)]) fun _ => rfl) (by have := g3; simp only [List.length_map, List.length_nil, List.length_cons] at this ⊢; omega) rfl rfl (by simp only [List.map_append]; try rfl) rfl ?_
     refine lr1 rfl (nn ?_)
     refine WC.publish 1003 rfl rfl ?_
     refine WC.order mixed ?_
     refine WR.buildRow tbOk (([] : (List ApiComponent)).map eApiComponent) rfl rfl rfl rfl (by exact trivial) rfl rfl ?_
     refine wr 2 rfl trivial ?_
     obtain ⟨g4, h⟩ := grd h
     refine WR.q [] rfl rfl rfl (q_ev tbOk (.v (.sl 2 (((l16.take best13.toNat).drop (0 : Int).toNat).map eApiComponent))) rfl (by exact sideR) (by exact tdT)) ?_
     obtain ⟨g5, h⟩ := grd h
     refine WR.append tbOk (((l16.take best13.toNat).drop (0 : Int).toNat).map eApiComponent) [71, 67] ap41 rfl rfl rfl rfl (fun _ e => by cases e; rfl) (by exact trivial) (map_cells (f := eApiComponent) (xs := ((l16.take best13.toNat).drop (0 : Int).toNat)) fun _ => rfl) (by have := g5; simp only [List.length_map, List.length_nil, List.length_cons] at this ⊢; omega) rfl rfl rfl rfl rfl ?_
     refine wr 3 rfl trivial ?_
     obtain ⟨g6, h⟩ := grd h
     refine WR.q [] rfl rfl rfl (q_ev tbOk (.v (.sl 2 ((l16.drop (IntKind.i64.wrap (best13 + (1 : Int))).toNat).map eApiComponent))) rfl (by exact sideR) (by exact tdT)) ?_
     obtain ⟨g7, h⟩ := grd h
     refine WR.append tbOk ((((l16.take best13.toNat).drop (0 : Int).toNat) ++ (l16.drop (IntKind.i64.wrap (best13 + (1 : Int))).toNat)).map eApiComponent) [76, 71] ap41 rfl rfl rfl rfl (fun _ e => by cases e; rfl) (by exact trivial) (map_cells (f := eApiComponent) (xs := (l16.drop (IntKind.i64.wrap (best13 + (1 : Int))).toNat)) fun _ => rfl) (by have := g7; simp only [List.length_map, List.length_nil, List.length_cons] at this ⊢; omega) rfl rfl (by simp only [List.map_append]; try rfl) rfl rfl ?_
     refine wr 1 rfl trivial ?_
     refine WR.nil (by kernel_rfl) (WQ.blockNormal ?_)
     cases h
     exact WQ.next [(1005, 66), (1003, 76)] ((out10 ++ [(l16.getD best13.toNat default)]), (((l16.take best13.toNat).drop (0 : Int).toNat) ++ (l16.drop (IntKind.i64.wrap (best13 + (1 : Int))).toNat))) sub (hn1 _ hf1)
   ·replace h := ite_f hc1 h
    refine WC.exit (WQ.thenExit ?_)
    cases h
    have he := he1 _ hf1
    subst he
    replace h := hk1
    try dsimp only at h
    refine eb ?_
    exact WQ.cut [] out2 sub h
  ·intro out h
   replace h : refCharacters_j2 out = some _ := h
   unfold refCharacters_j2 at h
   try dsimp only [slotsOf]
   refine sr (lr2 rfl (nr ?_))
   refine WQ.publish 1005 rfl rfl ?_
   cases h
   exact rt tbOk hR
end Go.Proofs.YtfkefolbabniaaaGreatDoor
end

section
set_option linter.unusedVariables false
set_option linter.unusedSimpArgs false
namespace Go.Proofs.YtfkefolbabniaaaGreatDoor
open Go.V Go.C Go.RowKit Go.Sort
theorem rows_strs2 {w : World} {X : Nat → Prop} : ∀ {xs : List Str} {rows : List (List Value)}, RepRows w X (xs.map eStr) rows → rows = xs.map fun s => [Value.string ⟨⟨s⟩⟩]
 | [], rows, h => by simp only [List.map_nil, RepRows] at h; subst h; rfl
 | x :: xs, rows, h => by
  simp only [List.map_cons, RepRows] at h
  obtain ⟨c, r, rfl, h1, h2⟩ := h
  simp only [eStr, Reps, Rep] at h1
  obtain ⟨v, q, rfl, rfl, rfl⟩ := h1
  rw [rows_strs2 h2, List.map_cons]
theorem reps_strs2 {w : World} {X : Nat → Prop} : ∀ xs : List Str, RepRows w X (xs.map eStr) (xs.map fun s => [Value.string ⟨⟨s⟩⟩])
 | [] => by simp [RepRows]
 | x :: xs => by
  simp only [List.map_cons, RepRows, eStr, Reps, Rep]
  exact ⟨_, _, rfl, ⟨_, _, rfl, rfl, rfl⟩, reps_strs2 xs⟩
theorem flat_strs (xs : List Str) : (xs.map fun s => [Value.string ⟨⟨s⟩⟩]).flatten = xs.map encStr := by
 induction xs with
 | nil => rfl
 | cons x xs ih => simp only [List.map_cons, List.flatten_cons, ih]; rfl
theorem put_take {w : World} {g e : Nat} {cur : Array Value} {fz : Nat × Nat} (hg : w.heap[g]? = some (.cells cur e fz)) (q : Nat) (d : List Str) (hle : d.length ≤ cur.size) :
  ∃ cur' : Array Value, (putRow encStr (Sort.ahead w q) g 0 d.toArray).heap[g]? = some (.cells cur' e fz) ∧ cur'.size = cur.size ∧ cur'.toList.take d.length = d.map encStr := by
 refine ⟨putCells encStr 0 d.toArray cur, ?_, by simp [putCells], ?_⟩
 ·show (w.heap.modify g (onCells (putCells encStr 0 d.toArray)))[g]? = _
  rw [Array.getElem?_modify, if_pos rfl, hg]; rfl
 ·apply List.ext_getElem?
  intro i
  rw [List.getElem?_take, List.getElem?_map]
  by_cases hi : i < d.length
  ·rw [if_pos hi, List.getElem?_eq_getElem hi]
   simp only [putCells, Array.getElem?_toList, Array.getElem?_mapIdx, Array.getElem?_eq_getElem (by omega : i < cur.size), Option.map_some]
   rw [if_pos ⟨by omega, by simpa using hi⟩]
   simp [hi]
  ·rw [if_neg hi, List.getElem?_eq_none (by omega)]; rfl
theorem put_other {w : World} {g k : Nat} (q : Nat) (d : Array Str) (h : k ≠ g) : (putRow encStr (Sort.ahead w q) g 0 d).heap[k]? = w.heap[k]? := by
 show (w.heap.modify g _)[k]? = _
 rw [Array.getElem?_modify, if_neg (fun e => h e.symm)]
theorem put_size (w : World) (g q : Nat) (d : Array Str) : (putRow encStr (Sort.ahead w q) g 0 d).heap.size = w.heap.size := by
 show (w.heap.modify g _).size = _
 rw [Array.size_modify]
theorem holds_of {w : World} {g e n : Nat} {cur : Array Value} {fz : Nat × Nat} {l : List Str} (hg : w.heap[g]? = some (.cells cur e fz)) (hfz : fz.2 ≤ fz.1 ∨ cur.size ≤ fz.1) (hn : n = l.length) (hle : n ≤ cur.size) (ht : cur.toList.take n = l.map encStr) : Holds encStr w g 0 l.toArray := by
 intro j hj
 have hj : j < l.length := by simpa using hj
 have h1 : cur[j]? = some (encStr l[j]) := by
  have h2 : (cur.toList.take n)[j]? = some (encStr l[j]) := by rw [ht, List.getElem?_map, List.getElem?_eq_getElem hj]; rfl
  rw [List.getElem?_take, if_pos (by omega)] at h2
  simpa using h2
 have h3 : j < cur.size := by omega
 refine ⟨?_, ?_⟩
 ·simp only [World.cell?, hg, Nat.zero_add, h1]
  simp [hj]
 ·simp only [World.frozen?, hg, Nat.zero_add]
  rcases hfz with h | h <;> simp <;> omega
theorem obs_one {k : Nat} {o : Ob} {ρ : Nat → Value} {w : World} {X L : Nat → Prop} (h : ObOk (nmO [(k, o)]) ρ w X L (ρ k) o) : ObsOk [(k, o)] ρ w X L := by
 refine ⟨fun j o' hj => ?_, fun j o' j' o2 hj hj' hne _ _ b _ => ?_⟩
 ·by_cases e : k = j
  ·subst e; rw [get_cons_self] at hj; cases hj; exact h
  ·rw [get_cons_ne _ _ e] at hj; cases hj
 ·by_cases e : k = j
  ·by_cases e' : k = j'
   ·exact absurd (e.symm.trans e') hne
   ·rw [get_cons_ne _ _ e'] at hj'; cases hj'
  ·rw [get_cons_ne _ _ e] at hj; cases hj
theorem sortS_con {wg : World} (hw : WG wg) {l r : List Str} (h : sortS l = some r) : Con Tryz.prog wg gl 159 [.r 0] [(0, .row 9 1 (l.map eStr))] (.tup []) [(0, .row 9 1 (r.map eStr))] := by
 unfold sortS at h
 split at h
 case isFalse => cases h
 rename_i hlen
 cases h
 intro w ρ F L vals hlow hdis hext hglob hobs hargs
 obtain ⟨rows, h1, h2, h3, h4⟩ := hobs.obj 0 _ rfl
 simp only [VReps, VRep] at hargs
 obtain ⟨a0, _, rfl, ⟨_, rfl⟩, rfl⟩ := hargs
 have hrows := rows_strs2 h1
 have hrl : rows.length = l.length := by rw [hrows, List.length_map]
 rcases h3.2 with ⟨hv, hn⟩ | ⟨g, cap, cur, fz, hv, hg, hfz, hcap, hmax, hcs, htake⟩
 ·have hl : l = [] := List.eq_nil_of_length_eq_zero (by omega)
  subst hl
  rw [hv]
  refine (Tryz.slices_Sort_string_none none 0 w).mono ?_
  rintro e w' ⟨rfl, rfl⟩
  refine ⟨_, ρ, L, rfl, by simp only [VRep]; exact ⟨[], rfl, by simp [VReps]⟩, obs_one ⟨rows, by simpa using h1, h2, h3, h4⟩, Step.refl _ _, fun b hb => hlow b (.inr hb), fun k v hk _ => (pinsOf_get hk).1⟩
 ·rw [hrows, flat_strs] at htake
  rw [hv, hrl]
  have hsz : l.length ≤ cur.size := by omega
  have htk : cur.toList.take l.length = l.map encStr := by rw [← htake, hrl.symm, hrows]; simp
  have hlt := (Array.getElem?_eq_some_iff.1 hg).1
  refine (Tryz.slices_Sort_string g 0 cap l w (holds_of hg hfz rfl hsz htk) hlt hlen).mono ?_
  rintro e w' ⟨rfl, n, os, rfl⟩
  have hml : (l.mergeSort fun x y => decide (x ≤ y)).length = l.length := List.length_mergeSort _
  obtain ⟨cur', c1, c2, c3⟩ := put_take hg n (l.mergeSort fun x y => decide (x ≤ y)) (by omega)
  have hps := put_size w g n (l.mergeSort fun x y => decide (x ≤ y)).toArray
  have hheap : ∀ k, k < w.heap.size → (grow (putRow encStr (Sort.ahead w n) g 0 (l.mergeSort fun x y => decide (x ≤ y)).toArray) os).heap[k]? = (putRow encStr (Sort.ahead w n) g 0 (l.mergeSort fun x y => decide (x ≤ y)).toArray).heap[k]? := fun k hk => by
   show (_ ++ os)[k]? = _
   rw [Array.getElem?_append_left (by rw [hps]; exact hk)]
  have hgs : w.heap.size ≤ (grow (putRow encStr (Sort.ahead w n) g 0 (l.mergeSort fun x y => decide (x ≤ y)).toArray) os).heap.size := by rw [size_grow, hps]; omega
  refine ⟨_, ρ, L, rfl, by simp only [VRep]; exact ⟨[], rfl, by simp [VReps]⟩, obs_one ⟨_, reps_strs2 _, fun r hr => ?_, ⟨?_, .inr ⟨g, cap, cur', fz, ?_, (hheap g hlt).trans c1, ?_, ?_, hmax, ?_, ?_⟩⟩, h4⟩, ⟨rfl, rfl, rfl, hgs, fun b hb hL => ?_, fun b hb => .inl hb⟩, fun b hb => Nat.lt_of_lt_of_le (hlow b (.inr hb)) hgs, fun k v hk _ => (pinsOf_get hk).1⟩
  ·obtain ⟨s, _, rfl⟩ := List.mem_map.1 hr; rfl
  ·rw [flat_strs]; simp
  ·rw [hv, List.length_map, hml, hrl]
  ·rw [c2]; exact hfz
  ·rw [List.length_map, hml]; omega
  ·rw [c2]; exact hcs
  ·rw [flat_strs, List.length_map, Nat.mul_one]; exact c3
  ·rw [hheap b hb]; exact put_other n _ (fun e => hL (h4 b (by rw [hv, e]; rfl)))
theorem compactS_con {wg : World} (hw : WG wg) {l r : List Str} (h : compactS l = some r) : Con Tryz.prog wg gl 160 [.r 0] [(0, .row 9 1 (l.map eStr))] (.r 500) [(0, .dead), (500, .row 9 1 (r.map eStr))] := by
 unfold compactS at h
 split at h
 case isFalse => cases h
 rename_i hlen
 cases h
 intro w ρ F L vals hlow hdis hext hglob hobs hargs
 obtain ⟨rows, h1, h2, h3, h4⟩ := hobs.obj 0 _ rfl
 simp only [VReps, VRep] at hargs
 obtain ⟨a0, _, rfl, ⟨_, rfl⟩, rfl⟩ := hargs
 have hrows := rows_strs2 h1
 have hrl : rows.length = l.length := by rw [hrows, List.length_map]
 have hcell0 : isCell (ρ 0) = true := by
  rcases h3.2 with ⟨hv, _⟩ | ⟨g, cap, cur, fz, hv, _⟩ <;> rw [hv] <;> rfl
 have obs : ∀ {o : Ob} {ρ' : Nat → Value} {w' : World} {X L' : Nat → Prop}, isCell (ρ' 0) = true → ObOk (nmO [(0, Ob.dead), (500, o)]) ρ' w' X L' (ρ' 500) o → ObsOk [(0, .dead), (500, o)] ρ' w' X L' := fun {o ρ' w' X L'} hc ho => by
  refine ⟨fun j o' hj => ?_, fun j o' j' o2 hj hj' hne l1 l2 b _ => ?_⟩
  ·by_cases e : 0 = j
   ·subst e; rw [get_cons_self] at hj; cases hj; exact hc
   ·rw [get_cons_ne _ _ e] at hj
    by_cases e5 : 500 = j
    ·subst e5; rw [get_cons_self] at hj; cases hj; exact ho
    ·rw [get_cons_ne _ _ e5] at hj; cases hj
  ·by_cases e : 0 = j
   ·subst e; rw [get_cons_self] at hj; cases hj; cases l1
   ·rw [get_cons_ne _ _ e] at hj
    by_cases e' : 0 = j'
    ·subst e'; rw [get_cons_self] at hj'; cases hj'; cases l2
    ·rw [get_cons_ne _ _ e'] at hj'
     by_cases e5 : 500 = j
     ·by_cases e6 : 500 = j'
      ·exact absurd (e5.symm.trans e6) hne
      ·rw [get_cons_ne _ _ e6] at hj'; cases hj'
     ·rw [get_cons_ne _ _ e5] at hj; cases hj
 have pins : ∀ (u : Value) k v, get (pinsOf ρ [(0, Ob.row 9 1 (l.map eStr))]) k = some v → nmO [(0, Ob.dead), (500, Ob.row 9 1 ((Lib.compact l).map eStr))] k → upd ρ 500 u k = v := fun u k v hk _ => by
  have h5 : k ≠ 500 := fun e => by subst e; cases hk
  rw [upd_ne h5]; exact (pinsOf_get hk).1
 by_cases hl : l = []
 ·subst hl
  have hn : rows.length = 0 := hrl
  have hcase : ∃ a c, ρ 0 = .slice a 0 c := by
   rcases h3.2 with ⟨hv, _⟩ | ⟨g, cap, cur, fz, hv, _⟩
   ·exact ⟨_, _, hv⟩
   ·exact ⟨_, _, by rw [hv, hn]⟩
  obtain ⟨a, c, hv⟩ := hcase
  rw [hv]
  refine (Tryz.slices_Compact_string_empty a c w).mono ?_
  rintro e w' ⟨rfl, rfl⟩
  refine ⟨_, upd ρ 500 (ρ 0), L, rfl, by simp only [VRep]; exact ⟨nmO_cons nmO_self, by rw [upd_self, hv]⟩, obs (by rw [upd_ne (by decide)]; exact hcell0) ?_, Step.refl _ _, fun b hb => hlow b (.inr hb), pins _⟩
  rw [upd_self]
  exact ⟨rows, by rw [show Lib.compact ([] : List Str) = [] from rfl]; exact h1, h2, h3, h4⟩
 ·rcases h3.2 with ⟨hv, hn⟩ | ⟨g, cap, cur, fz, hv, hg, hfz, hcap, hmax, hcs, htake⟩
  ·exact absurd (List.eq_nil_of_length_eq_zero (by omega)) hl
  ·rw [hrows, flat_strs] at htake
   rw [hv, hrl]
   have hsz : l.length ≤ cur.size := by omega
   have htk : cur.toList.take l.length = l.map encStr := by rw [← htake, hrl.symm, hrows]; simp
   have hlt := (Array.getElem?_eq_some_iff.1 hg).1
   refine (Tryz.slices_Compact_string g 0 cap l w (holds_of hg hfz rfl hsz htk) hlen (by omega)).mono ?_
   rintro e w' ⟨rfl, q, rfl⟩
   have hml : (Lib.compact l).length ≤ l.length := by
    unfold Lib.compact Lib.compactUpTo
    rw [List.length_map]
    exact Nat.le_trans (List.length_filter_le _ _) (by simp)
   obtain ⟨cur', c1, c2, c3⟩ := put_take hg q (Lib.compact l ++ List.replicate (l.length - (Lib.compact l).length) []) (by simp only [List.length_append, List.length_replicate]; omega)
   have hps := put_size w g q (Lib.compact l ++ List.replicate (l.length - (Lib.compact l).length) []).toArray
   have c4 : cur'.toList.take (Lib.compact l).length = (Lib.compact l).map encStr := by
    have := congrArg (List.take (Lib.compact l).length) c3
    rw [List.take_take, Nat.min_eq_left (by simp)] at this
    rw [this, List.map_append, List.take_left' (by simp)]
   refine ⟨_, upd ρ 500 (.slice (some ⟨g, 0, none⟩) (Lib.compact l).length cap), L, rfl, by simp only [VRep]; exact ⟨nmO_cons nmO_self, by rw [upd_self]⟩, obs (by rw [upd_ne (by decide)]; exact hcell0) ?_, ⟨rfl, rfl, rfl, by rw [hps]; exact Nat.le_refl _, fun b hb hL => put_other q _ (fun e => hL (h4 b (by rw [hv, e]; rfl))), fun b hb => .inl hb⟩, fun b hb => by rw [hps]; exact hlow b (.inr hb), pins _⟩
   rw [upd_self]
   refine ⟨_, reps_strs2 _, fun r hr => ?_, ⟨?_, .inr ⟨g, cap, cur', fz, ?_, c1, ?_, ?_, hmax, ?_, ?_⟩⟩, fun b hb => h4 b (by rw [hv]; simpa [ob] using hb)⟩
   ·obtain ⟨s, _, rfl⟩ := List.mem_map.1 hr; rfl
   ·rw [flat_strs]; simp
   ·rw [List.length_map]
   ·rw [c2]; exact hfz
   ·rw [List.length_map]; omega
   ·rw [c2]; exact hcs
   ·rw [flat_strs, List.length_map, Nat.mul_one]; exact c4
end Go.Proofs.YtfkefolbabniaaaGreatDoor
end
