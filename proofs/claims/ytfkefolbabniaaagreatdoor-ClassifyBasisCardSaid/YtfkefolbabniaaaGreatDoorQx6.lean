/- Packed by pack.py. -/
import Derived.Test.YtfkefolbabniaaaGreatDoorQx3
import Derived.Test.YtfkefolbabniaaaGreatDoorQx5
import Derived.Test.YtfkefolbabniaaaGreatDoorQx4
section
set_option linter.unusedVariables false
set_option linter.unusedSimpArgs false
set_option maxHeartbeats 4000000
set_option maxRecDepth 20000
namespace Go.Proofs.YtfkefolbabniaaaGreatDoor
open Go.V Go.C
theorem setOf_con {wg : World} (hw : WG wg) {l : (List Str)} {r : (List Str)} (h : setOf l = some r) : Con Tryz.prog wg gl 134 [.v (.sl 1 (l.map eStr))] [] (.v (.mp r)) [] := by
 unfold setOf at h
 refine con_of_WC (S := slotsOf 0 _) Tryz.func134 rfl Tryz.ntmps134 rfl (fun t x hx => (slotsOf_get hx).2) ?_
 intro F L w ρ0 R hR
 try dsimp only [slotsOf]
 refine sr (lr1 rfl (ns ?_))
 refine WL.makeSet rfl rfl rfl rfl rfl ?_
 refine lr1 rfl (nn (WC.seq (sr (lr1 rfl ?_))))
 refine WL.q [] rfl rfl rfl (q_ev tbOk (.v (.int .i64 (l.length : Int))) rfl (by exact trivial) (by exact lenT)) ?_
 refine lr1 rfl (nn ?_)
 refine WC.thenCut (X := (List Str)) (fun gG => ⟨[(3, .r 6)], [(6, .set gG)]⟩) (fun gG => setOf_j1 gG = some r) ?_ ?_
 ·refine WC.block ?_
  obtain ⟨eQ1, hl1, hk1⟩ := bnd h
  clear h
  refine WC.loop (σ := Int × (List Str)) (τ := ((List Str))) (fun sS => ⟨[(9, .v (.int .i64 sS.1)), (8, .v (.int .i64 (l.length : Int))), (7, .v (.sl 1 (l.map eStr))), (3, .r 6)], [(6, .set sS.2)]⟩) (setOf_b1 l) [] ((0 : Int), []) hl1 sub ?_
  rintro ⟨t9, keys2⟩ m hn1 he1 hx1
  obtain ⟨o1, hf1⟩ := some_of hx1
  have h := hf1
  unfold setOf_b1 at h
  try dsimp only [slotsOf]
  refine sr (lr1 rfl (nn (WC.seq ?_)))
  refine WC.cond rfl (fun hc1 => ?_) (fun hc1 => ?_)
  ·replace h := ite_t hc1 h
   refine kn (sb (sr ?_))
   obtain ⟨g1, h⟩ := grd h
   replace h := bnd h; obtain ⟨x2, hxx2, h⟩ := h
   refine WL.q [] rfl rfl rfl (q_idx tbOk rfl (by exact trivial) g1 (map_get (f := eStr) hxx2)) ?_
   refine lr2 rfl (nn (WC.region (lr2 rfl ?_)))
   refine WL.setPut Tryz.underlying155 Tryz.underlying9 rfl rfl rfl (by exact trivial) rfl ?_
   refine WL.nil (bn (WC.region (lr2 rfl (WL.nil ?_))))
   cases h
   exact WQ.next [] ((IntKind.i64.wrap (t9 + (1 : Int))), (addKey keys2 x2)) sub (hn1 _ hf1)
  ·replace h := ite_f hc1 h
   refine WC.exit (WQ.thenExit ?_)
   cases h
   have he := he1 _ hf1
   subst he
   replace h := hk1
   try dsimp only at h
   refine eb ?_
   exact WQ.cut [] keys2 sub h
 ·intro keys h
  replace h : setOf_j1 keys = some _ := h
  unfold setOf_j1 at h
  try dsimp only [slotsOf]
  refine sr (lr2 rfl (nr ?_))
  refine WQ.pubSet 6 rfl rfl ?_
  cases h
  exact rt tbOk hR
theorem memberIn2_con {wg : World} (hw : WG wg) {s : Str} {a1 : (List Str)} {r : Bool} (h : memberIn2 s a1 = some r) : Con Tryz.prog wg gl 164 [.v (.str s), .p 1 0] [(1, .blk 155 [.v (.mp a1)])] (.v (.bool r)) [(1, .blk 155 [.v (.mp a1)])] := by
 unfold memberIn2 at h
 refine con_of_WC (S := slotsOf 0 _) Tryz.func164 rfl Tryz.ntmps164 rfl (fun t x hx => (slotsOf_get hx).2) ?_
 intro F L w ρ0 R hR
 try dsimp only [slotsOf]
 refine sr (lr1 rfl (ns (lr2 rfl ?_)))
 refine WL.q [] rfl rfl rfl (q_look tbOk Tryz.underlying155 Tryz.underlying9 (et := 4) rfl rfl rfl (by exact trivial)) ?_
 refine lr1 rfl (nr ?_)
 cases h
 exact rt tbOk hR
theorem memberB_con {wg : World} (hw : WG wg) {l : (List Str)} {r : (List Str)} (h : memberB l = some r) : Con Tryz.prog wg gl 133 [.v (.sl 1 (l.map eStr))] [] (.fn 164 [.p 500 0]) [(500, .blk 155 [.v (.mp r)])] := by
 unfold memberB at h
 refine con_of_WC (S := slotsOf 0 _) Tryz.func133 rfl Tryz.ntmps133 rfl (fun t x hx => (slotsOf_get hx).2) ?_
 intro F L w ρ0 R hR
 try dsimp only [slotsOf]
 refine sr (lr2 rfl (nn (WC.seq (sr (lr1 rfl ?_)))))
 refine WL.q [] rfl rfl rfl (q_ev tbOk (.v (.int .i64 (l.length : Int))) rfl (by exact trivial) (by exact lenT)) ?_
 refine lr1 rfl (nn ?_)
 refine WC.cond rfl (fun hc1 => ?_) (fun hc1 => ?_)
 ·replace h := ite_t hc1 h
  refine sr (lr2 rfl (nr (WQ.thenRet ?_)))
  cases h
 ·replace h := ite_f hc1 h
  refine kn (sr (lr1 rfl ?_))
  replace h := bnd h; obtain ⟨v, hvv, h⟩ := h
  refine WL.call0 fn134 rfl rfl rfl rfl (by exact trivial) rfl (setOf_con hw hvv) ?_
  refine lr2 rfl (ns (lr2 rfl (nr ?_)))
  cases h
  exact WQ.rets tbOk hR [(500, 3)] (.inl rfl) rfl rfl (Le.refl _) (by exact eqs) rfl rfl rfl rfl
theorem commonS_con {wg : World} (hw : WG wg) {a : (List Str)} {b : (List Str)} {r : Int} (h : commonS a b = some r) : Con Tryz.prog wg gl 79 [.v (.sl 1 (a.map eStr)), .v (.sl 1 (b.map eStr))] [] (.v (.int .i64 r)) [] := by
 unfold commonS at h
 refine con_of_WC (S := slotsOf 0 _) Tryz.func79 rfl Tryz.ntmps79 rfl (fun t x hx => (slotsOf_get hx).2) ?_
 intro F L w ρ0 R hR
 try dsimp only [slotsOf]
 refine sr (lr1 rfl (ns (lr1 rfl ?_)))
 replace h := bnd h; obtain ⟨v, hvv, h⟩ := h
 refine WL.callO [] [(500, 9)] [9] fn133 rfl rfl rfl rfl (by exact trivial) (member_con hw hvv) rfl rfl (by exact trivial) rfl rfl rfl rfl rfl rfl ?_
 refine lr1 rfl (ns (lr1 rfl (nn (WC.seq (sr (lr1 rfl ?_))))))
 replace h := bnd h; obtain ⟨v2, hvv2, h⟩ := h
 refine WL.call0 fn134 rfl rfl rfl rfl (by exact trivial) rfl (setOf_con hw hvv2) ?_
 refine WL.rangeSet Tryz.underlying155 rfl rfl rfl rfl (by exact trivial) rfl ?_
 refine nn ?_
 refine WC.thenCut (X := Int) (fun gG => ⟨[(6, .v (.int .i64 gG))], []⟩) (fun gG => commonS_j1 gG = some r) ?_ ?_
 ·refine WC.block ?_
  obtain ⟨eQ1, hl1, hk_1⟩ := bnd h
  clear h
  refine WC.loopM (σ := (List Str) × (Int)) (fun sS => ⟨[(12, .r 12), (6, .v (.int .i64 sS.2)), (5, .fn 163 [.p 9 0])], [(9, .blk 31 [.v (.sl 1 (v.map eStr))]), (12, .sit sS.1 none)]⟩) (fun sS => ∀ o : List Str, o.Perm sS.1 → foldO (commonS_b1 v) o sS.2 = some eQ1) (fun sS => sS.1.length) [] (v2, (0 : Int)) (setFold_all hl1) sub ?_
  rintro ⟨left, count2⟩ hI1
  try dsimp only [slotsOf]
  refine sr ?_
  refine WL.nextSet rfl rfl rfl rfl (by exact sideR) rfl (fun kx1 hkx1 => ?_) (fun hkn1 => ?_)
  ·obtain ⟨o1, hf1, hI2_1⟩ := set_step hI1 hkx1
   have h := hf1
   unfold commonS_b1 at h
   refine lr1 rfl (nn (WC.seq ?_))
   refine WC.cond (b := true) rfl (fun hc2 => ?_) (fun hc2 => by cases hc2)
   refine kn (WC.block (sr ?_))
   refine WL.q [12] rfl rfl rfl (q_entry rfl (by exact trivial) rfl) ?_
   refine lr2 rfl (ns (lr2 rfl ?_))
   replace h := bnd h; obtain ⟨v4, hvv4, h⟩ := h
   refine WL.callO [(1, 9)] [(1, 9)] [9] fn163 rfl rfl rfl rfl (by exact trivial) (memberIn_con hw hvv4) rfl rfl (by exact eqs) rfl rfl rfl rfl rfl rfl ?_
   refine nn ?_
   refine WC.cond rfl (fun hc3 => ?_) (fun hc3 => ?_)
   ·replace h := ite_t hc3 h
    refine WC.region (lr3 rfl (WL.nil (WQ.blockNormal ?_)))
    refine WQ.weakenO 12 (.sit (left.erase kx1) none) rfl LeO.sit rfl ?_
    cases h
    exact WQ.nextM [] (left.erase kx1, (IntKind.i64.wrap (count2 + (1 : Int)))) sub hI2_1 (erase_lt hkx1)
   ·replace h := ite_f hc3 h
    refine WC.skip (WQ.blockNormal ?_)
    refine WQ.weakenO 12 (.sit (left.erase kx1) none) rfl LeO.sit rfl ?_
    cases h
    exact WQ.nextM [] (left.erase kx1, count2) sub hI2_1 (erase_lt hkx1)
  ·refine lr1 rfl (nn (WC.seq ?_))
   refine WC.cond (b := false) rfl (fun hc1 => by cases hc1) (fun hc1 => ?_)
   refine WC.exit (WQ.thenExit ?_)
   have he := (set_end hI1 hkn1).symm
   subst he
   have h := hk_1
   try dsimp only at h
   refine eb ?_
   exact WQ.cut [] count2 sub h
 ·intro count h
  replace h : commonS_j1 count = some _ := h
  unfold commonS_j1 at h
  try dsimp only [slotsOf]
  refine sr (lr2 rfl (nr ?_))
  cases h
  exact rt tbOk hR
theorem commonB_con {wg : World} (hw : WG wg) {a : (List Str)} {b : (List Str)} {r : Int} (h : commonB a b = some r) : Con Tryz.prog wg gl 79 [.v (.sl 1 (a.map eStr)), .v (.sl 1 (b.map eStr))] [] (.v (.int .i64 r)) [] := by
 unfold commonB at h
 refine con_of_WC (S := slotsOf 0 _) Tryz.func79 rfl Tryz.ntmps79 rfl (fun t x hx => (slotsOf_get hx).2) ?_
 intro F L w ρ0 R hR
 try dsimp only [slotsOf]
 refine sr (lr1 rfl (ns (lr1 rfl ?_)))
 replace h := bnd h; obtain ⟨v, hvv, h⟩ := h
 refine WL.callO [] [(500, 9)] [9] fn133 rfl rfl rfl rfl (by exact trivial) (memberB_con hw hvv) rfl rfl (by exact trivial) rfl rfl rfl rfl rfl rfl ?_
 refine lr1 rfl (ns (lr1 rfl (nn (WC.seq (sr (lr1 rfl ?_))))))
 replace h := bnd h; obtain ⟨v2, hvv2, h⟩ := h
 refine WL.call0 fn134 rfl rfl rfl rfl (by exact trivial) rfl (setOf_con hw hvv2) ?_
 refine WL.rangeSet Tryz.underlying155 rfl rfl rfl rfl (by exact trivial) rfl ?_
 refine nn ?_
 refine WC.thenCut (X := Int) (fun gG => ⟨[(6, .v (.int .i64 gG))], []⟩) (fun gG => commonB_j1 gG = some r) ?_ ?_
 ·refine WC.block ?_
  obtain ⟨eQ1, hl1, hk_1⟩ := bnd h
  clear h
  refine WC.loopM (σ := (List Str) × (Int)) (fun sS => ⟨[(12, .r 12), (6, .v (.int .i64 sS.2)), (5, .fn 164 [.p 9 0])], [(9, .blk 155 [.v (.mp v)]), (12, .sit sS.1 none)]⟩) (fun sS => ∀ o : List Str, o.Perm sS.1 → foldO (commonB_b1 v) o sS.2 = some eQ1) (fun sS => sS.1.length) [] (v2, (0 : Int)) (setFold_all hl1) sub ?_
  rintro ⟨left, count2⟩ hI1
  try dsimp only [slotsOf]
  refine sr ?_
  refine WL.nextSet rfl rfl rfl rfl (by exact sideR) rfl (fun kx1 hkx1 => ?_) (fun hkn1 => ?_)
  ·obtain ⟨o1, hf1, hI2_1⟩ := set_step hI1 hkx1
   have h := hf1
   unfold commonB_b1 at h
   refine lr1 rfl (nn (WC.seq ?_))
   refine WC.cond (b := true) rfl (fun hc2 => ?_) (fun hc2 => by cases hc2)
   refine kn (WC.block (sr ?_))
   refine WL.q [12] rfl rfl rfl (q_entry rfl (by exact trivial) rfl) ?_
   refine lr2 rfl (ns (lr2 rfl ?_))
   replace h := bnd h; obtain ⟨v4, hvv4, h⟩ := h
   refine WL.callO [(1, 9)] [(1, 9)] [9] fn164 rfl rfl rfl rfl (by exact trivial) (memberIn2_con hw hvv4) rfl rfl (by exact eqs) rfl rfl rfl rfl rfl rfl ?_
   refine nn ?_
   refine WC.cond rfl (fun hc3 => ?_) (fun hc3 => ?_)
   ·replace h := ite_t hc3 h
    refine WC.region (lr3 rfl (WL.nil (WQ.blockNormal ?_)))
    refine WQ.weakenO 12 (.sit (left.erase kx1) none) rfl LeO.sit rfl ?_
    cases h
    exact WQ.nextM [] (left.erase kx1, (IntKind.i64.wrap (count2 + (1 : Int)))) sub hI2_1 (erase_lt hkx1)
   ·replace h := ite_f hc3 h
    refine WC.skip (WQ.blockNormal ?_)
    refine WQ.weakenO 12 (.sit (left.erase kx1) none) rfl LeO.sit rfl ?_
    cases h
    exact WQ.nextM [] (left.erase kx1, count2) sub hI2_1 (erase_lt hkx1)
  ·refine lr1 rfl (nn (WC.seq ?_))
   refine WC.cond (b := false) rfl (fun hc1 => by cases hc1) (fun hc1 => ?_)
   refine WC.exit (WQ.thenExit ?_)
   have he := (set_end hI1 hkn1).symm
   subst he
   have h := hk_1
   try dsimp only at h
   refine eb ?_
   exact WQ.cut [] count2 sub h
 ·intro count h
  replace h : commonB_j1 count = some _ := h
  unfold commonB_j1 at h
  try dsimp only [slotsOf]
  refine sr (lr2 rfl (nr ?_))
  cases h
  exact rt tbOk hR
theorem growStr_con {wg : World} (hw : WG wg) {n1 : Int} {r : (List Str)} (h : growStr n1 = some r) : Con Tryz.prog wg gl 180 [.v (.raw (.slice none 0 0)), .v (.int .i64 n1)] [] (.r 500) [(500, .row 9 1 (r.map eStr))] := by
 unfold growStr at h
 refine con_of_WC (S := slotsOf 0 _) Tryz.func180 rfl Tryz.ntmps180 rfl (fun t x hx => (slotsOf_get hx).2) ?_
 intro F L w ρ0 R hR
 try dsimp only [slotsOf]
 refine sr (lr1 rfl (nn (WC.seq (sr (lr2 rfl (nn ?_))))))
 refine WC.cond rfl (fun hc1 => ?_) (fun hc1 => ?_)
 ·replace h := ite_t hc1 h
  cases h
 ·replace h := ite_f hc1 h
  refine kn (WC.seq (sr (lr2 rfl ?_)))
  refine WL.q [] rfl rfl rfl (q_nil ap31 rfl (by exact trivial)) ?_
  refine lr5 rfl (ns (lr2 rfl (nn ?_)))
  refine WC.thenCut (X := (List Str)) (fun gG => ⟨[(0, .r 1000)], [(1000, .row 9 1 (gG.map eStr))]⟩) (fun gG => growStr_j1 gG = some r) ?_ ?_
  ·refine WC.cond rfl (fun hc2 => ?_) (fun hc2 => ?_)
   ·replace h := ite_t hc2 h
    refine WC.region (lr2 rfl ?_)
    refine WL.q [] rfl rfl rfl (q_nil ap31 rfl (by exact trivial)) ?_
    refine WL.q [] rfl rfl rfl (q_nil ap31 rfl (by exact sideR)) ?_
    refine lr1 rfl ?_
    obtain ⟨g1, h⟩ := grd h
    refine WL.growRow tbOk (List.replicate (IntKind.i64.wrap (n1 - (IntKind.i64.wrap ((0 : Int) - (0 : Int))))).toNat [.raw (.string ⟨⟨[]⟩⟩)]) ap31 rfl rfl rfl rfl rfl (by exact sideR) g1 rfl rfl ?_
    refine lr2 rfl ?_
    refine WL.rcut tbOk (([] : (List Str)).map eStr) rfl rfl rfl rfl (by exact sideR) rfl ⟨Int.le_refl 0, Int.natCast_nonneg _⟩ rfl rfl ?_
    refine lr1 rfl (WL.nil ?_)
    exact WQ.cut [(1000, 25)] [] sub h
   ·replace h := ite_f hc2 h
    refine WC.skip ?_
    refine WQ.rowNil 0 1000 9 1 rfl rfl ?_
    exact WQ.cut [] [] sub h
  ·intro s h
   replace h : growStr_j1 s = some _ := h
   unfold growStr_j1 at h
   try dsimp only [slotsOf]
   refine sr (lr2 rfl (nr ?_))
   cases h
   exact WQ.rets tbOk hR [(500, 1000)] (.inl rfl) rfl rfl (Le.refl _) (by exact eqs) rfl rfl rfl rfl
theorem concatStr_con {wg : World} (hw : WG wg) {slices : (List (List Str))} {r : (List Str)} (h : concatStr slices = some r) : Con Tryz.prog wg gl 158 [.v (.sl 1 (slices.map eLStr))] [] (.r 500) [(500, .row 9 1 (r.map eStr))] := by
 unfold concatStr at h
 refine con_of_WC (S := slotsOf 0 _) Tryz.func158 rfl Tryz.ntmps158 rfl (fun t x hx => (slotsOf_get hx).2) ?_
 intro F L w ρ0 R hR
 try dsimp only [slotsOf]
 refine sr (lr1 rfl (ns (lr1 rfl (nn (WC.seq (sr (lr1 rfl ?_)))))))
 refine WL.q [] rfl rfl rfl (q_ev tbOk (.v (.int .i64 (slices.length : Int))) rfl (by exact trivial) (by exact lenT)) ?_
 refine lr1 rfl (nn ?_)
 refine WC.thenCut (X := Int) (fun gG => ⟨[(3, .v (.int .i64 gG)), (0, .v (.sl 1 (slices.map eLStr)))], []⟩) (fun gG => concatStr_j1 slices gG = some r) ?_ ?_
 ·refine WC.block ?_
  obtain ⟨eQ2, hl2, hk2⟩ := bnd h
  clear h
  refine WC.loop (σ := Int × Int) (τ := (Int)) (fun sS => ⟨[(11, .v (.int .i64 sS.1)), (10, .v (.int .i64 (slices.length : Int))), (9, .v (.sl 1 (slices.map eLStr))), (3, .v (.int .i64 sS.2)), (0, .v (.sl 1 (slices.map eLStr)))], []⟩) (concatStr_b2 slices) [] ((0 : Int), (0 : Int)) hl2 sub ?_
  rintro ⟨t11, size2⟩ m hn2 he2 hx2
  obtain ⟨o2, hf2⟩ := some_of hx2
  have h := hf2
  unfold concatStr_b2 at h
  try dsimp only [slotsOf]
  refine sr (lr1 rfl (nn (WC.seq ?_)))
  refine WC.cond rfl (fun hc2 => ?_) (fun hc2 => ?_)
  ·replace h := ite_t hc2 h
   refine kn (sb (sr ?_))
   obtain ⟨g3, h⟩ := grd h
   replace h := bnd h; obtain ⟨x4, hxx4, h⟩ := h
   refine WL.q [] rfl rfl rfl (q_idx tbOk rfl (by exact trivial) g3 (map_get (f := eLStr) hxx4)) ?_
   refine lr2 rfl (ns (lr2 rfl ?_))
   refine WL.q [] rfl rfl rfl (q_ev tbOk (.v (.int .i64 (x4.length : Int))) rfl (by exact trivial) (by exact lenT)) ?_
   refine lr2 rfl (ns (lr2 rfl (nn ?_)))
   refine WC.cond rfl (fun hc3 => ?_) (fun hc3 => ?_)
   ·replace h := ite_t hc3 h
    cases h
   ·replace h := ite_f hc3 h
    refine WC.skip (bn (WC.region (lr2 rfl (WL.nil ?_))))
    cases h
    exact WQ.next [] ((IntKind.i64.wrap (t11 + (1 : Int))), (IntKind.i64.wrap (size2 + (x4.length : Int)))) sub (hn2 _ hf2)
  ·replace h := ite_f hc2 h
   refine WC.exit (WQ.thenExit ?_)
   cases h
   have he := he2 _ hf2
   subst he
   replace h := hk2
   try dsimp only at h
   refine eb ?_
   exact WQ.cut [] size2 sub h
 ·intro size h
  replace h : concatStr_j1 slices size = some _ := h
  unfold concatStr_j1 at h
  try dsimp only [slotsOf]
  refine sr (lr1 rfl ?_)
  replace h := bnd h; obtain ⟨v, hvv, h⟩ := h
  refine WL.callO [] [(500, 24)] [24] fn180 rfl rfl rfl rfl (by exact trivial) (growStr_con hw hvv) rfl rfl (by exact trivial) rfl rfl rfl rfl rfl rfl ?_
  refine lr1 rfl (nn (WC.seq (sr (lr1 rfl ?_))))
  refine WL.q [] rfl rfl rfl (q_ev tbOk (.v (.int .i64 (slices.length : Int))) rfl (by exact trivial) (by exact lenT)) ?_
  refine lr1 rfl (nn ?_)
  refine WC.thenCut (X := (List Str)) (fun gG => ⟨[(6, .r 1006)], [(1006, .row 9 1 (gG.map eStr))]⟩) (fun gG => concatStr_j2 gG = some r) ?_ ?_
  ·refine WC.block ?_
   obtain ⟨eQ1, hl1, hk1⟩ := bnd h
   clear h
   refine WC.loop (σ := Int × (List Str)) (τ := ((List Str))) (fun sS => ⟨[(27, .v (.int .i64 sS.1)), (26, .v (.int .i64 (slices.length : Int))), (25, .v (.sl 1 (slices.map eLStr))), (6, .r 1006)], [(1006, .row 9 1 (sS.2.map eStr))]⟩) (concatStr_b1 slices) [(1006, 24)] ((0 : Int), v) hl1 sub ?_
   rintro ⟨t27, newslice2⟩ m hn1 he1 hx1
   obtain ⟨o1, hf1⟩ := some_of hx1
   have h := hf1
   unfold concatStr_b1 at h
   try dsimp only [slotsOf]
   refine sr (lr1 rfl (nn (WC.seq ?_)))
   refine WC.cond rfl (fun hc1 => ?_) (fun hc1 => ?_)
   ·replace h := ite_t hc1 h
    refine kn (sb (sr ?_))
    obtain ⟨g1, h⟩ := grd h
    replace h := bnd h; obtain ⟨x2, hxx2, h⟩ := h
    refine WL.q [] rfl rfl rfl (q_idx tbOk rfl (by exact trivial) g1 (map_get (f := eLStr) hxx2)) ?_
    refine lr2 rfl (nn (WC.region (lr2 rfl ?_)))
    obtain ⟨g2, h⟩ := grd h
    refine WL.append tbOk ((newslice2 ++ x2).map eStr) [33, 1006] ap31 rfl rfl rfl rfl (fun _ e => by cases e; rfl) (by exact trivial) (map_cells (f := eStr) (xs := x2) fun _ => rfl) (by have := g2; simp only [List.length_map, List.length_nil, List.length_cons] at this ⊢; omega) rfl rfl (by simp only [List.map_append]; try rfl) rfl ?_
    refine lr1 rfl (WL.nil (bn (WC.region (lr2 rfl (WL.nil ?_)))))
    cases h
    exact WQ.next [(1006, 33)] ((IntKind.i64.wrap (t27 + (1 : Int))), (newslice2 ++ x2)) sub (hn1 _ hf1)
   ·replace h := ite_f hc1 h
    refine WC.exit (WQ.thenExit ?_)
    cases h
    have he := he1 _ hf1
    subst he
    replace h := hk1
    try dsimp only at h
    refine eb ?_
    exact WQ.cut [] newslice2 sub h
  ·intro newslice h
   replace h : concatStr_j2 newslice = some _ := h
   unfold concatStr_j2 at h
   try dsimp only [slotsOf]
   refine sr (lr2 rfl (nr ?_))
   cases h
   exact WQ.rets tbOk hR [(500, 1006)] (.inl rfl) rfl rfl (Le.refl _) (by exact eqs) rfl rfl rfl rfl
theorem union_con {wg : World} (hw : WG wg) {a : (List Str)} {b : (List Str)} {r : (List Str)} (h : union a b = some r) : Con Tryz.prog wg gl 124 [.v (.sl 1 (a.map eStr)), .v (.sl 1 (b.map eStr))] [] (.v (.sl 1 (r.map eStr))) [] := by
 unfold union at h
 refine con_of_WC (S := slotsOf 0 _) Tryz.func124 rfl Tryz.ntmps124 rfl (fun t x hx => (slotsOf_get hx).2) ?_
 intro F L w ρ0 R hR
 try dsimp only [slotsOf]
 refine sr (lr1 rfl (ns (lr3 rfl ?_)))
 replace h := bnd h; obtain ⟨v, hvv, h⟩ := h
 refine WL.callO [] [(500, 9)] [9] fn158 rfl rfl rfl rfl (by exact trivial) (concatStr_con hw hvv) rfl rfl (by exact trivial) rfl rfl rfl rfl rfl rfl ?_
 refine lr1 rfl (ns (lr1 rfl ?_))
 replace h := bnd h; obtain ⟨v2, hvv2, h⟩ := h
 refine WL.callO [(0, 9)] [(0, 9)] [9] fn159 rfl rfl rfl rfl (by exact trivial) (sortS_con hw hvv2) rfl rfl (by exact eqs) rfl rfl rfl rfl rfl rfl ?_
 refine ns (lr1 rfl ?_)
 replace h := bnd h; obtain ⟨v3, hvv3, h⟩ := h
 refine WL.callO [(0, 9)] [(0, 9), (500, 13)] [9, 13] fn160 rfl rfl rfl rfl (by exact trivial) (compactS_con hw hvv3) rfl rfl (by exact eqs) rfl rfl rfl rfl rfl rfl ?_
 refine lr1 rfl (nr ?_)
 refine WQ.publish 13 rfl rfl ?_
 cases h
 exact rt tbOk hR
end Go.Proofs.YtfkefolbabniaaaGreatDoor
end

section
set_option linter.unusedVariables false
set_option linter.unusedSimpArgs false
set_option maxHeartbeats 4000000
set_option maxRecDepth 20000
namespace Go.Proofs.YtfkefolbabniaaaGreatDoor
open Go.V Go.C
theorem refCommon_con {wg : World} (hw : WG wg) {a : (List Str)} {b : (List Str)} {r : Int} (h : refCommon a b = some r) : Con Tryz.prog wg gl 84 [.v (.sl 1 (a.map eStr)), .v (.sl 1 (b.map eStr))] [] (.v (.int .i64 r)) [] := by
 unfold refCommon at h
 refine con_of_WC (S := slotsOf 0 _) Tryz.func84 rfl Tryz.ntmps84 rfl (fun t x hx => (slotsOf_get hx).2) ?_
 intro F L w ρ0 R hR
 try dsimp only [slotsOf]
 refine sr (lr1 rfl (ns (lr1 rfl ?_)))
 replace h := bnd h; obtain ⟨v, hvv, h⟩ := h
 refine WL.call0 fn82 rfl rfl rfl rfl (by exact trivial) rfl (con_le (.cons (Le.refl _) (.cons (Le.nil 1) .nil)) (refUnion_con hw hvv)) ?_
 refine lr1 rfl (ns (lr1 rfl (nn (WC.seq (sr (lr1 rfl (nn ?_)))))))
 refine WC.thenCut (X := Int) (fun gG => ⟨[(6, .v (.int .i64 gG))], []⟩) (fun gG => refCommon_j1 gG = some r) ?_ ?_
 ·refine WC.block ?_
  obtain ⟨eQ1, hl1, hk1⟩ := bnd h
  clear h
  refine WC.loop (σ := Int × Int) (τ := (Int)) (fun sS => ⟨[(7, .v (.int .i64 sS.1)), (6, .v (.int .i64 sS.2)), (5, .v (.sl 1 (v.map eStr))), (1, .v (.sl 1 (b.map eStr)))], []⟩) (refCommon_b1 b v) [] ((0 : Int), (0 : Int)) hl1 sub ?_
  rintro ⟨i, n12⟩ m hn1 he1 hx1
  obtain ⟨o1, hf1⟩ := some_of hx1
  have h := hf1
  unfold refCommon_b1 at h
  try dsimp only [slotsOf]
  refine WC.seq (sr (lr2 rfl ?_))
  refine WL.q [] rfl rfl rfl (q_ev tbOk (.v (.int .i64 (v.length : Int))) rfl (by exact trivial) (by exact lenT)) ?_
  refine lr1 rfl (nn ?_)
  refine WC.cond rfl (fun hc1 => ?_) (fun hc1 => ?_)
  ·replace h := ite_t hc1 h
   refine kn (WC.seq ?_)
   refine WC.thenCut (X := Int) (fun gG => ⟨[(6, .v (.int .i64 gG)), (7, .v (.int .i64 i)), (5, .v (.sl 1 (v.map eStr))), (1, .v (.sl 1 (b.map eStr)))], []⟩) (fun gG => refCommon_j2 b v i gG = some o1) ?_ ?_
   ·refine WC.block (sr (lr3 rfl ?_))
    obtain ⟨g1, h⟩ := grd h
    replace h := bnd h; obtain ⟨x2, hxx2, h⟩ := h
    refine WL.q [] rfl rfl rfl (q_idx tbOk rfl (by exact trivial) g1 (map_get (f := eStr) hxx2)) ?_
    refine lr1 rfl ?_
    replace h := bnd h; obtain ⟨v3, hvv3, h⟩ := h
    refine WL.call0 fn40 rfl rfl rfl rfl (by exact trivial) rfl (refHas_con hw hvv3) ?_
    refine nn ?_
    refine WC.cond rfl (fun hc2 => ?_) (fun hc2 => ?_)
    ·replace h := ite_t hc2 h
     refine WC.region (lr3 rfl (WL.nil (WQ.blockNormal ?_)))
     exact WQ.cut [] (IntKind.i64.wrap (n12 + (1 : Int))) sub h
    ·replace h := ite_f hc2 h
     refine WC.skip (WQ.blockNormal ?_)
     exact WQ.cut [] n12 sub h
   ·intro n16 h
    replace h : refCommon_j2 b v i n16 = some _ := h
    unfold refCommon_j2 at h
    try dsimp only [slotsOf]
    refine WC.region (lr3 rfl (WL.nil ?_))
    cases h
    exact WQ.next [] ((IntKind.i64.wrap (i + (1 : Int))), n16) sub (hn1 _ hf1)
  ·replace h := ite_f hc1 h
   refine WC.exit (WQ.thenExit ?_)
   cases h
   have he := he1 _ hf1
   subst he
   replace h := hk1
   try dsimp only at h
   refine eb ?_
   exact WQ.cut [] n12 sub h
 ·intro n1 h
  replace h : refCommon_j1 n1 = some _ := h
  unfold refCommon_j1 at h
  try dsimp only [slotsOf]
  refine sr (lr2 rfl (nr ?_))
  cases h
  exact rt tbOk hR
theorem rIncomplete_con {wg : World} (hw : WG wg) {g : ApiGood} {r : (List Str)} (h : rIncomplete g = some r) : Con Tryz.prog wg gl 130 [.v (.agg [.sl 1 (g.Words.map eStr), .sl 2 (g.Materials.map eApiMaterial), .sl 2 (g.Parts.map eApiComponent), .bool g.Incomplete])] [] (.v (.sl 1 (r.map eStr))) [] := by
 unfold rIncomplete at h
 refine con_of_WC (S := slotsOf 0 _) Tryz.func130 rfl Tryz.ntmps130 rfl (fun t x hx => (slotsOf_get hx).2) ?_
 intro F L w ρ0 R hR
 try dsimp only [slotsOf]
 refine sr (lr2 rfl (ns (lr3 rfl ?_)))
 replace h := bnd h; obtain ⟨v, hvv, h⟩ := h
 refine WL.call0 fn82 rfl rfl rfl rfl (by exact trivial) rfl (refUnion_con hw hvv) ?_
 refine lr1 rfl (nr ?_)
 cases h
 exact rt tbOk hR
theorem rLikeness_con {wg : World} (hw : WG wg) {b : ApiNomenclature} {x : ApiCodeEntry} {g : ApiGood} {r : Int} (h : rLikeness b x g = some r) : Con Tryz.prog wg gl 33 [.v (.agg [.sl 5 (b.Entries.map eApiCodeEntry), .sl 3 (b.Notes.map eApiCodeNote)]), .v (.agg [.str x.Code, .int .i64 x.From, .int .i64 x.To, .sl 1 (x.Terms.map eLStr), .bool x.Other]), .v (.agg [.sl 1 (g.Words.map eStr), .sl 2 (g.Materials.map eApiMaterial), .sl 2 (g.Parts.map eApiComponent), .bool g.Incomplete])] [] (.v (.int .i64 r)) [] := by
 unfold rLikeness at h
 refine con_of_WC (S := slotsOf 0 _) Tryz.func33 rfl Tryz.ntmps33 rfl (fun t x hx => (slotsOf_get hx).2) ?_
 intro F L w ρ0 R hR
 try dsimp only [slotsOf]
 refine sr (lr4 rfl (nn (WC.seq (sr (lr5 rfl ?_)))))
 replace h := bnd h; obtain ⟨v, hvv, h⟩ := h
 refine WL.call0 fn80 rfl rfl rfl rfl (by exact trivial) rfl (refExcluded_con hw hvv) ?_
 refine nn ?_
 refine WC.cond rfl (fun hc1 => ?_) (fun hc1 => ?_)
 ·replace h := ite_t hc1 h
  refine sr (lr1 rfl (nr (WQ.thenRet ?_)))
  cases h
  exact rt tbOk hR
 ·replace h := ite_f hc1 h
  refine kn (sr (lr3 rfl (nn (WC.seq (sr (lr1 rfl (nn ?_)))))))
  refine WC.thenCut (X := (List Str)) (fun gG => ⟨[(7, .v (.sl 1 (gG.map eStr))), (5, .p 5 0), (4, .p 4 0), (3, .p 3 0)], [(3, .blk 28 [.v (.sl 5 (b.Entries.map eApiCodeEntry)), .v (.sl 3 (b.Notes.map eApiCodeNote))]), (4, .blk 54 [.v (.str x.Code), .v (.int .i64 x.From), .v (.int .i64 x.To), .v (.sl 1 (x.Terms.map eLStr)), .v (.bool x.Other)]), (5, .blk 43 [.v (.sl 1 (g.Words.map eStr)), .v (.sl 2 (g.Materials.map eApiMaterial)), .v (.sl 2 (g.Parts.map eApiComponent)), .v (.bool g.Incomplete)])]⟩) (fun gG => rLikeness_j1 b x g gG = some r) ?_ ?_
  ·refine WC.block ?_
   obtain ⟨eQ3, hl3, hk3⟩ := bnd h
   clear h
   refine WC.loop (σ := Int × (List Str)) (τ := ((List Str))) (fun sS => ⟨[(8, .v (.int .i64 sS.1)), (7, .v (.sl 1 (sS.2.map eStr))), (5, .p 5 0), (4, .p 4 0), (3, .p 3 0)], [(3, .blk 28 [.v (.sl 5 (b.Entries.map eApiCodeEntry)), .v (.sl 3 (b.Notes.map eApiCodeNote))]), (4, .blk 54 [.v (.str x.Code), .v (.int .i64 x.From), .v (.int .i64 x.To), .v (.sl 1 (x.Terms.map eLStr)), .v (.bool x.Other)]), (5, .blk 43 [.v (.sl 1 (g.Words.map eStr)), .v (.sl 2 (g.Materials.map eApiMaterial)), .v (.sl 2 (g.Parts.map eApiComponent)), .v (.bool g.Incomplete)])]⟩) (rLikeness_b3 b x g) [] ((0 : Int), g.Words) hl3 sub ?_
   rintro ⟨i5, w16⟩ m hn3 he3 hx3
   obtain ⟨o3, hf3⟩ := some_of hx3
   have h := hf3
   unfold rLikeness_b3 at h
   try dsimp only [slotsOf]
   refine WC.seq (sr (lr3 rfl ?_))
   refine WL.q [] rfl rfl rfl (q_ev tbOk (.v (.int .i64 (g.Materials.length : Int))) rfl (by exact trivial) (by exact lenT)) ?_
   refine lr1 rfl (nn ?_)
   refine WC.cond rfl (fun hc4 => ?_) (fun hc4 => ?_)
   ·replace h := ite_t hc4 h
    refine kn (sb (WC.region (lr4 rfl ?_)))
    obtain ⟨g3, h⟩ := grd h
    replace h := bnd h; obtain ⟨x7, hxx7, h⟩ := h
    refine WL.q [] rfl rfl rfl (q_idx tbOk rfl (by exact trivial) g3 (map_get (f := eApiMaterial) hxx7)) ?_
    refine lr2 rfl ?_
    replace h := bnd h; obtain ⟨v8, hvv8, h⟩ := h
    refine WL.call0 fn81 rfl rfl rfl rfl (by exact trivial) rfl (refWith_con hw hvv8) ?_
    refine lr1 rfl (WL.nil (bn (WC.region (lr3 rfl (WL.nil ?_)))))
    cases h
    exact WQ.next [] ((IntKind.i64.wrap (i5 + (1 : Int))), v8) sub (hn3 _ hf3)
   ·replace h := ite_f hc4 h
    refine WC.exit (WQ.thenExit ?_)
    cases h
    have he := he3 _ hf3
    subst he
    replace h := hk3
    try dsimp only at h
    refine eb ?_
    exact WQ.cut [] w16 sub h
  ·intro w1 h
   replace h : rLikeness_j1 b x g w1 = some _ := h
   unfold rLikeness_j1 at h
   try dsimp only [slotsOf]
   refine WC.seq (sr (lr1 rfl (nn ?_)))
   refine WC.thenCut (X := (List Str)) (fun gG => ⟨[(7, .v (.sl 1 (gG.map eStr))), (4, .p 4 0), (3, .p 3 0)], [(3, .blk 28 [.v (.sl 5 (b.Entries.map eApiCodeEntry)), .v (.sl 3 (b.Notes.map eApiCodeNote))]), (4, .blk 54 [.v (.str x.Code), .v (.int .i64 x.From), .v (.int .i64 x.To), .v (.sl 1 (x.Terms.map eLStr)), .v (.bool x.Other)])]⟩) (fun gG => rLikeness_j2 b x gG = some r) ?_ ?_
   ·refine WC.block ?_
    obtain ⟨eQ2, hl2, hk2⟩ := bnd h
    clear h
    refine WC.loop (σ := Int × (List Str)) (τ := ((List Str))) (fun sS => ⟨[(9, .v (.int .i64 sS.1)), (7, .v (.sl 1 (sS.2.map eStr))), (5, .p 5 0), (4, .p 4 0), (3, .p 3 0)], [(3, .blk 28 [.v (.sl 5 (b.Entries.map eApiCodeEntry)), .v (.sl 3 (b.Notes.map eApiCodeNote))]), (4, .blk 54 [.v (.str x.Code), .v (.int .i64 x.From), .v (.int .i64 x.To), .v (.sl 1 (x.Terms.map eLStr)), .v (.bool x.Other)]), (5, .blk 43 [.v (.sl 1 (g.Words.map eStr)), .v (.sl 2 (g.Materials.map eApiMaterial)), .v (.sl 2 (g.Parts.map eApiComponent)), .v (.bool g.Incomplete)])]⟩) (rLikeness_b2 b x g) [] ((0 : Int), w1) hl2 sub ?_
    rintro ⟨i3, w13⟩ m hn2 he2 hx2
    obtain ⟨o2, hf2⟩ := some_of hx2
    have h := hf2
    unfold rLikeness_b2 at h
    try dsimp only [slotsOf]
    refine WC.seq (sr (lr3 rfl ?_))
    refine WL.q [] rfl rfl rfl (q_ev tbOk (.v (.int .i64 (g.Parts.length : Int))) rfl (by exact trivial) (by exact lenT)) ?_
    refine lr1 rfl (nn ?_)
    refine WC.cond rfl (fun hc3 => ?_) (fun hc3 => ?_)
    ·replace h := ite_t hc3 h
     refine kn (sb (WC.region (lr4 rfl ?_)))
     obtain ⟨g2, h⟩ := grd h
     replace h := bnd h; obtain ⟨x5, hxx5, h⟩ := h
     refine WL.q [] rfl rfl rfl (q_idx tbOk rfl (by exact trivial) g2 (map_get (f := eApiComponent) hxx5)) ?_
     refine lr2 rfl ?_
     replace h := bnd h; obtain ⟨v6, hvv6, h⟩ := h
     refine WL.call0 fn82 rfl rfl rfl rfl (by exact trivial) rfl (refUnion_con hw hvv6) ?_
     refine lr1 rfl (WL.nil (bn (WC.region (lr3 rfl (WL.nil ?_)))))
     cases h
     exact WQ.next [] ((IntKind.i64.wrap (i3 + (1 : Int))), v6) sub (hn2 _ hf2)
    ·replace h := ite_f hc3 h
     refine WC.exit (WQ.thenExit ?_)
     cases h
     have he := he2 _ hf2
     subst he
     replace h := hk2
     try dsimp only at h
     refine eb ?_
     exact WQ.cut [] w13 sub h
   ·intro w12 h
    replace h : rLikeness_j2 b x w12 = some _ := h
    unfold rLikeness_j2 at h
    try dsimp only [slotsOf]
    refine sr (lr1 rfl (ns (lr2 rfl ?_)))
    replace h := bnd h; obtain ⟨v2, hvv2, h⟩ := h
    refine WL.call0 fn83 rfl rfl rfl rfl (by exact trivial) rfl (refAlts_con hw hvv2) ?_
    refine lr1 rfl (nn (WC.seq (sr (lr1 rfl (nn ?_)))))
    refine WC.thenCut (X := Int) (fun gG => ⟨[(10, .v (.int .i64 gG))], []⟩) (fun gG => rLikeness_j3 gG = some r) ?_ ?_
    ·refine WC.block ?_
     obtain ⟨eQ1, hl1, hk1⟩ := bnd h
     clear h
     refine WC.loop (σ := Int × Int) (τ := (Int)) (fun sS => ⟨[(12, .v (.int .i64 sS.1)), (11, .v (.sl 1 (v2.map eLStr))), (10, .v (.int .i64 sS.2)), (7, .v (.sl 1 (w12.map eStr)))], []⟩) (rLikeness_b1 w12 v2) [] ((0 : Int), (0 : Int)) hl1 sub ?_
     rintro ⟨i, n12⟩ m hn1 he1 hx1
     obtain ⟨o1, hf1⟩ := some_of hx1
     have h := hf1
     unfold rLikeness_b1 at h
     try dsimp only [slotsOf]
     refine WC.seq (sr (lr2 rfl ?_))
     refine WL.q [] rfl rfl rfl (q_ev tbOk (.v (.int .i64 (v2.length : Int))) rfl (by exact trivial) (by exact lenT)) ?_
     refine lr1 rfl (nn ?_)
     refine WC.cond rfl (fun hc2 => ?_) (fun hc2 => ?_)
     ·replace h := ite_t hc2 h
      refine kn (sb (WC.region (lr3 rfl ?_)))
      obtain ⟨g1, h⟩ := grd h
      replace h := bnd h; obtain ⟨x3, hxx3, h⟩ := h
      refine WL.q [] rfl rfl rfl (q_idx tbOk rfl (by exact trivial) g1 (map_get (f := eLStr) hxx3)) ?_
      refine lr2 rfl ?_
      replace h := bnd h; obtain ⟨v4, hvv4, h⟩ := h
      refine WL.call0 fn84 rfl rfl rfl rfl (by exact trivial) rfl (refCommon_con hw hvv4) ?_
      refine lr2 rfl (WL.nil (bn (WC.region (lr3 rfl (WL.nil ?_)))))
      cases h
      exact WQ.next [] ((IntKind.i64.wrap (i + (1 : Int))), (if v4 > n12 then v4 else n12)) sub (hn1 _ hf1)
     ·replace h := ite_f hc2 h
      refine WC.exit (WQ.thenExit ?_)
      cases h
      have he := he1 _ hf1
      subst he
      replace h := hk1
      try dsimp only at h
      refine eb ?_
      exact WQ.cut [] n12 sub h
    ·intro n1 h
     replace h : rLikeness_j3 n1 = some _ := h
     unfold rLikeness_j3 at h
     try dsimp only [slotsOf]
     refine sr (lr2 rfl (nr ?_))
     cases h
     exact rt tbOk hR
theorem rAsParts_con {wg : World} (hw : WG wg) {b : ApiNomenclature} {x : ApiCodeEntry} {g : ApiGood} {r : Bool} (h : rAsParts b x g = some r) : Con Tryz.prog wg gl 121 [.v (.agg [.sl 5 (b.Entries.map eApiCodeEntry), .sl 3 (b.Notes.map eApiCodeNote)]), .v (.agg [.str x.Code, .int .i64 x.From, .int .i64 x.To, .sl 1 (x.Terms.map eLStr), .bool x.Other]), .v (.agg [.sl 1 (g.Words.map eStr), .sl 2 (g.Materials.map eApiMaterial), .sl 2 (g.Parts.map eApiComponent), .bool g.Incomplete])] [] (.v (.bool r)) [] := by
 unfold rAsParts at h
 refine con_of_WC (S := slotsOf 0 _) Tryz.func121 rfl Tryz.ntmps121 rfl (fun t x hx => (slotsOf_get hx).2) ?_
 intro F L w ρ0 R hR
 try dsimp only [slotsOf]
 refine sr (lr4 rfl (ns (lr1 rfl ?_)))
 replace h := bnd h; obtain ⟨v, hvv, h⟩ := h
 refine WL.call0 fn130 rfl rfl rfl rfl (by exact trivial) rfl (rIncomplete_con hw hvv) ?_
 refine lr1 rfl (ns (lr2 rfl ?_))
 replace h := bnd h; obtain ⟨v2, hvv2, h⟩ := h
 refine WL.call0 fn83 rfl rfl rfl rfl (by exact trivial) rfl (refAlts_con hw hvv2) ?_
 refine lr1 rfl (nn (WC.seq (sr (lr1 rfl (nn ?_)))))
 refine WC.thenCut (X := Unit) (fun gG => ⟨[], []⟩) (fun gG => rAsParts_j1  = some r) ?_ ?_
 ·refine WC.block ?_
  obtain ⟨eQ1, hl1, hk1⟩ := bnd h
  clear h
  refine WC.loop (σ := Int) (τ := ((Bool) ⊕ (Unit))) (fun sS => ⟨[(9, .v (.int .i64 sS)), (8, .v (.sl 1 (v2.map eLStr))), (7, .v (.sl 1 (v.map eStr))), (4, .p 4 0), (3, .p 3 0)], [(3, .blk 28 [.v (.sl 5 (b.Entries.map eApiCodeEntry)), .v (.sl 3 (b.Notes.map eApiCodeNote))]), (4, .blk 54 [.v (.str x.Code), .v (.int .i64 x.From), .v (.int .i64 x.To), .v (.sl 1 (x.Terms.map eLStr)), .v (.bool x.Other)])]⟩) (rAsParts_b1 b x v v2) [] (0 : Int) hl1 sub ?_
  intro i m hn1 he1 hx1
  obtain ⟨o1, hf1⟩ := some_of hx1
  have h := hf1
  unfold rAsParts_b1 at h
  try dsimp only [slotsOf]
  refine WC.seq (sr (lr2 rfl ?_))
  refine WL.q [] rfl rfl rfl (q_ev tbOk (.v (.int .i64 (v2.length : Int))) rfl (by exact trivial) (by exact lenT)) ?_
  refine lr1 rfl (nn ?_)
  refine WC.cond rfl (fun hc1 => ?_) (fun hc1 => ?_)
  ·replace h := ite_t hc1 h
   refine kn (sb (sr (lr2 rfl ?_)))
   obtain ⟨g1, h⟩ := grd h
   replace h := bnd h; obtain ⟨x3, hxx3, h⟩ := h
   refine WL.q [] rfl rfl rfl (q_idx tbOk rfl (by exact trivial) g1 (map_get (f := eLStr) hxx3)) ?_
   refine lr1 rfl ?_
   replace h := bnd h; obtain ⟨v6, hvv6, h⟩ := h
   refine WL.call0 fn40 rfl rfl rfl rfl (by exact trivial) rfl (refHas_con hw hvv6) ?_
   refine lr 3 rfl (by exact sideR) ?_
   obtain ⟨g2, h⟩ := grd h
   refine WL.gq [] rfl rfl rfl rfl (fun hg => q_idx tbOk rfl (by exact sideR) (g2 hg).1 (map_getD (f := eLStr) (g2 hg).2 (g2 hg).1)) ?_
   refine lr 2 rfl (by exact sideR) ?_
   replace h := bnd h; obtain ⟨v7, hvv7, h⟩ := h
   refine WL.gcall0 fn135 rfl rfl rfl rfl rfl (fun _ => (by exact sideR)) rfl (fun hg => (refSubset_con hw (ite_t hg hvv7))) ?_
   refine lr 1 rfl (by exact sideR) ?_
   refine nn ?_
   refine WC.cond rfl (fun hc2 => ?_) (fun hc2 => ?_)
   ·replace h := ite_t hc2 h
    refine sr (lr4 rfl ?_)
    replace h := bnd h; obtain ⟨v8, hvv8, h⟩ := h
    refine WL.call0 fn80 rfl rfl rfl rfl (by exact trivial) rfl (refExcluded_con hw hvv8) ?_
    refine lr2 rfl (nr (rb ?_))
    cases h
    have he := he1 _ hf1
    subst he
    have h : some (!v8) = some _ := hk1
    refine WQ.thenRet (rb ?_)
    cases h
    exact rt tbOk hR
   ·replace h := ite_f hc2 h
    refine WC.skip (bn (WC.region (lr3 rfl (WL.nil ?_))))
    cases h
    exact WQ.next [] (IntKind.i64.wrap (i + (1 : Int))) sub (hn1 _ hf1)
  ·replace h := ite_f hc1 h
   refine WC.exit (WQ.thenExit ?_)
   cases h
   have he := he1 _ hf1
   subst he
   replace h := hk1
   try dsimp only at h
   refine eb ?_
   exact WQ.cut [] () sub h
 ·intro _ h
  replace h : rAsParts_j1 = some _ := h
  unfold rAsParts_j1 at h
  try dsimp only [slotsOf]
  refine sr (lr1 rfl (nr ?_))
  cases h
  exact rt tbOk hR
theorem rByCharacter_con {wg : World} (hw : WG wg) {b : ApiNomenclature} {x : ApiCodeEntry} {g : ApiGood} {r : Bool} (h : rByCharacter b x g = some r) : Con Tryz.prog wg gl 123 [.v (.agg [.sl 5 (b.Entries.map eApiCodeEntry), .sl 3 (b.Notes.map eApiCodeNote)]), .v (.agg [.str x.Code, .int .i64 x.From, .int .i64 x.To, .sl 1 (x.Terms.map eLStr), .bool x.Other]), .v (.agg [.sl 1 (g.Words.map eStr), .sl 2 (g.Materials.map eApiMaterial), .sl 2 (g.Parts.map eApiComponent), .bool g.Incomplete])] [] (.v (.bool r)) [] := by
 unfold rByCharacter at h
 refine con_of_WC (S := slotsOf 0 _) Tryz.func123 rfl Tryz.ntmps123 rfl (fun t x hx => (slotsOf_get hx).2) ?_
 intro F L w ρ0 R hR
 try dsimp only [slotsOf]
 refine sr (lr4 rfl (ns (lr1 rfl ?_)))
 replace h := bnd h; obtain ⟨v, hvv, h⟩ := h
 refine WL.call0 fn131 rfl rfl rfl rfl (by exact trivial) rfl (refCharacters_con hw hvv) ?_
 refine lr1 rfl (nn (WC.seq (sr (lr1 rfl (nn ?_)))))
 refine WC.thenCut (X := Unit) (fun gG => ⟨[], []⟩) (fun gG => rByCharacter_j1  = some r) ?_ ?_
 ·refine WC.block ?_
  obtain ⟨eQ1, hl1, hk1⟩ := bnd h
  clear h
  refine WC.loop (σ := Int) (τ := ((Bool) ⊕ (Unit))) (fun sS => ⟨[(8, .v (.int .i64 sS)), (7, .v (.sl 2 (v.map eApiComponent))), (4, .p 4 0), (3, .p 3 0)], [(3, .blk 28 [.v (.sl 5 (b.Entries.map eApiCodeEntry)), .v (.sl 3 (b.Notes.map eApiCodeNote))]), (4, .blk 54 [.v (.str x.Code), .v (.int .i64 x.From), .v (.int .i64 x.To), .v (.sl 1 (x.Terms.map eLStr)), .v (.bool x.Other)])]⟩) (rByCharacter_b1 b x v) [] (0 : Int) hl1 sub ?_
  intro i m hn1 he1 hx1
  obtain ⟨o1, hf1⟩ := some_of hx1
  have h := hf1
  unfold rByCharacter_b1 at h
  try dsimp only [slotsOf]
  refine WC.seq (sr (lr2 rfl ?_))
  refine WL.q [] rfl rfl rfl (q_ev tbOk (.v (.int .i64 (v.length : Int))) rfl (by exact trivial) (by exact lenT)) ?_
  refine lr1 rfl (nn ?_)
  refine WC.cond rfl (fun hc1 => ?_) (fun hc1 => ?_)
  ·replace h := ite_t hc1 h
   refine kn (sb (WC.seq (WC.order mixed ?_)))
   refine wr 4 rfl trivial ?_
   obtain ⟨g1, h⟩ := grd h
   replace h := bnd h; obtain ⟨x3, hxx3, h⟩ := h
   refine WR.q [] rfl rfl rfl (q_idx tbOk rfl (by exact trivial) g1 (map_get (f := eApiComponent) hxx3)) ?_
   refine wr 2 rfl trivial ?_
   replace h := bnd h; obtain ⟨v3, hvv3, h⟩ := h
   refine WR.call0 fn122 rfl rfl rfl rfl (by exact trivial) rfl (refScore_con hw hvv3) ?_
   refine wr 1 rfl trivial ?_
   refine WR.nil (by kernel_rfl) (WQ.thenNormal ?_)
   refine WC.cond rfl (fun hc2 => ?_) (fun hc2 => ?_)
   ·replace h := ite_t hc2 h
    refine sr (lr1 rfl (nr (rb ?_)))
    cases h
    have he := he1 _ hf1
    subst he
    have h : some true = some _ := hk1
    refine WQ.thenRet (rb ?_)
    cases h
    exact rt tbOk hR
   ·replace h := ite_f hc2 h
    refine WC.skip (bn (WC.region (lr3 rfl (WL.nil ?_))))
    cases h
    exact WQ.next [] (IntKind.i64.wrap (i + (1 : Int))) sub (hn1 _ hf1)
  ·replace h := ite_f hc1 h
   refine WC.exit (WQ.thenExit ?_)
   cases h
   have he := he1 _ hf1
   subst he
   replace h := hk1
   try dsimp only at h
   refine eb ?_
   exact WQ.cut [] () sub h
 ·intro _ h
  replace h : rByCharacter_j1 = some _ := h
  unfold rByCharacter_j1 at h
  try dsimp only [slotsOf]
  refine sr (lr1 rfl (nr ?_))
  cases h
  exact rt tbOk hR
theorem rFits_con {wg : World} (hw : WG wg) {b : ApiNomenclature} {x : ApiCodeEntry} {g : ApiGood} {way : Int} {top : Bool} {best : Int} {r : Bool} (h : rFits b x g way top best = some r) : Con Tryz.prog wg gl 69 [.v (.agg [.sl 5 (b.Entries.map eApiCodeEntry), .sl 3 (b.Notes.map eApiCodeNote)]), .v (.agg [.str x.Code, .int .i64 x.From, .int .i64 x.To, .sl 1 (x.Terms.map eLStr), .bool x.Other]), .v (.agg [.sl 1 (g.Words.map eStr), .sl 2 (g.Materials.map eApiMaterial), .sl 2 (g.Parts.map eApiComponent), .bool g.Incomplete]), .v (.int .i64 way), .v (.bool top), .v (.int .i64 best)] [] (.v (.bool r)) [] := by
 unfold rFits at h
 refine con_of_WC (S := slotsOf 0 _) Tryz.func69 rfl Tryz.ntmps69 rfl (fun t x hx => (slotsOf_get hx).2) ?_
 intro F L w ρ0 R hR
 try dsimp only [slotsOf]
 refine sr (lr4 rfl (nn (WC.seq (sr (lr1 rfl (nn (WC.block (sr (lr2 rfl (nn ?_))))))))))
 refine WC.cond rfl (fun hc1 => ?_) (fun hc1 => ?_)
 ·replace h := ite_t hc1 h
  refine WC.seq (sr (lr2 rfl (nn ?_)))
  refine WC.cond rfl (fun hc2 => ?_) (fun hc2 => ?_)
  ·replace h := ite_t hc2 h
   refine sr (lr3 rfl ?_)
   replace h := bnd h; obtain ⟨v, hvv, h⟩ := h
   refine WL.call0 fn121 rfl rfl rfl rfl (by exact trivial) rfl (rAsParts_con hw hvv) ?_
   refine lr1 rfl (nr (WQ.thenRet (rb ?_)))
   cases h
   exact rt tbOk hR
  ·replace h := ite_f hc2 h
   refine kn (sr (lr4 rfl ?_))
   replace h := bnd h; obtain ⟨v2, hvv2, h⟩ := h
   refine WL.call0 fn122 rfl rfl rfl rfl (by exact trivial) rfl (refScore_con hw hvv2) ?_
   refine lr2 rfl (nr (rb ?_))
   cases h
   exact rt tbOk hR
 ·replace h := ite_f hc1 h
  refine sr (lr2 rfl (nn ?_))
  refine WC.cond rfl (fun hc3 => ?_) (fun hc3 => ?_)
  ·replace h := ite_t hc3 h
   refine sr ?_
   refine lr 7 rfl (by exact sideR) ?_
   replace h := bnd h; obtain ⟨v3, hvv3, h⟩ := h
   refine WL.gcall0 fn122 rfl rfl rfl rfl rfl (fun _ => (by exact sideR)) rfl (fun hg => (refScore_con hw (ite_t hg hvv3))) ?_
   refine lr 3 rfl (by exact sideR) ?_
   refine nr (rb ?_)
   cases h
   exact rt tbOk hR
  ·replace h := ite_f hc3 h
   refine sr (lr2 rfl (nn ?_))
   refine WC.cond rfl (fun hc4 => ?_) (fun hc4 => ?_)
   ·replace h := ite_t hc4 h
    refine sr (lr3 rfl ?_)
    replace h := bnd h; obtain ⟨v4, hvv4, h⟩ := h
    refine WL.call0 fn123 rfl rfl rfl rfl (by exact trivial) rfl (rByCharacter_con hw hvv4) ?_
    refine lr1 rfl (nr (rb ?_))
    cases h
    exact rt tbOk hR
   ·replace h := ite_f hc4 h
    refine sr (lr2 rfl (nn ?_))
    refine WC.cond rfl (fun hc5 => ?_) (fun hc5 => ?_)
    ·replace h := ite_t hc5 h
     refine sr ?_
     refine lr 7 rfl (by exact sideR) ?_
     refine nr (rb ?_)
     cases h
     exact rt tbOk hR
    ·replace h := ite_f hc5 h
     refine sr (lr2 rfl (nn ?_))
     refine WC.cond rfl (fun hc6 => ?_) (fun hc6 => ?_)
     ·replace h := ite_t hc6 h
      refine sr ?_
      refine lr 6 rfl (by exact sideR) ?_
      replace h := bnd h; obtain ⟨v5, hvv5, h⟩ := h
      refine WL.gcall0 fn33 rfl rfl rfl rfl rfl (fun _ => (by exact sideR)) rfl (fun hg => (rLikeness_con hw (ite_t hg hvv5))) ?_
      refine lr 4 rfl (by exact sideR) ?_
      refine nr (rb ?_)
      cases h
      exact rt tbOk hR
     ·replace h := ite_f hc6 h
      refine WC.skip (bn (sr (lr3 rfl (nr ?_))))
      cases h
      exact rt tbOk hR
theorem rBasis_con {wg : World} (hw : WG wg) {b : ApiNomenclature} {day : Int} {g : ApiGood} {parent : Str} {r : Int × (List ApiCodeEntry)} (h : rBasis b day g parent = some r) : Con Tryz.prog wg gl 28 [.v (.agg [.sl 5 (b.Entries.map eApiCodeEntry), .sl 3 (b.Notes.map eApiCodeNote)]), .v (.int .i64 day), .v (.agg [.sl 1 (g.Words.map eStr), .sl 2 (g.Materials.map eApiMaterial), .sl 2 (g.Parts.map eApiComponent), .bool g.Incomplete]), .v (.str parent)] [] (.tup [.v (.int .i64 r.1), .v (.sl 5 (r.2.map eApiCodeEntry))]) [] := by
 unfold rBasis at h
 refine con_of_WC (S := slotsOf 0 _) Tryz.func28 rfl Tryz.ntmps28 rfl (fun t x hx => (slotsOf_get hx).2) ?_
 intro F L w ρ0 R hR
 try dsimp only [slotsOf]
 refine sr (lr4 rfl (ns (lr3 rfl ?_)))
 replace h := bnd h; obtain ⟨v, hvv, h⟩ := h
 refine WL.call0 fn68 rfl rfl rfl rfl (by exact trivial) rfl (refBelow_con hw hvv) ?_
 refine lr1 rfl (ns (lr1 rfl (nn (WC.seq (sr (lr1 rfl (nn ?_)))))))
 refine WC.thenCut (X := Int) (fun gG => ⟨[(11, .v (.int .i64 gG)), (10, .v (.sl 5 (v.map eApiCodeEntry))), (6, .p 6 0), (4, .p 4 0), (3, .v (.str parent))], [(4, .blk 28 [.v (.sl 5 (b.Entries.map eApiCodeEntry)), .v (.sl 3 (b.Notes.map eApiCodeNote))]), (6, .blk 43 [.v (.sl 1 (g.Words.map eStr)), .v (.sl 2 (g.Materials.map eApiMaterial)), .v (.sl 2 (g.Parts.map eApiComponent)), .v (.bool g.Incomplete)])]⟩) (fun gG => rBasis_j1 b g parent v gG = some r) ?_ ?_
 ·refine WC.block ?_
  obtain ⟨eQ3, hl3, hk3⟩ := bnd h
  clear h
  refine WC.loop (σ := Int × Int) (τ := (Int)) (fun sS => ⟨[(12, .v (.int .i64 sS.1)), (11, .v (.int .i64 sS.2)), (10, .v (.sl 5 (v.map eApiCodeEntry))), (6, .p 6 0), (4, .p 4 0), (3, .v (.str parent))], [(4, .blk 28 [.v (.sl 5 (b.Entries.map eApiCodeEntry)), .v (.sl 3 (b.Notes.map eApiCodeNote))]), (6, .blk 43 [.v (.sl 1 (g.Words.map eStr)), .v (.sl 2 (g.Materials.map eApiMaterial)), .v (.sl 2 (g.Parts.map eApiComponent)), .v (.bool g.Incomplete)])]⟩) (rBasis_b3 b g parent v) [] ((0 : Int), (0 : Int)) hl3 sub ?_
  rintro ⟨i5, best2⟩ m hn3 he3 hx3
  obtain ⟨o3, hf3⟩ := some_of hx3
  have h := hf3
  unfold rBasis_b3 at h
  try dsimp only [slotsOf]
  refine WC.seq (sr (lr2 rfl ?_))
  refine WL.q [] rfl rfl rfl (q_ev tbOk (.v (.int .i64 (v.length : Int))) rfl (by exact trivial) (by exact lenT)) ?_
  refine lr1 rfl (nn ?_)
  refine WC.cond rfl (fun hc5 => ?_) (fun hc5 => ?_)
  ·replace h := ite_t hc5 h
   refine kn (sb (WC.order mixed ?_))
   refine wr 4 rfl trivial ?_
   obtain ⟨g5, h⟩ := grd h
   replace h := bnd h; obtain ⟨x16, hxx16, h⟩ := h
   refine WR.q [] rfl rfl rfl (q_idx tbOk rfl (by exact trivial) g5 (map_get (f := eApiCodeEntry) hxx16)) ?_
   refine wr 2 rfl trivial ?_
   replace h := bnd h; obtain ⟨v9, hvv9, h⟩ := h
   refine WR.call0 fn33 rfl rfl rfl rfl (by exact trivial) rfl (rLikeness_con hw hvv9) ?_
   refine wr 2 rfl trivial ?_
   refine WR.nil (by kernel_rfl) (bn (WC.region (lr3 rfl (WL.nil ?_))))
   cases h
   exact WQ.next [] ((IntKind.i64.wrap (i5 + (1 : Int))), (if v9 > best2 then v9 else best2)) sub (hn3 _ hf3)
  ·replace h := ite_f hc5 h
   refine WC.exit (WQ.thenExit ?_)
   cases h
   have he := he3 _ hf3
   subst he
   replace h := hk3
   try dsimp only at h
   refine eb ?_
   exact WQ.cut [] best2 sub h
 ·intro best h
  replace h : rBasis_j1 b g parent v best = some _ := h
  unfold rBasis_j1 at h
  try dsimp only [slotsOf]
  refine WC.seq (sr (lr1 rfl (nn ?_)))
  refine WC.thenCut (X := Unit) (fun gG => ⟨[], []⟩) (fun gG => rBasis_j2  = some r) ?_ ?_
  ·refine WC.block ?_
   obtain ⟨eQ1, hl1, hk1⟩ := bnd h
   clear h
   refine WC.loop (σ := Int) (τ := ((Int × (List ApiCodeEntry)) ⊕ (Unit))) (fun sS => ⟨[(13, .v (.int .i64 sS)), (11, .v (.int .i64 best)), (10, .v (.sl 5 (v.map eApiCodeEntry))), (6, .p 6 0), (4, .p 4 0), (3, .v (.str parent))], [(4, .blk 28 [.v (.sl 5 (b.Entries.map eApiCodeEntry)), .v (.sl 3 (b.Notes.map eApiCodeNote))]), (6, .blk 43 [.v (.sl 1 (g.Words.map eStr)), .v (.sl 2 (g.Materials.map eApiMaterial)), .v (.sl 2 (g.Parts.map eApiComponent)), .v (.bool g.Incomplete)])]⟩) (rBasis_b1 b g parent v best) [] (1 : Int) hl1 sub ?_
   intro way m hn1 he1 hx1
   obtain ⟨o1, hf1⟩ := some_of hx1
   have h := hf1
   unfold rBasis_b1 at h
   try dsimp only [slotsOf]
   refine WC.seq (sr (lr2 rfl (nn ?_)))
   refine WC.cond rfl (fun hc1 => ?_) (fun hc1 => ?_)
   ·replace h := ite_t hc1 h
    refine kn (WC.seq ?_)
    refine WC.thenCut (X := Unit) (fun gG => ⟨[(13, .v (.int .i64 way)), (11, .v (.int .i64 best)), (10, .v (.sl 5 (v.map eApiCodeEntry))), (6, .p 6 0), (4, .p 4 0), (3, .v (.str parent))], [(4, .blk 28 [.v (.sl 5 (b.Entries.map eApiCodeEntry)), .v (.sl 3 (b.Notes.map eApiCodeNote))]), (6, .blk 43 [.v (.sl 1 (g.Words.map eStr)), .v (.sl 2 (g.Materials.map eApiMaterial)), .v (.sl 2 (g.Parts.map eApiComponent)), .v (.bool g.Incomplete)])]⟩) (fun gG => rBasis_j3 b g parent v best way = some o1) ?_ ?_
    ·refine WC.block (sr (lr1 rfl (nn (WC.seq (sr (lr1 rfl (nn ?_)))))))
     refine WC.thenCut (X := (List ApiCodeEntry)) (fun gG => ⟨[(14, .r 1014), (13, .v (.int .i64 way)), (11, .v (.int .i64 best)), (10, .v (.sl 5 (v.map eApiCodeEntry))), (6, .p 6 0), (4, .p 4 0), (3, .v (.str parent))], [(1014, .row 54 5 (gG.map eApiCodeEntry)), (4, .blk 28 [.v (.sl 5 (b.Entries.map eApiCodeEntry)), .v (.sl 3 (b.Notes.map eApiCodeNote))]), (6, .blk 43 [.v (.sl 1 (g.Words.map eStr)), .v (.sl 2 (g.Materials.map eApiMaterial)), .v (.sl 2 (g.Parts.map eApiComponent)), .v (.bool g.Incomplete)])]⟩) (fun gG => rBasis_j4 b g parent v best way gG = some o1) ?_ ?_
     ·refine WC.block ?_
      obtain ⟨eQ2, hl2, hk2⟩ := bnd h
      clear h
      refine WC.rowNil 14 1014 54 5 rfl rfl ?_
      refine WC.loop (σ := Int × (List ApiCodeEntry)) (τ := ((List ApiCodeEntry))) (fun sS => ⟨[(15, .v (.int .i64 sS.1)), (14, .r 1014), (13, .v (.int .i64 way)), (11, .v (.int .i64 best)), (10, .v (.sl 5 (v.map eApiCodeEntry))), (6, .p 6 0), (4, .p 4 0), (3, .v (.str parent))], [(1014, .row 54 5 (sS.2.map eApiCodeEntry)), (4, .blk 28 [.v (.sl 5 (b.Entries.map eApiCodeEntry)), .v (.sl 3 (b.Notes.map eApiCodeNote))]), (6, .blk 43 [.v (.sl 1 (g.Words.map eStr)), .v (.sl 2 (g.Materials.map eApiMaterial)), .v (.sl 2 (g.Parts.map eApiComponent)), .v (.bool g.Incomplete)])]⟩) (rBasis_b2 b g parent v best way) [] ((0 : Int), []) hl2 sub ?_
      rintro ⟨i4, c9⟩ m hn2 he2 hx2
      obtain ⟨o2, hf2⟩ := some_of hx2
      have h := hf2
      unfold rBasis_b2 at h
      try dsimp only [slotsOf]
      refine WC.seq (sr (lr2 rfl ?_))
      refine WL.q [] rfl rfl rfl (q_ev tbOk (.v (.int .i64 (v.length : Int))) rfl (by exact trivial) (by exact lenT)) ?_
      refine lr1 rfl (nn ?_)
      refine WC.cond rfl (fun hc3 => ?_) (fun hc3 => ?_)
      ·replace h := ite_t hc3 h
       refine kn (WC.seq ?_)
       refine WC.thenCut (X := (List ApiCodeEntry)) (fun gG => ⟨[(14, .r 1014), (15, .v (.int .i64 i4)), (13, .v (.int .i64 way)), (11, .v (.int .i64 best)), (10, .v (.sl 5 (v.map eApiCodeEntry))), (6, .p 6 0), (4, .p 4 0), (3, .v (.str parent))], [(1014, .row 54 5 (gG.map eApiCodeEntry)), (4, .blk 28 [.v (.sl 5 (b.Entries.map eApiCodeEntry)), .v (.sl 3 (b.Notes.map eApiCodeNote))]), (6, .blk 43 [.v (.sl 1 (g.Words.map eStr)), .v (.sl 2 (g.Materials.map eApiMaterial)), .v (.sl 2 (g.Parts.map eApiComponent)), .v (.bool g.Incomplete)])]⟩) (fun gG => rBasis_j5 b g parent v best way i4 gG = some o2) ?_ ?_
       ·refine WC.block (WC.seq (WC.order mixed ?_))
        refine wr 3 rfl trivial ?_
        obtain ⟨g2, h⟩ := grd h
        replace h := bnd h; obtain ⟨x13, hxx13, h⟩ := h
        refine WR.q [] rfl rfl rfl (q_idx tbOk rfl (by exact trivial) g2 (map_get (f := eApiCodeEntry) hxx13)) ?_
        refine wr 6 rfl trivial ?_
        replace h := bnd h; obtain ⟨v7, hvv7, h⟩ := h
        refine WR.call0 fn69 rfl rfl rfl rfl (by exact trivial) rfl (rFits_con hw hvv7) ?_
        refine WR.nil (by kernel_rfl) (WQ.thenNormal ?_)
        refine WC.cond rfl (fun hc4 => ?_) (fun hc4 => ?_)
        ·replace h := ite_t hc4 h
         refine WC.region (lr3 rfl ?_)
         obtain ⟨g3, h⟩ := grd h
         replace h := bnd h; obtain ⟨x14, hxx14, h⟩ := h
         refine WL.q [] rfl rfl rfl (q_idx tbOk rfl (by exact trivial) g3 (map_get (f := eApiCodeEntry) hxx14)) ?_
         refine lr2 rfl ?_
         obtain ⟨g4, h⟩ := grd h
         refine WL.append tbOk ((c9 ++ [x14]).map eApiCodeEntry) [62, 1014] ap25 rfl rfl rfl rfl (fun _ e => by cases e; rfl) (by exact trivial) (map_cells (f := eApiCodeEntry) (xs := [x14]) fun _ => rfl) (by have := g4; simp only [List.length_map, List.length_nil, List.length_cons] at this ⊢; omega) rfl rfl (by simp only [List.map_append]; try rfl) rfl ?_
         refine lr1 rfl (WL.nil (WQ.blockNormal ?_))
         exact WQ.cut [(1014, 62)] (c9 ++ [x14]) sub h
        ·replace h := ite_f hc4 h
         refine WC.skip (WQ.blockNormal ?_)
         exact WQ.cut [] c9 sub h
       ·intro c12 h
        replace h : rBasis_j5 b g parent v best way i4 c12 = some _ := h
        unfold rBasis_j5 at h
        try dsimp only [slotsOf]
        refine WC.region (lr3 rfl (WL.nil ?_))
        cases h
        exact WQ.next [] ((IntKind.i64.wrap (i4 + (1 : Int))), c12) sub (hn2 _ hf2)
      ·replace h := ite_f hc3 h
       refine WC.exit (WQ.thenExit ?_)
       cases h
       have he := he2 _ hf2
       subst he
       replace h := hk2
       try dsimp only at h
       refine eb ?_
       exact WQ.cut [] c9 sub h
     ·intro c7 h
      replace h : rBasis_j4 b g parent v best way c7 = some _ := h
      unfold rBasis_j4 at h
      try dsimp only [slotsOf]
      refine sr (lr1 rfl ?_)
      refine WL.q [1014] rfl rfl rfl (q_ev tbOk (.v (.int .i64 (c7.length : Int))) rfl (by exact trivial) (by exact lenT)) ?_
      refine lr1 rfl (nn ?_)
      refine WC.cond rfl (fun hc2 => ?_) (fun hc2 => ?_)
      ·replace h := ite_t hc2 h
       refine sr (lr2 rfl ?_)
       obtain ⟨g1, h⟩ := grd h
       replace h := bnd h; obtain ⟨x8, hxx8, h⟩ := h
       refine WL.q [] rfl rfl rfl (q_idx tbOk rfl (by exact trivial) g1 (map_get (f := eInt_i64) hxx8)) ?_
       refine lr4 rfl (nr (rb ?_))
       cases h
       have he := he1 _ hf1
       subst he
       have h : some (x8, c7) = some _ := hk1
       refine WQ.thenRet (rb ?_)
       refine WQ.publish 1014 rfl rfl ?_
       cases h
       exact WQ.rets tbOk (r := .tup [.v (.int .i64 x8), .v (.sl 5 (c7.map eApiCodeEntry))]) hR [] (.inl rfl) rfl rfl (Le.tup (.cons (Le.refl _) (.cons (Le.refl _) .nil))) (by exact trivial) rfl rfl rfl rfl
      ·replace h := ite_f hc2 h
       refine WC.skip (WQ.blockNormal ?_)
       exact WQ.cut [] () sub h
    ·intro _ h
     replace h : rBasis_j3 b g parent v best way = some _ := h
     unfold rBasis_j3 at h
     try dsimp only [slotsOf]
     refine WC.region (lr3 rfl (WL.nil ?_))
     cases h
     exact WQ.next [] (IntKind.i64.wrap (way + (1 : Int))) sub (hn1 _ hf1)
   ·replace h := ite_f hc1 h
    refine WC.exit (WQ.thenExit ?_)
    cases h
    have he := he1 _ hf1
    subst he
    replace h := hk1
    try dsimp only at h
    refine eb ?_
    exact WQ.cut [] () sub h
  ·intro _ h
   replace h : rBasis_j2 = some _ := h
   unfold rBasis_j2 at h
   try dsimp only [slotsOf]
   refine sr (lr2 rfl (nr ?_))
   cases h
   exact WQ.rets tbOk (r := .tup [.v (.int .i64 (0 : Int)), .v (.sl 5 ([].map eApiCodeEntry))]) hR [] (.inl rfl) rfl rfl (Le.tup (.cons (Le.refl _) (.cons (Le.nil 5) .nil))) (by exact trivial) rfl rfl rfl rfl
theorem rSpecific_con {wg : World} (hw : WG wg) {b : ApiNomenclature} {g : ApiGood} {basis : Int} {c : (List ApiCodeEntry)} {r : (List ApiCodeEntry)} (h : rSpecific b g basis c = some r) : Con Tryz.prog wg gl 75 [.v (.agg [.sl 5 (b.Entries.map eApiCodeEntry), .sl 3 (b.Notes.map eApiCodeNote)]), .v (.agg [.sl 1 (g.Words.map eStr), .sl 2 (g.Materials.map eApiMaterial), .sl 2 (g.Parts.map eApiComponent), .bool g.Incomplete]), .v (.int .i64 basis), .v (.sl 5 (c.map eApiCodeEntry))] [] (.v (.sl 5 (r.map eApiCodeEntry))) [] := by
 unfold rSpecific at h
 refine con_of_WC (S := slotsOf 0 _) Tryz.func75 rfl Tryz.ntmps75 rfl (fun t x hx => (slotsOf_get hx).2) ?_
 intro F L w ρ0 R hR
 try dsimp only [slotsOf]
 refine sr (lr3 rfl (nn (WC.seq (sr ?_))))
 refine lr 6 rfl (by exact sideR) ?_
 refine nn ?_
 refine WC.cond rfl (fun hc1 => ?_) (fun hc1 => ?_)
 ·replace h := ite_t hc1 h
  refine sr (lr2 rfl (nr (WQ.thenRet ?_)))
  cases h
  exact rt tbOk hR
 ·replace h := ite_f hc1 h
  refine kn (sr (lr3 rfl (nn (WC.seq (sr ?_)))))
  refine lr 6 rfl (by exact sideR) ?_
  refine nn ?_
  refine WC.thenCut (X := (List Str)) (fun gG => ⟨[(9, .v (.sl 1 (gG.map eStr))), (4, .p 4 0), (3, .v (.sl 5 (c.map eApiCodeEntry)))], [(4, .blk 28 [.v (.sl 5 (b.Entries.map eApiCodeEntry)), .v (.sl 3 (b.Notes.map eApiCodeNote))])]⟩) (fun gG => rSpecific_j1 b c gG = some r) ?_ ?_
  ·refine WC.cond rfl (fun hc5 => ?_) (fun hc5 => ?_)
   ·replace h := ite_t hc5 h
    refine WC.region (lr1 rfl ?_)
    replace h := bnd h; obtain ⟨v6, hvv6, h⟩ := h
    refine WL.call0 fn130 rfl rfl rfl rfl (by exact trivial) rfl (rIncomplete_con hw hvv6) ?_
    refine lr1 rfl (WL.nil ?_)
    exact WQ.cut [] v6 sub h
   ·replace h := ite_f hc5 h
    refine WC.skip ?_
    exact WQ.cut [] g.Words sub h
  ·intro w1 h
   replace h : rSpecific_j1 b c w1 = some _ := h
   unfold rSpecific_j1 at h
   try dsimp only [slotsOf]
   refine sr (lr1 rfl (nn (WC.seq (sr (lr1 rfl (nn ?_))))))
   refine WC.thenCut (X := Int) (fun gG => ⟨[(10, .v (.int .i64 gG)), (9, .v (.sl 1 (w1.map eStr))), (4, .p 4 0), (3, .v (.sl 5 (c.map eApiCodeEntry)))], [(4, .blk 28 [.v (.sl 5 (b.Entries.map eApiCodeEntry)), .v (.sl 3 (b.Notes.map eApiCodeNote))])]⟩) (fun gG => rSpecific_j2 b c w1 gG = some r) ?_ ?_
   ·refine WC.block ?_
    obtain ⟨eQ2, hl2, hk2⟩ := bnd h
    clear h
    refine WC.loop (σ := Int × Int) (τ := (Int)) (fun sS => ⟨[(11, .v (.int .i64 sS.1)), (10, .v (.int .i64 sS.2)), (9, .v (.sl 1 (w1.map eStr))), (4, .p 4 0), (3, .v (.sl 5 (c.map eApiCodeEntry)))], [(4, .blk 28 [.v (.sl 5 (b.Entries.map eApiCodeEntry)), .v (.sl 3 (b.Notes.map eApiCodeNote))])]⟩) (rSpecific_b2 b c w1) [] ((0 : Int), (0 : Int)) hl2 sub ?_
    rintro ⟨i3, best2⟩ m hn2 he2 hx2
    obtain ⟨o2, hf2⟩ := some_of hx2
    have h := hf2
    unfold rSpecific_b2 at h
    try dsimp only [slotsOf]
    refine WC.seq (sr (lr2 rfl ?_))
    refine WL.q [] rfl rfl rfl (q_ev tbOk (.v (.int .i64 (c.length : Int))) rfl (by exact trivial) (by exact lenT)) ?_
    refine lr1 rfl (nn ?_)
    refine WC.cond rfl (fun hc4 => ?_) (fun hc4 => ?_)
    ·replace h := ite_t hc4 h
     refine kn (sb (WC.order mixed ?_))
     refine wr 4 rfl trivial ?_
     obtain ⟨g4, h⟩ := grd h
     replace h := bnd h; obtain ⟨x8, hxx8, h⟩ := h
     refine WR.q [] rfl rfl rfl (q_idx tbOk rfl (by exact trivial) g4 (map_get (f := eApiCodeEntry) hxx8)) ?_
     refine wr 2 rfl trivial ?_
     replace h := bnd h; obtain ⟨v5, hvv5, h⟩ := h
     refine WR.call0 fn122 rfl rfl rfl rfl (by exact trivial) rfl (refScore_con hw hvv5) ?_
     refine wr 2 rfl trivial ?_
     refine WR.nil (by kernel_rfl) (bn (WC.region (lr3 rfl (WL.nil ?_))))
     cases h
     exact WQ.next [] ((IntKind.i64.wrap (i3 + (1 : Int))), (if v5 > best2 then v5 else best2)) sub (hn2 _ hf2)
    ·replace h := ite_f hc4 h
     refine WC.exit (WQ.thenExit ?_)
     cases h
     have he := he2 _ hf2
     subst he
     replace h := hk2
     try dsimp only at h
     refine eb ?_
     exact WQ.cut [] best2 sub h
   ·intro best h
    replace h : rSpecific_j2 b c w1 best = some _ := h
    unfold rSpecific_j2 at h
    try dsimp only [slotsOf]
    refine sr (lr1 rfl (nn (WC.seq (sr (lr1 rfl (nn ?_))))))
    refine WC.thenCut (X := (List ApiCodeEntry)) (fun gG => ⟨[(12, .r 1012)], [(1012, .row 54 5 (gG.map eApiCodeEntry))]⟩) (fun gG => rSpecific_j3 gG = some r) ?_ ?_
    ·refine WC.block ?_
     obtain ⟨eQ1, hl1, hk1⟩ := bnd h
     clear h
     refine WC.rowNil 12 1012 54 5 rfl rfl ?_
     refine WC.loop (σ := Int × (List ApiCodeEntry)) (τ := ((List ApiCodeEntry))) (fun sS => ⟨[(13, .v (.int .i64 sS.1)), (12, .r 1012), (10, .v (.int .i64 best)), (9, .v (.sl 1 (w1.map eStr))), (4, .p 4 0), (3, .v (.sl 5 (c.map eApiCodeEntry)))], [(1012, .row 54 5 (sS.2.map eApiCodeEntry)), (4, .blk 28 [.v (.sl 5 (b.Entries.map eApiCodeEntry)), .v (.sl 3 (b.Notes.map eApiCodeNote))])]⟩) (rSpecific_b1 b c w1 best) [] ((0 : Int), []) hl1 sub ?_
     rintro ⟨i2, out3⟩ m hn1 he1 hx1
     obtain ⟨o1, hf1⟩ := some_of hx1
     have h := hf1
     unfold rSpecific_b1 at h
     try dsimp only [slotsOf]
     refine WC.seq (sr (lr2 rfl ?_))
     refine WL.q [] rfl rfl rfl (q_ev tbOk (.v (.int .i64 (c.length : Int))) rfl (by exact trivial) (by exact lenT)) ?_
     refine lr1 rfl (nn ?_)
     refine WC.cond rfl (fun hc2 => ?_) (fun hc2 => ?_)
     ·replace h := ite_t hc2 h
      refine kn (WC.seq ?_)
      refine WC.thenCut (X := (List ApiCodeEntry)) (fun gG => ⟨[(12, .r 1012), (13, .v (.int .i64 i2)), (10, .v (.int .i64 best)), (9, .v (.sl 1 (w1.map eStr))), (4, .p 4 0), (3, .v (.sl 5 (c.map eApiCodeEntry)))], [(1012, .row 54 5 (gG.map eApiCodeEntry)), (4, .blk 28 [.v (.sl 5 (b.Entries.map eApiCodeEntry)), .v (.sl 3 (b.Notes.map eApiCodeNote))])]⟩) (fun gG => rSpecific_j4 b c w1 best i2 gG = some o1) ?_ ?_
      ·refine WC.block (WC.seq (WC.order mixed ?_))
       refine wr 3 rfl trivial ?_
       obtain ⟨g1, h⟩ := grd h
       replace h := bnd h; obtain ⟨x5, hxx5, h⟩ := h
       refine WR.q [] rfl rfl rfl (q_idx tbOk rfl (by exact trivial) g1 (map_get (f := eApiCodeEntry) hxx5)) ?_
       refine wr 2 rfl trivial ?_
       replace h := bnd h; obtain ⟨v3, hvv3, h⟩ := h
       refine WR.call0 fn122 rfl rfl rfl rfl (by exact trivial) rfl (refScore_con hw hvv3) ?_
       refine wr 2 rfl trivial ?_
       refine WR.nil (by kernel_rfl) (WQ.thenNormal ?_)
       refine WC.cond rfl (fun hc3 => ?_) (fun hc3 => ?_)
       ·replace h := ite_t hc3 h
        refine WC.region (lr3 rfl ?_)
        obtain ⟨g2, h⟩ := grd h
        replace h := bnd h; obtain ⟨x6, hxx6, h⟩ := h
        refine WL.q [] rfl rfl rfl (q_idx tbOk rfl (by exact trivial) g2 (map_get (f := eApiCodeEntry) hxx6)) ?_
        refine lr2 rfl ?_
        obtain ⟨g3, h⟩ := grd h
        refine WL.append tbOk ((out3 ++ [x6]).map eApiCodeEntry) [67, 1012] ap25 rfl rfl rfl rfl (fun _ e => by cases e; rfl) (by exact trivial) (map_cells (f := eApiCodeEntry) (xs := [x6]) fun _ => rfl) (by have := g3; simp only [List.length_map, List.length_nil, List.length_cons] at this ⊢; omega) rfl rfl (by simp only [List.map_append]; try rfl) rfl ?_
        refine lr1 rfl (WL.nil (WQ.blockNormal ?_))
        exact WQ.cut [(1012, 67)] (out3 ++ [x6]) sub h
       ·replace h := ite_f hc3 h
        refine WC.skip (WQ.blockNormal ?_)
        exact WQ.cut [] out3 sub h
      ·intro out6 h
       replace h : rSpecific_j4 b c w1 best i2 out6 = some _ := h
       unfold rSpecific_j4 at h
       try dsimp only [slotsOf]
       refine WC.region (lr3 rfl (WL.nil ?_))
       cases h
       exact WQ.next [] ((IntKind.i64.wrap (i2 + (1 : Int))), out6) sub (hn1 _ hf1)
     ·replace h := ite_f hc2 h
      refine WC.exit (WQ.thenExit ?_)
      cases h
      have he := he1 _ hf1
      subst he
      replace h := hk1
      try dsimp only at h
      refine eb ?_
      exact WQ.cut [] out3 sub h
    ·intro out h
     replace h : rSpecific_j3 out = some _ := h
     unfold rSpecific_j3 at h
     try dsimp only [slotsOf]
     refine sr (lr2 rfl (nr ?_))
     refine WQ.publish 1012 rfl rfl ?_
     cases h
     exact rt tbOk hR
theorem rEssential_con {wg : World} (hw : WG wg) {b : ApiNomenclature} {g : ApiGood} {c : (List ApiCodeEntry)} {r : (List ApiCodeEntry) × Bool} (h : rEssential b g c = some r) : Con Tryz.prog wg gl 76 [.v (.agg [.sl 5 (b.Entries.map eApiCodeEntry), .sl 3 (b.Notes.map eApiCodeNote)]), .v (.agg [.sl 1 (g.Words.map eStr), .sl 2 (g.Materials.map eApiMaterial), .sl 2 (g.Parts.map eApiComponent), .bool g.Incomplete]), .v (.sl 5 (c.map eApiCodeEntry))] [] (.tup [.v (.sl 5 (r.1.map eApiCodeEntry)), .v (.bool r.2)]) [] := by
 unfold rEssential at h
 refine con_of_WC (S := slotsOf 0 _) Tryz.func76 rfl Tryz.ntmps76 rfl (fun t x hx => (slotsOf_get hx).2) ?_
 intro F L w ρ0 R hR
 try dsimp only [slotsOf]
 refine sr (lr4 rfl (ns (lr1 rfl ?_)))
 replace h := bnd h; obtain ⟨v, hvv, h⟩ := h
 refine WL.call0 fn131 rfl rfl rfl rfl (by exact trivial) rfl (refCharacters_con hw hvv) ?_
 refine lr1 rfl (nn (WC.seq (sr (lr1 rfl (nn ?_)))))
 refine WC.thenCut (X := Unit) (fun gG => ⟨[(2, .v (.sl 5 (c.map eApiCodeEntry)))], []⟩) (fun gG => rEssential_j1 c = some r) ?_ ?_
 ·refine WC.block ?_
  obtain ⟨eQ1, hl1, hk1⟩ := bnd h
  clear h
  refine WC.loop (σ := Int) (τ := (((List ApiCodeEntry) × Bool) ⊕ (Unit))) (fun sS => ⟨[(9, .v (.int .i64 sS)), (8, .v (.sl 2 (v.map eApiComponent))), (3, .p 3 0), (2, .v (.sl 5 (c.map eApiCodeEntry)))], [(3, .blk 28 [.v (.sl 5 (b.Entries.map eApiCodeEntry)), .v (.sl 3 (b.Notes.map eApiCodeNote))])]⟩) (rEssential_b1 b c v) [] (0 : Int) hl1 sub ?_
  intro i m hn1 he1 hx1
  obtain ⟨o1, hf1⟩ := some_of hx1
  have h := hf1
  unfold rEssential_b1 at h
  try dsimp only [slotsOf]
  refine WC.seq (sr (lr2 rfl ?_))
  refine WL.q [] rfl rfl rfl (q_ev tbOk (.v (.int .i64 (v.length : Int))) rfl (by exact trivial) (by exact lenT)) ?_
  refine lr1 rfl (nn ?_)
  refine WC.cond rfl (fun hc1 => ?_) (fun hc1 => ?_)
  ·replace h := ite_t hc1 h
   refine kn (WC.seq ?_)
   refine WC.thenCut (X := Unit) (fun gG => ⟨[(9, .v (.int .i64 i)), (8, .v (.sl 2 (v.map eApiComponent))), (3, .p 3 0), (2, .v (.sl 5 (c.map eApiCodeEntry)))], [(3, .blk 28 [.v (.sl 5 (b.Entries.map eApiCodeEntry)), .v (.sl 3 (b.Notes.map eApiCodeNote))])]⟩) (fun gG => rEssential_j2 b c v i = some o1) ?_ ?_
   ·refine WC.block (sr (lr1 rfl (nn (WC.seq (sr (lr1 rfl (nn ?_)))))))
    refine WC.thenCut (X := (List ApiCodeEntry)) (fun gG => ⟨[(10, .r 1010), (9, .v (.int .i64 i)), (8, .v (.sl 2 (v.map eApiComponent))), (3, .p 3 0), (2, .v (.sl 5 (c.map eApiCodeEntry)))], [(1010, .row 54 5 (gG.map eApiCodeEntry)), (3, .blk 28 [.v (.sl 5 (b.Entries.map eApiCodeEntry)), .v (.sl 3 (b.Notes.map eApiCodeNote))])]⟩) (fun gG => rEssential_j3 b c v i gG = some o1) ?_ ?_
    ·refine WC.block ?_
     obtain ⟨eQ2, hl2, hk2⟩ := bnd h
     clear h
     refine WC.rowNil 10 1010 54 5 rfl rfl ?_
     refine WC.loop (σ := Int × (List ApiCodeEntry)) (τ := ((List ApiCodeEntry))) (fun sS => ⟨[(11, .v (.int .i64 sS.1)), (10, .r 1010), (9, .v (.int .i64 i)), (8, .v (.sl 2 (v.map eApiComponent))), (3, .p 3 0), (2, .v (.sl 5 (c.map eApiCodeEntry)))], [(1010, .row 54 5 (sS.2.map eApiCodeEntry)), (3, .blk 28 [.v (.sl 5 (b.Entries.map eApiCodeEntry)), .v (.sl 3 (b.Notes.map eApiCodeNote))])]⟩) (rEssential_b2 b c v i) [] ((0 : Int), []) hl2 sub ?_
     rintro ⟨k4, out9⟩ m hn2 he2 hx2
     obtain ⟨o2, hf2⟩ := some_of hx2
     have h := hf2
     unfold rEssential_b2 at h
     try dsimp only [slotsOf]
     refine WC.seq (sr (lr2 rfl ?_))
     refine WL.q [] rfl rfl rfl (q_ev tbOk (.v (.int .i64 (c.length : Int))) rfl (by exact trivial) (by exact lenT)) ?_
     refine lr1 rfl (nn ?_)
     refine WC.cond rfl (fun hc3 => ?_) (fun hc3 => ?_)
     ·replace h := ite_t hc3 h
      refine kn (WC.seq ?_)
      refine WC.thenCut (X := (List ApiCodeEntry)) (fun gG => ⟨[(10, .r 1010), (11, .v (.int .i64 k4)), (9, .v (.int .i64 i)), (8, .v (.sl 2 (v.map eApiComponent))), (3, .p 3 0), (2, .v (.sl 5 (c.map eApiCodeEntry)))], [(1010, .row 54 5 (gG.map eApiCodeEntry)), (3, .blk 28 [.v (.sl 5 (b.Entries.map eApiCodeEntry)), .v (.sl 3 (b.Notes.map eApiCodeNote))])]⟩) (fun gG => rEssential_j4 b c v i k4 gG = some o2) ?_ ?_
      ·refine WC.block (WC.seq (WC.order mixed ?_))
       refine wr 3 rfl trivial ?_
       obtain ⟨g1, h⟩ := grd h
       replace h := bnd h; obtain ⟨x16, hxx16, h⟩ := h
       refine WR.q [] rfl rfl rfl (q_idx tbOk rfl (by exact trivial) g1 (map_get (f := eApiCodeEntry) hxx16)) ?_
       refine wr 3 rfl trivial ?_
       obtain ⟨g2, h⟩ := grd h
       replace h := bnd h; obtain ⟨x17, hxx17, h⟩ := h
       refine WR.q [] rfl rfl rfl (q_idx tbOk rfl (by exact trivial) g2 (map_get (f := eApiComponent) hxx17)) ?_
       refine wr 2 rfl trivial ?_
       replace h := bnd h; obtain ⟨v7, hvv7, h⟩ := h
       refine WR.call0 fn122 rfl rfl rfl rfl (by exact trivial) rfl (refScore_con hw hvv7) ?_
       refine wr 1 rfl trivial ?_
       refine WR.nil (by kernel_rfl) (WQ.thenNormal ?_)
       refine WC.cond rfl (fun hc4 => ?_) (fun hc4 => ?_)
       ·replace h := ite_t hc4 h
        refine WC.region (lr3 rfl ?_)
        obtain ⟨g3, h⟩ := grd h
        replace h := bnd h; obtain ⟨x18, hxx18, h⟩ := h
        refine WL.q [] rfl rfl rfl (q_idx tbOk rfl (by exact trivial) g3 (map_get (f := eApiCodeEntry) hxx18)) ?_
        refine lr2 rfl ?_
        obtain ⟨g4, h⟩ := grd h
        refine WL.append tbOk ((out9 ++ [x18]).map eApiCodeEntry) [44, 1010] ap25 rfl rfl rfl rfl (fun _ e => by cases e; rfl) (by exact trivial) (map_cells (f := eApiCodeEntry) (xs := [x18]) fun _ => rfl) (by have := g4; simp only [List.length_map, List.length_nil, List.length_cons] at this ⊢; omega) rfl rfl (by simp only [List.map_append]; try rfl) rfl ?_
        refine lr1 rfl (WL.nil (WQ.blockNormal ?_))
        exact WQ.cut [(1010, 44)] (out9 ++ [x18]) sub h
       ·replace h := ite_f hc4 h
        refine WC.skip (WQ.blockNormal ?_)
        exact WQ.cut [] out9 sub h
      ·intro out12 h
       replace h : rEssential_j4 b c v i k4 out12 = some _ := h
       unfold rEssential_j4 at h
       try dsimp only [slotsOf]
       refine WC.region (lr3 rfl (WL.nil ?_))
       cases h
       exact WQ.next [] ((IntKind.i64.wrap (k4 + (1 : Int))), out12) sub (hn2 _ hf2)
     ·replace h := ite_f hc3 h
      refine WC.exit (WQ.thenExit ?_)
      cases h
      have he := he2 _ hf2
      subst he
      replace h := hk2
      try dsimp only at h
      refine eb ?_
      exact WQ.cut [] out9 sub h
    ·intro out7 h
     replace h : rEssential_j3 b c v i out7 = some _ := h
     unfold rEssential_j3 at h
     try dsimp only [slotsOf]
     refine sr (lr1 rfl ?_)
     refine WL.q [1010] rfl rfl rfl (q_ev tbOk (.v (.int .i64 (out7.length : Int))) rfl (by exact trivial) (by exact lenT)) ?_
     refine lr1 rfl (nn ?_)
     refine WC.cond rfl (fun hc2 => ?_) (fun hc2 => ?_)
     ·replace h := ite_t hc2 h
      refine sr (lr3 rfl (nr (rb ?_)))
      cases h
      have he := he1 _ hf1
      subst he
      have h : some (out7, true) = some _ := hk1
      refine WQ.thenRet (rb ?_)
      refine WQ.publish 1010 rfl rfl ?_
      cases h
      exact WQ.rets tbOk (r := .tup [.v (.sl 5 (out7.map eApiCodeEntry)), .v (.bool true)]) hR [] (.inl rfl) rfl rfl (Le.tup (.cons (Le.refl _) (.cons (Le.refl _) .nil))) (by exact trivial) rfl rfl rfl rfl
     ·replace h := ite_f hc2 h
      refine WC.skip (WQ.blockNormal ?_)
      exact WQ.cut [] () sub h
   ·intro _ h
    replace h : rEssential_j2 b c v i = some _ := h
    unfold rEssential_j2 at h
    try dsimp only [slotsOf]
    refine WC.region (lr3 rfl (WL.nil ?_))
    cases h
    exact WQ.next [] (IntKind.i64.wrap (i + (1 : Int))) sub (hn1 _ hf1)
  ·replace h := ite_f hc1 h
   refine WC.exit (WQ.thenExit ?_)
   cases h
   have he := he1 _ hf1
   subst he
   replace h := hk1
   try dsimp only at h
   refine eb ?_
   exact WQ.cut [] () sub h
 ·intro _ h
  replace h : rEssential_j1 c = some _ := h
  unfold rEssential_j1 at h
  try dsimp only [slotsOf]
  refine sr (lr3 rfl (nr ?_))
  cases h
  exact WQ.rets tbOk (r := .tup [.v (.sl 5 (c.map eApiCodeEntry)), .v (.bool false)]) hR [] (.inl rfl) rfl rfl (Le.tup (.cons (Le.refl _) (.cons (Le.refl _) .nil))) (by exact trivial) rfl rfl rfl rfl
theorem rReduce_con {wg : World} (hw : WG wg) {b : ApiNomenclature} {g : ApiGood} {basis : Int} {c : (List ApiCodeEntry)} {r : Int × ApiCodeEntry} (h : rReduce b g basis c = some r) : Con Tryz.prog wg gl 31 [.v (.agg [.sl 5 (b.Entries.map eApiCodeEntry), .sl 3 (b.Notes.map eApiCodeNote)]), .v (.agg [.sl 1 (g.Words.map eStr), .sl 2 (g.Materials.map eApiMaterial), .sl 2 (g.Parts.map eApiComponent), .bool g.Incomplete]), .v (.int .i64 basis), .v (.sl 5 (c.map eApiCodeEntry))] [] (.tup [.v (.int .i64 r.1), .v (.agg [.str r.2.Code, .int .i64 r.2.From, .int .i64 r.2.To, .sl 1 (r.2.Terms.map eLStr), .bool r.2.Other])]) [] := by
 unfold rReduce at h
 refine con_of_WC (S := slotsOf 0 _) Tryz.func31 rfl Tryz.ntmps31 rfl (fun t x hx => (slotsOf_get hx).2) ?_
 intro F L w ρ0 R hR
 try dsimp only [slotsOf]
 refine sr (lr4 rfl (nn (WC.seq (sr (lr1 rfl ?_)))))
 refine WL.q [] rfl rfl rfl (q_ev tbOk (.v (.int .i64 (c.length : Int))) rfl (by exact trivial) (by exact lenT)) ?_
 refine lr 9 rfl (by exact sideR) ?_
 refine nn ?_
 refine WC.cond rfl (fun hc1 => ?_) (fun hc1 => ?_)
 ·replace h := ite_t hc1 h
  refine WC.seq (WC.order mixed ?_)
  refine wr 3 rfl trivial ?_
  refine WR.q [] rfl rfl rfl (q_ev tbOk (.v (.int .i64 (c.length : Int))) rfl (by exact trivial) (by exact lenT)) ?_
  refine wr 1 rfl trivial ?_
  obtain ⟨g1, h⟩ := grd h
  replace h := bnd h; obtain ⟨x, hxx, h⟩ := h
  refine WR.q [] rfl rfl rfl (q_idx tbOk rfl (by exact trivial) g1 (map_get (f := eApiCodeEntry) hxx)) ?_
  refine wr 3 rfl trivial ?_
  refine WR.nil (by kernel_rfl) (WQ.thenNormal (WC.ret (WQ.thenRet ?_)))
  cases h
  exact WQ.rets tbOk (r := .tup [.v (.int .i64 basis), .v (.agg [.str x.Code, .int .i64 x.From, .int .i64 x.To, .sl 1 (x.Terms.map eLStr), .bool x.Other])]) hR [] (.inl rfl) rfl rfl (Le.tup (.cons (Le.refl _) (.cons (Le.refl _) .nil))) (by exact trivial) rfl rfl rfl rfl
 ·replace h := ite_f hc1 h
  refine kn (sr (lr4 rfl ?_))
  replace h := bnd h; obtain ⟨v, hvv, h⟩ := h
  refine WL.call0 fn75 rfl rfl rfl rfl (by exact trivial) rfl (rSpecific_con hw hvv) ?_
  refine lr1 rfl (nn (WC.seq (sr (lr1 rfl ?_))))
  refine WL.q [] rfl rfl rfl (q_ev tbOk (.v (.int .i64 (v.length : Int))) rfl (by exact trivial) (by exact lenT)) ?_
  refine lr 9 rfl (by exact sideR) ?_
  refine nn ?_
  refine WC.cond rfl (fun hc2 => ?_) (fun hc2 => ?_)
  ·replace h := ite_t hc2 h
   refine WC.seq (WC.order mixed ?_)
   refine wr 1 rfl trivial ?_
   replace h := bnd h; obtain ⟨x2, hxx2, h⟩ := h
   refine WR.q [] rfl rfl rfl (q_idx tbOk rfl (by exact trivial) (by decide) (map_get (f := eApiCodeEntry) hxx2)) ?_
   refine wr 3 rfl trivial ?_
   refine WR.nil (by kernel_rfl) (WQ.thenNormal (WC.ret (WQ.thenRet ?_)))
   cases h
   exact WQ.rets tbOk (r := .tup [.v (.int .i64 (4 : Int)), .v (.agg [.str x2.Code, .int .i64 x2.From, .int .i64 x2.To, .sl 1 (x2.Terms.map eLStr), .bool x2.Other])]) hR [] (.inl rfl) rfl rfl (Le.tup (.cons (Le.refl _) (.cons (Le.refl _) .nil))) (by exact trivial) rfl rfl rfl rfl
  ·replace h := ite_f hc2 h
   refine kn (sr (lr3 rfl ?_))
   replace h := bnd h; obtain ⟨v2, hvv2, h⟩ := h
   refine WL.call0 fn76 rfl rfl rfl rfl (by exact trivial) rfl (rEssential_con hw hvv2) ?_
   refine lr5 rfl (nn (WC.seq (sr ?_)))
   refine lr 3 rfl (by exact sideR) ?_
   refine WL.gq [] rfl rfl rfl rfl (fun hg => q_ev tbOk (.v (.int .i64 (v2.1.length : Int))) rfl (by exact sideR) (by exact lenT)) ?_
   refine lr 2 rfl (by exact sideR) ?_
   refine nn ?_
   refine WC.cond rfl (fun hc3 => ?_) (fun hc3 => ?_)
   ·replace h := ite_t hc3 h
    refine WC.seq (WC.order mixed ?_)
    refine wr 1 rfl trivial ?_
    replace h := bnd h; obtain ⟨x3, hxx3, h⟩ := h
    refine WR.q [] rfl rfl rfl (q_idx tbOk rfl (by exact trivial) (by decide) (map_get (f := eApiCodeEntry) hxx3)) ?_
    refine wr 3 rfl trivial ?_
    refine WR.nil (by kernel_rfl) (WQ.thenNormal (WC.ret (WQ.thenRet ?_)))
    cases h
    exact WQ.rets tbOk (r := .tup [.v (.int .i64 (5 : Int)), .v (.agg [.str x3.Code, .int .i64 x3.From, .int .i64 x3.To, .sl 1 (x3.Terms.map eLStr), .bool x3.Other])]) hR [] (.inl rfl) rfl rfl (Le.tup (.cons (Le.refl _) (.cons (Le.refl _) .nil))) (by exact trivial) rfl rfl rfl rfl
   ·replace h := ite_f hc3 h
    refine kn (WC.seq (WC.order mixed ?_))
    refine wr 2 rfl trivial ?_
    refine WR.q [] rfl rfl rfl (q_ev tbOk (.v (.int .i64 (v2.1.length : Int))) rfl (by exact trivial) (by exact lenT)) ?_
    refine wr 1 rfl trivial ?_
    obtain ⟨g2, h⟩ := grd h
    replace h := bnd h; obtain ⟨x4, hxx4, h⟩ := h
    refine WR.q [] rfl rfl rfl (q_idx tbOk rfl (by exact trivial) g2 (map_get (f := eApiCodeEntry) hxx4)) ?_
    refine wr 3 rfl trivial ?_
    refine WR.nil (by kernel_rfl) (WQ.thenNormal (WC.ret ?_))
    cases h
    exact WQ.rets tbOk (r := .tup [.v (.int .i64 (6 : Int)), .v (.agg [.str x4.Code, .int .i64 x4.From, .int .i64 x4.To, .sl 1 (x4.Terms.map eLStr), .bool x4.Other])]) hR [] (.inl rfl) rfl rfl (Le.tup (.cons (Le.refl _) (.cons (Le.refl _) .nil))) (by exact trivial) rfl rfl rfl rfl
theorem sameStep_con {wg : World} (hw : WG wg) {a : ApiClassStep} {b : ApiClassStep} {r : Bool} (h : sameStep a b = some r) : Con Tryz.prog wg gl 60 [.v (.agg [.str a.Parent, .int .i64 a.Basis, .sl 1 (a.Candidates.map eStr), .int .i64 a.Rule, .str a.Chosen]), .v (.agg [.str b.Parent, .int .i64 b.Basis, .sl 1 (b.Candidates.map eStr), .int .i64 b.Rule, .str b.Chosen])] [] (.v (.bool r)) [] := by
 unfold sameStep at h
 refine con_of_WC (S := slotsOf 0 _) Tryz.func60 rfl Tryz.ntmps60 rfl (fun t x hx => (slotsOf_get hx).2) ?_
 intro F L w ρ0 R hR
 try dsimp only [slotsOf]
 refine sr (lr3 rfl (ns ?_))
 refine lr 31 rfl (by exact sideR) ?_
 replace h := bnd h; obtain ⟨v, hvv, h⟩ := h
 refine WL.gcall0 fn54 rfl rfl rfl rfl rfl (fun _ => (by exact sideR)) rfl (fun hg => (sameStrings_con hw (ite_t hg hvv))) ?_
 refine lr 2 rfl (by exact sideR) ?_
 refine nr ?_
 cases h
 exact rt tbOk hR
theorem sameSteps_con {wg : World} (hw : WG wg) {a : (List ApiClassStep)} {b : (List ApiClassStep)} {r : Bool} (h : sameSteps a b = some r) : Con Tryz.prog wg gl 25 [.v (.sl 5 (a.map eApiClassStep)), .v (.sl 5 (b.map eApiClassStep))] [] (.v (.bool r)) [] := by
 unfold sameSteps at h
 refine con_of_WC (S := slotsOf 0 _) Tryz.func25 rfl Tryz.ntmps25 rfl (fun t x hx => (slotsOf_get hx).2) ?_
 intro F L w ρ0 R hR
 try dsimp only [slotsOf]
 refine sr (lr1 rfl (nn (WC.seq (sr (lr1 rfl ?_)))))
 refine WL.q [] rfl rfl rfl (q_ev tbOk (.v (.int .i64 (a.length : Int))) rfl (by exact trivial) (by exact lenT)) ?_
 refine lr1 rfl ?_
 refine WL.q [] rfl rfl rfl (q_ev tbOk (.v (.int .i64 (b.length : Int))) rfl (by exact trivial) (by exact lenT)) ?_
 refine lr1 rfl (nn ?_)
 refine WC.cond rfl (fun hc1 => ?_) (fun hc1 => ?_)
 ·replace h := ite_t hc1 h
  refine sr (lr1 rfl (nr (WQ.thenRet ?_)))
  cases h
  exact rt tbOk hR
 ·replace h := ite_f hc1 h
  refine kn (WC.seq (sr (lr1 rfl (nn ?_))))
  refine WC.thenCut (X := Unit) (fun gG => ⟨[], []⟩) (fun gG => sameSteps_j1  = some r) ?_ ?_
  ·refine WC.block ?_
   obtain ⟨eQ1, hl1, hk1⟩ := bnd h
   clear h
   refine WC.loop (σ := Int) (τ := ((Bool) ⊕ (Unit))) (fun sS => ⟨[(5, .v (.int .i64 sS)), (0, .v (.sl 5 (a.map eApiClassStep))), (1, .v (.sl 5 (b.map eApiClassStep)))], []⟩) (sameSteps_b1 a b) [] (0 : Int) hl1 sub ?_
   intro i m hn1 he1 hx1
   obtain ⟨o1, hf1⟩ := some_of hx1
   have h := hf1
   unfold sameSteps_b1 at h
   try dsimp only [slotsOf]
   refine WC.seq (sr (lr2 rfl ?_))
   refine WL.q [] rfl rfl rfl (q_ev tbOk (.v (.int .i64 (a.length : Int))) rfl (by exact trivial) (by exact lenT)) ?_
   refine lr1 rfl (nn ?_)
   refine WC.cond rfl (fun hc2 => ?_) (fun hc2 => ?_)
   ·replace h := ite_t hc2 h
    refine kn (sb (WC.seq (WC.order mixed ?_)))
    refine wr 2 rfl trivial ?_
    obtain ⟨g1, h⟩ := grd h
    replace h := bnd h; obtain ⟨x3, hxx3, h⟩ := h
    refine WR.q [] rfl rfl rfl (q_idx tbOk rfl (by exact trivial) g1 (map_get (f := eApiClassStep) hxx3)) ?_
    refine wr 3 rfl trivial ?_
    obtain ⟨g2, h⟩ := grd h
    replace h := bnd h; obtain ⟨x4, hxx4, h⟩ := h
    refine WR.q [] rfl rfl rfl (q_idx tbOk rfl (by exact trivial) g2 (map_get (f := eApiClassStep) hxx4)) ?_
    refine wr 1 rfl trivial ?_
    replace h := bnd h; obtain ⟨v2, hvv2, h⟩ := h
    refine WR.call0 fn60 rfl rfl rfl rfl (by exact trivial) rfl (sameStep_con hw hvv2) ?_
    refine wr 1 rfl trivial ?_
    refine WR.nil (by kernel_rfl) (WQ.thenNormal ?_)
    refine WC.cond rfl (fun hc3 => ?_) (fun hc3 => ?_)
    ·replace h := ite_t hc3 h
     refine sr (lr1 rfl (nr (rb ?_)))
     cases h
     have he := he1 _ hf1
     subst he
     have h : some false = some _ := hk1
     refine WQ.thenRet (rb ?_)
     cases h
     exact rt tbOk hR
    ·replace h := ite_f hc3 h
     refine WC.skip (bn (WC.region (lr3 rfl (WL.nil ?_))))
     cases h
     exact WQ.next [] (IntKind.i64.wrap (i + (1 : Int))) sub (hn1 _ hf1)
   ·replace h := ite_f hc2 h
    refine WC.exit (WQ.thenExit ?_)
    cases h
    have he := he1 _ hf1
    subst he
    replace h := hk1
    try dsimp only at h
    refine eb ?_
    exact WQ.cut [] () sub h
  ·intro _ h
   replace h : sameSteps_j1 = some _ := h
   unfold sameSteps_j1 at h
   try dsimp only [slotsOf]
   refine sr (lr1 rfl (nr ?_))
   cases h
   exact rt tbOk hR
end Go.Proofs.YtfkefolbabniaaaGreatDoor
end

section
set_option linter.unusedVariables false
set_option linter.unusedSimpArgs false
namespace Go.Proofs.YtfkefolbabniaaaGreatDoor
open Go.V Go.C Go.RowKit
theorem commonP_con {wg : World} (hw : WG wg) {a b : List Str} {r : Int} (h : commonP a b = some r) : Con Tryz.prog wg gl 79 [.v (.sl 1 (a.map eStr)), .v (.sl 1 (b.map eStr))] [] (.v (.int .i64 r)) [] := by
 unfold commonP at h
 split at h
 ·exact commonS_con hw h
 ·exact commonB_con hw h
theorem cloneR_con {wg : World} (hw : WG wg) {l r : List Str} (h : cloneR l = some r) : Con Tryz.prog wg gl 77 [.v (.sl 1 (l.map eStr))] [] (.r 500) [(500, .row 9 1 (r.map eStr))] := by
 unfold cloneR at h
 split at h
 case isFalse => cases h
 rename_i hn
 cases h
 intro w ρ F L vals hlow hdis hext hglob hobs hargs
 simp only [VReps, VRep, Rep] at hargs
 obtain ⟨_, _, rfl, ⟨base, cap, rfl, h2, h3, h4⟩, rfl⟩ := hargs
 have fin : ∀ (v' : Value) (w' : World), w'.ownsRow w.heap.size 9 1 v' l.length (l.map fun s => Value.string ⟨⟨s⟩⟩) → Below w.heap.size w w' →
   ∃ v ρ' L', Ending.returned v' = .returned v ∧ VRep (nmO [(500, Ob.row 9 1 (l.map eStr))]) ρ' w' (un F L') (.r 500) v ∧ ObsOk [(500, Ob.row 9 1 (l.map eStr))] ρ' w' (un F L') L' ∧ Step L w L' w' ∧ (∀ b, L' b → b < w'.heap.size) ∧ ∀ k v, get (pinsOf ρ []) k = some v → nmO [(500, Ob.row 9 1 (l.map eStr))] k → ρ' k = v := fun v' w' ho hb => by
  refine ⟨v', upd ρ 500 v', fun b => L b ∨ ob v' = some b, rfl, by simp only [VRep]; exact ⟨nmO_self, by rw [upd_self]⟩, obs_one ?_, ⟨hb.os, hb.tape, hb.output, hb.size, fun b h1 _ => hb.block b h1, fun b h => ?_⟩, fun b h => ?_, fun k v h => by cases h⟩
  ·rw [upd_self]
   refine ⟨_, reps_strs2 l, fun r hr => ?_, ?_, fun b h => .inr h⟩
   ·obtain ⟨s, _, rfl⟩ := List.mem_map.1 hr; rfl
   ·rw [flat_strs, List.length_map]; exact OwnsR.of ho
  ·rcases h with h | h
   ·exact .inl h
   ·rcases ho.2 with ⟨e, _⟩ | ⟨g, cap, cur, e, hge, _⟩
    ·rw [e] at h; simp [ob] at h
    ·rw [e] at h; simp only [ob, Option.some.injEq] at h; subst h; exact .inr hge
  ·rcases h with h | h
   ·exact Nat.lt_of_lt_of_le (hlow b (.inr h)) hb.size
   ·rcases ho.2 with ⟨e, _⟩ | ⟨g, cap, cur, e, _, hg, _⟩
    ·rw [e] at h; simp [ob] at h
    ·rw [e] at h; simp only [ob, Option.some.injEq] at h; subst h; exact (Array.getElem?_eq_some_iff.1 hg).1
 cases hb : base with
 | none =>
  have := h3 hb
  simp only [List.map_eq_nil_iff] at this
  subst this
  refine (Tryz.slices_Clone_string_nil 0 cap w).mono ?_
  rintro e w' ⟨rfl, rfl⟩
  exact fin _ _ ⟨by simp, .inl ⟨rfl, rfl⟩⟩ (Below.refl _ _)
 | some ad =>
  by_cases hl : l = []
  ·subst hl
   refine (Tryz.slices_Clone_string_zero ad cap w).mono ?_
   rintro e w' ⟨v', rfl, ho, _, hbel⟩
   exact fin _ _ ho hbel
  ·obtain ⟨h5, h6, h7, h8⟩ := h4 ad hb (by simpa using hl)
   obtain ⟨b, o, q⟩ := ad
   simp only at h5; subst h5
   have hcells := reps_strs h8
   rw [List.length_map]
   refine (Tryz.slices_Clone_string b o l.length cap (l.map fun s => (⟨⟨s⟩⟩ : ByteArray)) w (by simp) hn (fun j hj => by
    have := hcells j ((l.map fun s => (⟨⟨s⟩⟩ : ByteArray))[j]) (by simp)
    rw [this]; simp [List.getD_eq_getElem?_getD, List.getElem?_eq_getElem hj])).mono ?_
   rintro e w' ⟨v', rfl, ho, _, hbel⟩
   have e1 : ((l.map fun s => (⟨⟨s⟩⟩ : ByteArray)).take l.length).map Value.string = l.map fun s => Value.string ⟨⟨s⟩⟩ := by rw [List.take_of_length_le (by simp), List.map_map]; rfl
   rw [e1] at ho
   exact fin _ _ ho hbel
end Go.Proofs.YtfkefolbabniaaaGreatDoor
end
