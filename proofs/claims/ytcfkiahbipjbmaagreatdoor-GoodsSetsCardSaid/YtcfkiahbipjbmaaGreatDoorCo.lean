/- Contracts: the program's functions compute the plain ones; by program (gen.py). -/
import Derived.Test.YtcfkiahbipjbmaaGreatDoorLib
import Derived.Test.YtcfkiahbipjbmaaGreatDoorPo
import Derived.Test.YtcfkiahbipjbmaaGreatDoorSo
set_option linter.unusedVariables false
set_option linter.unusedSimpArgs false
set_option maxHeartbeats 4000000
set_option maxRecDepth 20000
namespace Go.Proofs.YtcfkiahbipjbmaaGreatDoor
open Go.V Go.C

theorem sIndex_con {wg : World} (hw : WG wg) {s : (List Str)} {v : Str} {r : Int} (h : sIndex s v = some r) : Con Tryz.prog wg gl 64 [.v (.sl 1 (s.map eStr)), .v (.str v)] [] (.v (.int .i64 r)) [] := by
 unfold sIndex at h
 refine con_of_WC (S := slotsOf 0 _) Tryz.func64 rfl Tryz.ntmps64 rfl (fun t x hx => (slotsOf_get hx).2) ?_
 intro F L w ρ0 R hR
 show WC _ _ _ ⟨[(0, .v (.sl 1 (s.map eStr))), (1, .v (.str v))], []⟩ _ _
 refine WC.seq (WC.region ?_)
 refine lr 1 rfl trivial ?_
 refine WL.nil (WQ.thenNormal (WC.seq (WC.seq (WC.region ?_))))
 refine lr 1 rfl trivial ?_
 refine WL.q [] rfl rfl rfl (q_ev tbOk (.v (.int .i64 (s.length : Int))) rfl (by exact trivial) (by exact lenT)) ?_
 refine lr 1 rfl trivial ?_
 refine WL.nil (WQ.thenNormal ?_)
 refine WC.thenCut (X := Unit) (fun gG => ⟨[], []⟩) (fun gG => sIndex_j1  = some r) ?_ ?_
 ·refine WC.block ?_
  obtain ⟨eQ1, hl1, hk1⟩ := bnd h
  clear h
  refine WC.loop (σ := Int) (τ := ((Int) ⊕ (Unit))) (fun sS => ⟨[(8, .v (.int .i64 sS)), (7, .v (.int .i64 (s.length : Int))), (0, .v (.sl 1 (s.map eStr))), (1, .v (.str v))], []⟩) (sIndex_b1 s v) [] (0 : Int) hl1 ⟨(by exact ⟨rfl, rfl, rfl, rfl, trivial⟩), (by exact trivial), rfl, rfl, rfl, rfl⟩ ?_
  intro t8 m hn1 he1 hx1
  obtain ⟨o1, hf1⟩ := some_of hx1
  have h := hf1
  unfold sIndex_b1 at h
  show WC _ _ _ ⟨[(8, .v (.int .i64 t8)), (7, .v (.int .i64 (s.length : Int))), (0, .v (.sl 1 (s.map eStr))), (1, .v (.str v))], []⟩ _ _
  refine WC.seq (WC.region ?_)
  refine lr 1 rfl trivial ?_
  refine WL.nil (WQ.thenNormal (WC.seq ?_))
  refine WC.cond rfl (fun hc1 => ?_) (fun hc1 => ?_)
  ·replace h := ite_t hc1 h
   refine WC.skip (WQ.thenNormal (WC.seq (WC.block (WC.seq (WC.region ?_)))))
   refine lr 2 rfl trivial ?_
   refine WL.nil (WQ.thenNormal (WC.seq (WC.region ?_)))
   refine lr 3 rfl trivial ?_
   obtain ⟨g1, h⟩ := grd h
   replace h := bnd h; obtain ⟨x2, hxx2, h⟩ := h
   refine WL.q [] rfl rfl rfl (q_idx tbOk rfl (by exact trivial) g1 (map_get (f := eStr) hxx2)) ?_
   refine lr 2 rfl trivial ?_
   refine WL.nil (WQ.thenNormal ?_)
   refine WC.cond rfl (fun hc2 => ?_) (fun hc2 => ?_)
   ·replace h := ite_t hc2 h
    refine WC.seq (WC.region ?_)
    refine lr 2 rfl trivial ?_
    refine WL.nil (WQ.thenNormal (WC.ret (WQ.blockRet (WQ.thenRet ?_))))
    cases h
    have he := he1 _ hf1
    subst he
    have h : some t8 = some _ := hk1
    refine WQ.thenRet (WQ.blockRet (WQ.thenRet ?_))
    cases h
    exact WQ.rets tbOk hR [] (.inl rfl) rfl rfl (Le.refl _) (by exact trivial) rfl rfl rfl rfl
   ·replace h := ite_f hc2 h
    refine WC.skip (WQ.blockNormal (WQ.thenNormal (WC.region ?_)))
    refine lr 2 rfl trivial ?_
    refine WL.nil ?_
    cases h
    exact WQ.next [] (IntKind.i64.wrap (t8 + (1 : Int))) ⟨(by exact ⟨rfl, rfl, rfl, rfl, trivial⟩), (by exact trivial), rfl, rfl, rfl, rfl⟩ (hn1 _ hf1)
  ·replace h := ite_f hc1 h
   refine WC.exit (WQ.thenExit ?_)
   cases h
   have he := he1 _ hf1
   subst he
   replace h := hk1
   try dsimp only at h
   refine WQ.thenExit (WQ.blockExit ?_)
   exact WQ.cut [] () ⟨(by exact trivial), (by exact trivial), rfl, rfl, rfl, rfl⟩ h
 ·intro _ h
  replace h : sIndex_j1 = some _ := h
  unfold sIndex_j1 at h
  show WC _ _ _ ⟨[], []⟩ _ _
  refine WC.seq (WC.region ?_)
  refine lr 1 rfl trivial ?_
  refine WL.nil (WQ.thenNormal (WC.ret ?_))
  cases h
  exact WQ.rets tbOk hR [] (.inl rfl) rfl rfl (Le.refl _) (by exact trivial) rfl rfl rfl rfl

theorem sContains_con {wg : World} (hw : WG wg) {s : (List Str)} {v : Str} {r : Bool} (h : sContains s v = some r) : Con Tryz.prog wg gl 39 [.v (.sl 1 (s.map eStr)), .v (.str v)] [] (.v (.bool r)) [] := by
 unfold sContains at h
 refine con_of_WC (S := slotsOf 0 _) Tryz.func39 rfl Tryz.ntmps39 rfl (fun t x hx => (slotsOf_get hx).2) ?_
 intro F L w ρ0 R hR
 show WC _ _ _ ⟨[(0, .v (.sl 1 (s.map eStr))), (1, .v (.str v))], []⟩ _ _
 refine WC.seq (WC.region ?_)
 refine lr 1 rfl trivial ?_
 refine WL.nil (WQ.thenNormal (WC.seq (WC.region ?_)))
 refine lr 2 rfl trivial ?_
 replace h := bnd h; obtain ⟨v2, hvv2, h⟩ := h
 refine WL.call0 fn64 rfl rfl rfl rfl (by exact trivial) rfl (sIndex_con hw hvv2) ?_
 refine lr 2 rfl trivial ?_
 refine WL.nil (WQ.thenNormal (WC.ret ?_))
 cases h
 exact WQ.rets tbOk hR [] (.inl rfl) rfl rfl (Le.refl _) (by exact trivial) rfl rfl rfl rfl

theorem memberIn_con {wg : World} (hw : WG wg) {s : Str} {a1 : (List Str)} {r : Bool} (h : memberIn s a1 = some r) : Con Tryz.prog wg gl 38 [.v (.str s), .p 1 0] [(1, .blk 22 [.v (.sl 1 (a1.map eStr))])] (.v (.bool r)) [(1, .blk 22 [.v (.sl 1 (a1.map eStr))])] := by
 unfold memberIn at h
 refine con_of_WC (S := slotsOf 0 _) Tryz.func38 rfl Tryz.ntmps38 rfl (fun t x hx => (slotsOf_get hx).2) ?_
 intro F L w ρ0 R hR
 show WC _ _ _ ⟨[(0, .v (.str s)), (1, .p 1 0)], [(1, .blk 22 [.v (.sl 1 (a1.map eStr))])]⟩ _ _
 refine WC.seq (WC.region ?_)
 refine lr 1 rfl trivial ?_
 refine WL.nil (WQ.thenNormal (WC.seq (WC.region ?_)))
 refine lr 2 rfl trivial ?_
 replace h := bnd h; obtain ⟨v, hvv, h⟩ := h
 refine WL.call0 fn39 rfl rfl rfl rfl (by exact trivial) rfl (sContains_con hw hvv) ?_
 refine lr 1 rfl trivial ?_
 refine WL.nil (WQ.thenNormal (WC.ret ?_))
 cases h
 exact WQ.rets tbOk hR [] (.inl rfl) rfl rfl (Le.refl _) (by exact ⟨rfl, trivial⟩) rfl rfl rfl rfl

theorem member_con {wg : World} (hw : WG wg) {l : (List Str)} {r : (List Str)} (h : member l = some r) : Con Tryz.prog wg gl 24 [.v (.sl 1 (l.map eStr))] [] (.fn 38 [.p 500 0]) [(500, .blk 22 [.v (.sl 1 (r.map eStr))])] := by
 unfold member at h
 refine con_of_WC (S := slotsOf 0 _) Tryz.func24 rfl Tryz.ntmps24 rfl (fun t x hx => (slotsOf_get hx).2) ?_
 intro F L w ρ0 R hR
 show WC _ _ _ ⟨[(0, .v (.sl 1 (l.map eStr)))], []⟩ _ _
 refine WC.seq (WC.region ?_)
 refine lr 2 rfl trivial ?_
 refine WL.nil (WQ.thenNormal (WC.seq (WC.seq (WC.region ?_))))
 refine lr 1 rfl trivial ?_
 refine WL.q [] rfl rfl rfl (q_ev tbOk (.v (.int .i64 (l.length : Int))) rfl (by exact trivial) (by exact lenT)) ?_
 refine lr 1 rfl trivial ?_
 refine WL.nil (WQ.thenNormal ?_)
 refine WC.cond rfl (fun hc1 => ?_) (fun hc1 => ?_)
 ·replace h := ite_t hc1 h
  refine WC.seq (WC.region ?_)
  refine lr 2 rfl trivial ?_
  refine WL.nil (WQ.thenNormal (WC.ret (WQ.thenRet ?_)))
  cases h
  exact WQ.rets tbOk hR [(500, 1)] (.inl rfl) rfl rfl (Le.refl _) (by exact ⟨rfl, trivial⟩) rfl rfl rfl rfl
 ·replace h := ite_f hc1 h
  refine WC.skip (WQ.thenNormal (WC.seq ?_))
  cases h

theorem setOf_con {wg : World} (hw : WG wg) {l : (List Str)} {r : (List Str)} (h : setOf l = some r) : Con Tryz.prog wg gl 26 [.v (.sl 1 (l.map eStr))] [] (.v (.mp r)) [] := by
 unfold setOf at h
 refine con_of_WC (S := slotsOf 0 _) Tryz.func26 rfl Tryz.ntmps26 rfl (fun t x hx => (slotsOf_get hx).2) ?_
 intro F L w ρ0 R hR
 show WC _ _ _ ⟨[(0, .v (.sl 1 (l.map eStr)))], []⟩ _ _
 refine WC.seq (WC.region ?_)
 refine lr 1 rfl trivial ?_
 refine WL.nil (WQ.thenNormal (WC.seq (WC.region ?_)))
 refine WL.makeSet rfl rfl rfl rfl rfl ?_
 refine lr 1 rfl trivial ?_
 refine WL.nil (WQ.thenNormal (WC.seq (WC.seq (WC.region ?_))))
 refine lr 1 rfl trivial ?_
 refine WL.q [] rfl rfl rfl (q_ev tbOk (.v (.int .i64 (l.length : Int))) rfl (by exact trivial) (by exact lenT)) ?_
 refine lr 1 rfl trivial ?_
 refine WL.nil (WQ.thenNormal ?_)
 refine WC.thenCut (X := (List Str)) (fun gG => ⟨[(3, .r 6)], [(6, .set gG)]⟩) (fun gG => setOf_j1 gG = some r) ?_ ?_
 ·refine WC.block ?_
  obtain ⟨eQ1, hl1, hk1⟩ := bnd h
  clear h
  refine WC.loop (σ := Int × (List Str)) (τ := ((List Str))) (fun sS => ⟨[(9, .v (.int .i64 sS.1)), (8, .v (.int .i64 (l.length : Int))), (7, .v (.sl 1 (l.map eStr))), (3, .r 6)], [(6, .set sS.2)]⟩) (setOf_b1 l) [] ((0 : Int), []) hl1 ⟨(by exact ⟨rfl, rfl, rfl, rfl, trivial⟩), (by exact ⟨rfl, trivial⟩), rfl, rfl, rfl, rfl⟩ ?_
  rintro ⟨t9, keys2⟩ m hn1 he1 hx1
  obtain ⟨o1, hf1⟩ := some_of hx1
  have h := hf1
  unfold setOf_b1 at h
  show WC _ _ _ ⟨[(9, .v (.int .i64 t9)), (8, .v (.int .i64 (l.length : Int))), (7, .v (.sl 1 (l.map eStr))), (3, .r 6)], [(6, .set keys2)]⟩ _ _
  refine WC.seq (WC.region ?_)
  refine lr 1 rfl trivial ?_
  refine WL.nil (WQ.thenNormal (WC.seq ?_))
  refine WC.cond rfl (fun hc1 => ?_) (fun hc1 => ?_)
  ·replace h := ite_t hc1 h
   refine WC.skip (WQ.thenNormal (WC.seq (WC.block (WC.seq (WC.region ?_)))))
   obtain ⟨g1, h⟩ := grd h
   replace h := bnd h; obtain ⟨x2, hxx2, h⟩ := h
   refine WL.q [] rfl rfl rfl (q_idx tbOk rfl (by exact trivial) g1 (map_get (f := eStr) hxx2)) ?_
   refine lr 2 rfl trivial ?_
   refine WL.nil (WQ.thenNormal (WC.region ?_))
   refine lr 2 rfl trivial ?_
   refine WL.setPut Tryz.underlying53 Tryz.underlying9 rfl rfl rfl (by exact trivial) rfl ?_
   refine WL.nil (WQ.blockNormal (WQ.thenNormal (WC.region ?_)))
   refine lr 2 rfl trivial ?_
   refine WL.nil ?_
   cases h
   exact WQ.next [] ((IntKind.i64.wrap (t9 + (1 : Int))), (addKey keys2 x2)) ⟨(by exact ⟨rfl, rfl, rfl, rfl, trivial⟩), (by exact ⟨rfl, trivial⟩), rfl, rfl, rfl, rfl⟩ (hn1 _ hf1)
  ·replace h := ite_f hc1 h
   refine WC.exit (WQ.thenExit ?_)
   cases h
   have he := he1 _ hf1
   subst he
   replace h := hk1
   try dsimp only at h
   refine WQ.thenExit (WQ.blockExit ?_)
   exact WQ.cut [] keys2 ⟨(by exact ⟨rfl, trivial⟩), (by exact ⟨rfl, trivial⟩), rfl, rfl, rfl, rfl⟩ h
 ·intro keys h
  replace h : setOf_j1 keys = some _ := h
  unfold setOf_j1 at h
  show WC _ _ _ ⟨[(3, .r 6)], [(6, .set keys)]⟩ _ _
  refine WC.seq (WC.region ?_)
  refine lr 2 rfl trivial ?_
  refine WL.nil (WQ.thenNormal (WC.ret ?_))
  refine WQ.pubSet 6 rfl rfl ?_
  cases h
  exact WQ.rets tbOk hR [] (.inl rfl) rfl rfl (Le.refl _) (by exact trivial) rfl rfl rfl rfl

theorem memberIn2_con {wg : World} (hw : WG wg) {s : Str} {a1 : (List Str)} {r : Bool} (h : memberIn2 s a1 = some r) : Con Tryz.prog wg gl 40 [.v (.str s), .p 1 0] [(1, .blk 53 [.v (.mp a1)])] (.v (.bool r)) [(1, .blk 53 [.v (.mp a1)])] := by
 unfold memberIn2 at h
 refine con_of_WC (S := slotsOf 0 _) Tryz.func40 rfl Tryz.ntmps40 rfl (fun t x hx => (slotsOf_get hx).2) ?_
 intro F L w ρ0 R hR
 show WC _ _ _ ⟨[(0, .v (.str s)), (1, .p 1 0)], [(1, .blk 53 [.v (.mp a1)])]⟩ _ _
 refine WC.seq (WC.region ?_)
 refine lr 1 rfl trivial ?_
 refine WL.nil (WQ.thenNormal (WC.seq (WC.region ?_)))
 refine lr 2 rfl trivial ?_
 refine WL.q [] rfl rfl rfl (q_look tbOk Tryz.underlying53 Tryz.underlying9 (et := 4) rfl rfl rfl (by exact trivial)) ?_
 refine lr 1 rfl trivial ?_
 refine WL.nil (WQ.thenNormal (WC.ret ?_))
 cases h
 exact WQ.rets tbOk hR [] (.inl rfl) rfl rfl (Le.refl _) (by exact ⟨rfl, trivial⟩) rfl rfl rfl rfl

theorem memberB_con {wg : World} (hw : WG wg) {l : (List Str)} {r : (List Str)} (h : memberB l = some r) : Con Tryz.prog wg gl 24 [.v (.sl 1 (l.map eStr))] [] (.fn 40 [.p 500 0]) [(500, .blk 53 [.v (.mp r)])] := by
 unfold memberB at h
 refine con_of_WC (S := slotsOf 0 _) Tryz.func24 rfl Tryz.ntmps24 rfl (fun t x hx => (slotsOf_get hx).2) ?_
 intro F L w ρ0 R hR
 show WC _ _ _ ⟨[(0, .v (.sl 1 (l.map eStr)))], []⟩ _ _
 refine WC.seq (WC.region ?_)
 refine lr 2 rfl trivial ?_
 refine WL.nil (WQ.thenNormal (WC.seq (WC.seq (WC.region ?_))))
 refine lr 1 rfl trivial ?_
 refine WL.q [] rfl rfl rfl (q_ev tbOk (.v (.int .i64 (l.length : Int))) rfl (by exact trivial) (by exact lenT)) ?_
 refine lr 1 rfl trivial ?_
 refine WL.nil (WQ.thenNormal ?_)
 refine WC.cond rfl (fun hc1 => ?_) (fun hc1 => ?_)
 ·replace h := ite_t hc1 h
  refine WC.seq (WC.region ?_)
  refine lr 2 rfl trivial ?_
  refine WL.nil (WQ.thenNormal (WC.ret (WQ.thenRet ?_)))
  cases h
 ·replace h := ite_f hc1 h
  refine WC.skip (WQ.thenNormal (WC.seq (WC.region ?_)))
  refine lr 1 rfl trivial ?_
  replace h := bnd h; obtain ⟨v, hvv, h⟩ := h
  refine WL.call0 fn26 rfl rfl rfl rfl (by exact trivial) rfl (setOf_con hw hvv) ?_
  refine lr 2 rfl trivial ?_
  refine WL.nil (WQ.thenNormal (WC.seq (WC.region ?_)))
  refine lr 2 rfl trivial ?_
  refine WL.nil (WQ.thenNormal (WC.ret ?_))
  cases h
  exact WQ.rets tbOk hR [(500, 3)] (.inl rfl) rfl rfl (Le.refl _) (by exact ⟨rfl, trivial⟩) rfl rfl rfl rfl

theorem subset_con {wg : World} (hw : WG wg) {a : (List Str)} {b : (List Str)} {r : Bool} (h : subset a b = some r) : Con Tryz.prog wg gl 9 [.v (.sl 1 (a.map eStr)), .v (.sl 1 (b.map eStr))] [] (.v (.bool r)) [] := by
 unfold subset at h
 refine con_of_WC (S := slotsOf 0 _) Tryz.func9 rfl Tryz.ntmps9 rfl (fun t x hx => (slotsOf_get hx).2) ?_
 intro F L w ρ0 R hR
 show WC _ _ _ ⟨[(0, .v (.sl 1 (a.map eStr))), (1, .v (.sl 1 (b.map eStr)))], []⟩ _ _
 refine WC.seq (WC.region ?_)
 refine lr 1 rfl trivial ?_
 refine WL.nil (WQ.thenNormal (WC.seq (WC.region ?_)))
 refine lr 1 rfl trivial ?_
 replace h := bnd h; obtain ⟨v, hvv, h⟩ := h
 refine WL.callO [] [(500, 9)] [9] fn24 rfl rfl rfl rfl (by exact trivial) (member_con hw hvv) rfl rfl (by exact trivial) rfl rfl rfl rfl rfl rfl ?_
 refine lr 1 rfl trivial ?_
 refine WL.nil (WQ.thenNormal (WC.seq (WC.seq (WC.region ?_))))
 refine lr 1 rfl trivial ?_
 refine WL.q [] rfl rfl rfl (q_ev tbOk (.v (.int .i64 (a.length : Int))) rfl (by exact trivial) (by exact lenT)) ?_
 refine lr 1 rfl trivial ?_
 refine WL.nil (WQ.thenNormal ?_)
 refine WC.thenCut (X := Unit) (fun gG => ⟨[], []⟩) (fun gG => subset_j1  = some r) ?_ ?_
 ·refine WC.block ?_
  obtain ⟨eQ1, hl1, hk1⟩ := bnd h
  clear h
  refine WC.loop (σ := Int) (τ := ((Bool) ⊕ (Unit))) (fun sS => ⟨[(12, .v (.int .i64 sS)), (11, .v (.int .i64 (a.length : Int))), (10, .v (.sl 1 (a.map eStr))), (5, .fn 38 [.p 9 0])], [(9, .blk 22 [.v (.sl 1 (v.map eStr))])]⟩) (subset_b1 a v) [] (0 : Int) hl1 ⟨(by exact ⟨rfl, rfl, rfl, rfl, trivial⟩), (by exact ⟨rfl, trivial⟩), rfl, rfl, rfl, rfl⟩ ?_
  intro t12 m hn1 he1 hx1
  obtain ⟨o1, hf1⟩ := some_of hx1
  have h := hf1
  unfold subset_b1 at h
  show WC _ _ _ ⟨[(12, .v (.int .i64 t12)), (11, .v (.int .i64 (a.length : Int))), (10, .v (.sl 1 (a.map eStr))), (5, .fn 38 [.p 9 0])], [(9, .blk 22 [.v (.sl 1 (v.map eStr))])]⟩ _ _
  refine WC.seq (WC.region ?_)
  refine lr 1 rfl trivial ?_
  refine WL.nil (WQ.thenNormal (WC.seq ?_))
  refine WC.cond rfl (fun hc1 => ?_) (fun hc1 => ?_)
  ·replace h := ite_t hc1 h
   refine WC.skip (WQ.thenNormal (WC.seq (WC.block (WC.seq (WC.region ?_)))))
   obtain ⟨g1, h⟩ := grd h
   replace h := bnd h; obtain ⟨x2, hxx2, h⟩ := h
   refine WL.q [] rfl rfl rfl (q_idx tbOk rfl (by exact trivial) g1 (map_get (f := eStr) hxx2)) ?_
   refine lr 2 rfl trivial ?_
   refine WL.nil (WQ.thenNormal (WC.seq (WC.region ?_)))
   refine lr 2 rfl trivial ?_
   replace h := bnd h; obtain ⟨v3, hvv3, h⟩ := h
   refine WL.callO [(1, 9)] [(1, 9)] [9] fn38 rfl rfl rfl rfl (by exact trivial) (memberIn_con hw hvv3) rfl rfl (by exact ⟨rfl, trivial⟩) rfl rfl rfl rfl rfl rfl ?_
   refine lr 1 rfl trivial ?_
   refine WL.nil (WQ.thenNormal ?_)
   refine WC.cond rfl (fun hc2 => ?_) (fun hc2 => ?_)
   ·replace h := ite_t hc2 h
    refine WC.seq (WC.region ?_)
    refine lr 1 rfl trivial ?_
    refine WL.nil (WQ.thenNormal (WC.ret (WQ.blockRet (WQ.thenRet ?_))))
    cases h
    have he := he1 _ hf1
    subst he
    have h : some false = some _ := hk1
    refine WQ.thenRet (WQ.blockRet (WQ.thenRet ?_))
    cases h
    exact WQ.rets tbOk hR [] (.inl rfl) rfl rfl (Le.refl _) (by exact trivial) rfl rfl rfl rfl
   ·replace h := ite_f hc2 h
    refine WC.skip (WQ.blockNormal (WQ.thenNormal (WC.region ?_)))
    refine lr 2 rfl trivial ?_
    refine WL.nil ?_
    cases h
    exact WQ.next [] (IntKind.i64.wrap (t12 + (1 : Int))) ⟨(by exact ⟨rfl, rfl, rfl, rfl, trivial⟩), (by exact ⟨rfl, trivial⟩), rfl, rfl, rfl, rfl⟩ (hn1 _ hf1)
  ·replace h := ite_f hc1 h
   refine WC.exit (WQ.thenExit ?_)
   cases h
   have he := he1 _ hf1
   subst he
   replace h := hk1
   try dsimp only at h
   refine WQ.thenExit (WQ.blockExit ?_)
   exact WQ.cut [] () ⟨(by exact trivial), (by exact trivial), rfl, rfl, rfl, rfl⟩ h
 ·intro _ h
  replace h : subset_j1 = some _ := h
  unfold subset_j1 at h
  show WC _ _ _ ⟨[], []⟩ _ _
  refine WC.seq (WC.region ?_)
  refine lr 1 rfl trivial ?_
  refine WL.nil (WQ.thenNormal (WC.ret ?_))
  cases h
  exact WQ.rets tbOk hR [] (.inl rfl) rfl rfl (Le.refl _) (by exact trivial) rfl rfl rfl rfl

theorem subsetB_con {wg : World} (hw : WG wg) {a : (List Str)} {b : (List Str)} {r : Bool} (h : subsetB a b = some r) : Con Tryz.prog wg gl 9 [.v (.sl 1 (a.map eStr)), .v (.sl 1 (b.map eStr))] [] (.v (.bool r)) [] := by
 unfold subsetB at h
 refine con_of_WC (S := slotsOf 0 _) Tryz.func9 rfl Tryz.ntmps9 rfl (fun t x hx => (slotsOf_get hx).2) ?_
 intro F L w ρ0 R hR
 show WC _ _ _ ⟨[(0, .v (.sl 1 (a.map eStr))), (1, .v (.sl 1 (b.map eStr)))], []⟩ _ _
 refine WC.seq (WC.region ?_)
 refine lr 1 rfl trivial ?_
 refine WL.nil (WQ.thenNormal (WC.seq (WC.region ?_)))
 refine lr 1 rfl trivial ?_
 replace h := bnd h; obtain ⟨v, hvv, h⟩ := h
 refine WL.callO [] [(500, 9)] [9] fn24 rfl rfl rfl rfl (by exact trivial) (memberB_con hw hvv) rfl rfl (by exact trivial) rfl rfl rfl rfl rfl rfl ?_
 refine lr 1 rfl trivial ?_
 refine WL.nil (WQ.thenNormal (WC.seq (WC.seq (WC.region ?_))))
 refine lr 1 rfl trivial ?_
 refine WL.q [] rfl rfl rfl (q_ev tbOk (.v (.int .i64 (a.length : Int))) rfl (by exact trivial) (by exact lenT)) ?_
 refine lr 1 rfl trivial ?_
 refine WL.nil (WQ.thenNormal ?_)
 refine WC.thenCut (X := Unit) (fun gG => ⟨[], []⟩) (fun gG => subsetB_j1  = some r) ?_ ?_
 ·refine WC.block ?_
  obtain ⟨eQ1, hl1, hk1⟩ := bnd h
  clear h
  refine WC.loop (σ := Int) (τ := ((Bool) ⊕ (Unit))) (fun sS => ⟨[(12, .v (.int .i64 sS)), (11, .v (.int .i64 (a.length : Int))), (10, .v (.sl 1 (a.map eStr))), (5, .fn 40 [.p 9 0])], [(9, .blk 53 [.v (.mp v)])]⟩) (subsetB_b1 a v) [] (0 : Int) hl1 ⟨(by exact ⟨rfl, rfl, rfl, rfl, trivial⟩), (by exact ⟨rfl, trivial⟩), rfl, rfl, rfl, rfl⟩ ?_
  intro t12 m hn1 he1 hx1
  obtain ⟨o1, hf1⟩ := some_of hx1
  have h := hf1
  unfold subsetB_b1 at h
  show WC _ _ _ ⟨[(12, .v (.int .i64 t12)), (11, .v (.int .i64 (a.length : Int))), (10, .v (.sl 1 (a.map eStr))), (5, .fn 40 [.p 9 0])], [(9, .blk 53 [.v (.mp v)])]⟩ _ _
  refine WC.seq (WC.region ?_)
  refine lr 1 rfl trivial ?_
  refine WL.nil (WQ.thenNormal (WC.seq ?_))
  refine WC.cond rfl (fun hc1 => ?_) (fun hc1 => ?_)
  ·replace h := ite_t hc1 h
   refine WC.skip (WQ.thenNormal (WC.seq (WC.block (WC.seq (WC.region ?_)))))
   obtain ⟨g1, h⟩ := grd h
   replace h := bnd h; obtain ⟨x2, hxx2, h⟩ := h
   refine WL.q [] rfl rfl rfl (q_idx tbOk rfl (by exact trivial) g1 (map_get (f := eStr) hxx2)) ?_
   refine lr 2 rfl trivial ?_
   refine WL.nil (WQ.thenNormal (WC.seq (WC.region ?_)))
   refine lr 2 rfl trivial ?_
   replace h := bnd h; obtain ⟨v3, hvv3, h⟩ := h
   refine WL.callO [(1, 9)] [(1, 9)] [9] fn40 rfl rfl rfl rfl (by exact trivial) (memberIn2_con hw hvv3) rfl rfl (by exact ⟨rfl, trivial⟩) rfl rfl rfl rfl rfl rfl ?_
   refine lr 1 rfl trivial ?_
   refine WL.nil (WQ.thenNormal ?_)
   refine WC.cond rfl (fun hc2 => ?_) (fun hc2 => ?_)
   ·replace h := ite_t hc2 h
    refine WC.seq (WC.region ?_)
    refine lr 1 rfl trivial ?_
    refine WL.nil (WQ.thenNormal (WC.ret (WQ.blockRet (WQ.thenRet ?_))))
    cases h
    have he := he1 _ hf1
    subst he
    have h : some false = some _ := hk1
    refine WQ.thenRet (WQ.blockRet (WQ.thenRet ?_))
    cases h
    exact WQ.rets tbOk hR [] (.inl rfl) rfl rfl (Le.refl _) (by exact trivial) rfl rfl rfl rfl
   ·replace h := ite_f hc2 h
    refine WC.skip (WQ.blockNormal (WQ.thenNormal (WC.region ?_)))
    refine lr 2 rfl trivial ?_
    refine WL.nil ?_
    cases h
    exact WQ.next [] (IntKind.i64.wrap (t12 + (1 : Int))) ⟨(by exact ⟨rfl, rfl, rfl, rfl, trivial⟩), (by exact ⟨rfl, trivial⟩), rfl, rfl, rfl, rfl⟩ (hn1 _ hf1)
  ·replace h := ite_f hc1 h
   refine WC.exit (WQ.thenExit ?_)
   cases h
   have he := he1 _ hf1
   subst he
   replace h := hk1
   try dsimp only at h
   refine WQ.thenExit (WQ.blockExit ?_)
   exact WQ.cut [] () ⟨(by exact trivial), (by exact trivial), rfl, rfl, rfl, rfl⟩ h
 ·intro _ h
  replace h : subsetB_j1 = some _ := h
  unfold subsetB_j1 at h
  show WC _ _ _ ⟨[], []⟩ _ _
  refine WC.seq (WC.region ?_)
  refine lr 1 rfl trivial ?_
  refine WL.nil (WQ.thenNormal (WC.ret ?_))
  cases h
  exact WQ.rets tbOk hR [] (.inl rfl) rfl rfl (Le.refl _) (by exact trivial) rfl rfl rfl rfl

theorem commonS_con {wg : World} (hw : WG wg) {a : (List Str)} {b : (List Str)} {r : Int} (h : commonS a b = some r) : Con Tryz.prog wg gl 11 [.v (.sl 1 (a.map eStr)), .v (.sl 1 (b.map eStr))] [] (.v (.int .i64 r)) [] := by
 unfold commonS at h
 refine con_of_WC (S := slotsOf 0 _) Tryz.func11 rfl Tryz.ntmps11 rfl (fun t x hx => (slotsOf_get hx).2) ?_
 intro F L w ρ0 R hR
 show WC _ _ _ ⟨[(0, .v (.sl 1 (a.map eStr))), (1, .v (.sl 1 (b.map eStr)))], []⟩ _ _
 refine WC.seq (WC.region ?_)
 refine lr 1 rfl trivial ?_
 refine WL.nil (WQ.thenNormal (WC.seq (WC.region ?_)))
 refine lr 1 rfl trivial ?_
 replace h := bnd h; obtain ⟨v, hvv, h⟩ := h
 refine WL.callO [] [(500, 9)] [9] fn24 rfl rfl rfl rfl (by exact trivial) (member_con hw hvv) rfl rfl (by exact trivial) rfl rfl rfl rfl rfl rfl ?_
 refine lr 1 rfl trivial ?_
 refine WL.nil (WQ.thenNormal (WC.seq (WC.region ?_)))
 refine lr 1 rfl trivial ?_
 refine WL.nil (WQ.thenNormal (WC.seq (WC.seq (WC.region ?_))))
 refine lr 1 rfl trivial ?_
 replace h := bnd h; obtain ⟨v2, hvv2, h⟩ := h
 refine WL.call0 fn26 rfl rfl rfl rfl (by exact trivial) rfl (setOf_con hw hvv2) ?_
 refine WL.rangeSet Tryz.underlying53 rfl rfl rfl rfl (by exact trivial) rfl ?_
 refine WL.nil (WQ.thenNormal ?_)
 refine WC.thenCut (X := Int) (fun gG => ⟨[(6, .v (.int .i64 gG))], []⟩) (fun gG => commonS_j1 gG = some r) ?_ ?_
 ·refine WC.block ?_
  obtain ⟨eQ1, hl1, hk_1⟩ := bnd h
  clear h
  refine WC.loopM (σ := (List Str) × (Int)) (fun sS => ⟨[(12, .r 12), (6, .v (.int .i64 sS.2)), (5, .fn 38 [.p 9 0])], [(9, .blk 22 [.v (.sl 1 (v.map eStr))]), (12, .sit sS.1 none)]⟩) (fun sS => ∀ o : List Str, o.Perm sS.1 → foldO (commonS_b1 v) o sS.2 = some eQ1) (fun sS => sS.1.length) [] (v2, (0 : Int)) (setFold_all hl1) ⟨(by exact ⟨rfl, rfl, rfl, trivial⟩), (by exact ⟨rfl, rfl, trivial⟩), rfl, rfl, rfl, rfl⟩ ?_
  rintro ⟨left, count2⟩ hI1
  show WC _ _ _ ⟨[(12, .r 12), (6, .v (.int .i64 count2)), (5, .fn 38 [.p 9 0])], [(9, .blk 22 [.v (.sl 1 (v.map eStr))]), (12, .sit left none)]⟩ _ _
  refine WC.seq (WC.region ?_)
  refine WL.nextSet rfl rfl rfl rfl (by exact sideR) rfl (fun kx1 hkx1 => ?_) (fun hkn1 => ?_)
  ·obtain ⟨o1, hf1, hI2_1⟩ := set_step hI1 hkx1
   have h := hf1
   unfold commonS_b1 at h
   refine lr 1 rfl trivial ?_
   refine WL.nil (WQ.thenNormal (WC.seq ?_))
   refine WC.cond (b := true) rfl (fun hc2 => ?_) (fun hc2 => by cases hc2)
   refine WC.skip (WQ.thenNormal (WC.block (WC.seq (WC.region ?_))))
   refine WL.q [12] rfl rfl rfl (q_entry rfl (by exact trivial) rfl) ?_
   refine lr 2 rfl trivial ?_
   refine WL.nil (WQ.thenNormal (WC.seq (WC.region ?_)))
   refine lr 2 rfl trivial ?_
   replace h := bnd h; obtain ⟨v4, hvv4, h⟩ := h
   refine WL.callO [(1, 9)] [(1, 9)] [9] fn38 rfl rfl rfl rfl (by exact trivial) (memberIn_con hw hvv4) rfl rfl (by exact ⟨rfl, trivial⟩) rfl rfl rfl rfl rfl rfl ?_
   refine WL.nil (WQ.thenNormal ?_)
   refine WC.cond rfl (fun hc3 => ?_) (fun hc3 => ?_)
   ·replace h := ite_t hc3 h
    refine WC.region ?_
    refine lr 3 rfl trivial ?_
    refine WL.nil (WQ.blockNormal ?_)
    refine WQ.weakenO 12 (.sit (left.erase kx1) none) rfl LeO.sit rfl ?_
    cases h
    exact WQ.nextM [] (left.erase kx1, (IntKind.i64.wrap (count2 + (1 : Int)))) ⟨(by exact ⟨rfl, rfl, rfl, trivial⟩), (by exact ⟨rfl, rfl, trivial⟩), rfl, rfl, rfl, rfl⟩ hI2_1 (erase_lt hkx1)
   ·replace h := ite_f hc3 h
    refine WC.skip (WQ.blockNormal ?_)
    refine WQ.weakenO 12 (.sit (left.erase kx1) none) rfl LeO.sit rfl ?_
    cases h
    exact WQ.nextM [] (left.erase kx1, count2) ⟨(by exact ⟨rfl, rfl, rfl, trivial⟩), (by exact ⟨rfl, rfl, trivial⟩), rfl, rfl, rfl, rfl⟩ hI2_1 (erase_lt hkx1)
  ·refine lr 1 rfl trivial ?_
   refine WL.nil (WQ.thenNormal (WC.seq ?_))
   refine WC.cond (b := false) rfl (fun hc1 => by cases hc1) (fun hc1 => ?_)
   refine WC.exit (WQ.thenExit ?_)
   have he := (set_end hI1 hkn1).symm
   subst he
   have h := hk_1
   try dsimp only at h
   refine WQ.thenExit (WQ.blockExit ?_)
   exact WQ.cut [] count2 ⟨(by exact ⟨rfl, trivial⟩), (by exact trivial), rfl, rfl, rfl, rfl⟩ h
 ·intro count h
  replace h : commonS_j1 count = some _ := h
  unfold commonS_j1 at h
  show WC _ _ _ ⟨[(6, .v (.int .i64 count))], []⟩ _ _
  refine WC.seq (WC.region ?_)
  refine lr 2 rfl trivial ?_
  refine WL.nil (WQ.thenNormal (WC.ret ?_))
  cases h
  exact WQ.rets tbOk hR [] (.inl rfl) rfl rfl (Le.refl _) (by exact trivial) rfl rfl rfl rfl

theorem commonB_con {wg : World} (hw : WG wg) {a : (List Str)} {b : (List Str)} {r : Int} (h : commonB a b = some r) : Con Tryz.prog wg gl 11 [.v (.sl 1 (a.map eStr)), .v (.sl 1 (b.map eStr))] [] (.v (.int .i64 r)) [] := by
 unfold commonB at h
 refine con_of_WC (S := slotsOf 0 _) Tryz.func11 rfl Tryz.ntmps11 rfl (fun t x hx => (slotsOf_get hx).2) ?_
 intro F L w ρ0 R hR
 show WC _ _ _ ⟨[(0, .v (.sl 1 (a.map eStr))), (1, .v (.sl 1 (b.map eStr)))], []⟩ _ _
 refine WC.seq (WC.region ?_)
 refine lr 1 rfl trivial ?_
 refine WL.nil (WQ.thenNormal (WC.seq (WC.region ?_)))
 refine lr 1 rfl trivial ?_
 replace h := bnd h; obtain ⟨v, hvv, h⟩ := h
 refine WL.callO [] [(500, 9)] [9] fn24 rfl rfl rfl rfl (by exact trivial) (memberB_con hw hvv) rfl rfl (by exact trivial) rfl rfl rfl rfl rfl rfl ?_
 refine lr 1 rfl trivial ?_
 refine WL.nil (WQ.thenNormal (WC.seq (WC.region ?_)))
 refine lr 1 rfl trivial ?_
 refine WL.nil (WQ.thenNormal (WC.seq (WC.seq (WC.region ?_))))
 refine lr 1 rfl trivial ?_
 replace h := bnd h; obtain ⟨v2, hvv2, h⟩ := h
 refine WL.call0 fn26 rfl rfl rfl rfl (by exact trivial) rfl (setOf_con hw hvv2) ?_
 refine WL.rangeSet Tryz.underlying53 rfl rfl rfl rfl (by exact trivial) rfl ?_
 refine WL.nil (WQ.thenNormal ?_)
 refine WC.thenCut (X := Int) (fun gG => ⟨[(6, .v (.int .i64 gG))], []⟩) (fun gG => commonB_j1 gG = some r) ?_ ?_
 ·refine WC.block ?_
  obtain ⟨eQ1, hl1, hk_1⟩ := bnd h
  clear h
  refine WC.loopM (σ := (List Str) × (Int)) (fun sS => ⟨[(12, .r 12), (6, .v (.int .i64 sS.2)), (5, .fn 40 [.p 9 0])], [(9, .blk 53 [.v (.mp v)]), (12, .sit sS.1 none)]⟩) (fun sS => ∀ o : List Str, o.Perm sS.1 → foldO (commonB_b1 v) o sS.2 = some eQ1) (fun sS => sS.1.length) [] (v2, (0 : Int)) (setFold_all hl1) ⟨(by exact ⟨rfl, rfl, rfl, trivial⟩), (by exact ⟨rfl, rfl, trivial⟩), rfl, rfl, rfl, rfl⟩ ?_
  rintro ⟨left, count2⟩ hI1
  show WC _ _ _ ⟨[(12, .r 12), (6, .v (.int .i64 count2)), (5, .fn 40 [.p 9 0])], [(9, .blk 53 [.v (.mp v)]), (12, .sit left none)]⟩ _ _
  refine WC.seq (WC.region ?_)
  refine WL.nextSet rfl rfl rfl rfl (by exact sideR) rfl (fun kx1 hkx1 => ?_) (fun hkn1 => ?_)
  ·obtain ⟨o1, hf1, hI2_1⟩ := set_step hI1 hkx1
   have h := hf1
   unfold commonB_b1 at h
   refine lr 1 rfl trivial ?_
   refine WL.nil (WQ.thenNormal (WC.seq ?_))
   refine WC.cond (b := true) rfl (fun hc2 => ?_) (fun hc2 => by cases hc2)
   refine WC.skip (WQ.thenNormal (WC.block (WC.seq (WC.region ?_))))
   refine WL.q [12] rfl rfl rfl (q_entry rfl (by exact trivial) rfl) ?_
   refine lr 2 rfl trivial ?_
   refine WL.nil (WQ.thenNormal (WC.seq (WC.region ?_)))
   refine lr 2 rfl trivial ?_
   replace h := bnd h; obtain ⟨v4, hvv4, h⟩ := h
   refine WL.callO [(1, 9)] [(1, 9)] [9] fn40 rfl rfl rfl rfl (by exact trivial) (memberIn2_con hw hvv4) rfl rfl (by exact ⟨rfl, trivial⟩) rfl rfl rfl rfl rfl rfl ?_
   refine WL.nil (WQ.thenNormal ?_)
   refine WC.cond rfl (fun hc3 => ?_) (fun hc3 => ?_)
   ·replace h := ite_t hc3 h
    refine WC.region ?_
    refine lr 3 rfl trivial ?_
    refine WL.nil (WQ.blockNormal ?_)
    refine WQ.weakenO 12 (.sit (left.erase kx1) none) rfl LeO.sit rfl ?_
    cases h
    exact WQ.nextM [] (left.erase kx1, (IntKind.i64.wrap (count2 + (1 : Int)))) ⟨(by exact ⟨rfl, rfl, rfl, trivial⟩), (by exact ⟨rfl, rfl, trivial⟩), rfl, rfl, rfl, rfl⟩ hI2_1 (erase_lt hkx1)
   ·replace h := ite_f hc3 h
    refine WC.skip (WQ.blockNormal ?_)
    refine WQ.weakenO 12 (.sit (left.erase kx1) none) rfl LeO.sit rfl ?_
    cases h
    exact WQ.nextM [] (left.erase kx1, count2) ⟨(by exact ⟨rfl, rfl, rfl, trivial⟩), (by exact ⟨rfl, rfl, trivial⟩), rfl, rfl, rfl, rfl⟩ hI2_1 (erase_lt hkx1)
  ·refine lr 1 rfl trivial ?_
   refine WL.nil (WQ.thenNormal (WC.seq ?_))
   refine WC.cond (b := false) rfl (fun hc1 => by cases hc1) (fun hc1 => ?_)
   refine WC.exit (WQ.thenExit ?_)
   have he := (set_end hI1 hkn1).symm
   subst he
   have h := hk_1
   try dsimp only at h
   refine WQ.thenExit (WQ.blockExit ?_)
   exact WQ.cut [] count2 ⟨(by exact ⟨rfl, trivial⟩), (by exact trivial), rfl, rfl, rfl, rfl⟩ h
 ·intro count h
  replace h : commonB_j1 count = some _ := h
  unfold commonB_j1 at h
  show WC _ _ _ ⟨[(6, .v (.int .i64 count))], []⟩ _ _
  refine WC.seq (WC.region ?_)
  refine lr 2 rfl trivial ?_
  refine WL.nil (WQ.thenNormal (WC.ret ?_))
  cases h
  exact WQ.rets tbOk hR [] (.inl rfl) rfl rfl (Le.refl _) (by exact trivial) rfl rfl rfl rfl

theorem growStr_con {wg : World} (hw : WG wg) {n1 : Int} {r : (List Str)} (h : growStr n1 = some r) : Con Tryz.prog wg gl 35 [.v (.raw (.slice none 0 0)), .v (.int .i64 n1)] [] (.r 500) [(500, .row 9 1 (r.map eStr))] := by
 unfold growStr at h
 refine con_of_WC (S := slotsOf 0 _) Tryz.func35 rfl Tryz.ntmps35 rfl (fun t x hx => (slotsOf_get hx).2) ?_
 intro F L w ρ0 R hR
 show WC _ _ _ ⟨[(0, .v (.raw (.slice none 0 0))), (1, .v (.int .i64 n1))], []⟩ _ _
 refine WC.seq (WC.region ?_)
 refine lr 1 rfl trivial ?_
 refine WL.nil (WQ.thenNormal (WC.seq (WC.seq (WC.region ?_))))
 refine lr 2 rfl trivial ?_
 refine WL.nil (WQ.thenNormal ?_)
 refine WC.cond rfl (fun hc1 => ?_) (fun hc1 => ?_)
 ·replace h := ite_t hc1 h
  cases h
 ·replace h := ite_f hc1 h
  refine WC.skip (WQ.thenNormal (WC.seq (WC.seq (WC.region ?_))))
  refine lr 2 rfl trivial ?_
  refine WL.q [] rfl rfl rfl (q_nil ap22 rfl (by exact trivial)) ?_
  refine lr 5 rfl trivial ?_
  refine WL.nil (WQ.thenNormal (WC.seq (WC.region ?_)))
  refine lr 2 rfl trivial ?_
  refine WL.nil (WQ.thenNormal ?_)
  refine WC.thenCut (X := (List Str)) (fun gG => ⟨[(0, .r 1000)], [(1000, .row 9 1 (gG.map eStr))]⟩) (fun gG => growStr_j1 gG = some r) ?_ ?_
  ·refine WC.cond rfl (fun hc2 => ?_) (fun hc2 => ?_)
   ·replace h := ite_t hc2 h
    refine WC.region ?_
    refine lr 2 rfl trivial ?_
    refine WL.q [] rfl rfl rfl (q_nil ap22 rfl (by exact trivial)) ?_
    refine WL.q [] rfl rfl rfl (q_nil ap22 rfl (by exact sideR)) ?_
    refine lr 1 rfl trivial ?_
    obtain ⟨g1, h⟩ := grd h
    refine WL.growRow tbOk (List.replicate (IntKind.i64.wrap (n1 - (IntKind.i64.wrap ((0 : Int) - (0 : Int))))).toNat [.raw (.string ⟨⟨[]⟩⟩)]) ap22 rfl rfl rfl rfl rfl (by exact sideR) g1 rfl rfl ?_
    refine lr 2 rfl trivial ?_
    refine WL.rcut tbOk (([] : (List Str)).map eStr) rfl rfl rfl rfl (by exact sideR) rfl ⟨Int.le_refl 0, Int.natCast_nonneg _⟩ rfl rfl ?_
    refine lr 1 rfl trivial ?_
    refine WL.nil ?_
    exact WQ.cut [(1000, 25)] [] ⟨(by exact ⟨rfl, trivial⟩), (by exact ⟨rfl, trivial⟩), rfl, rfl, rfl, rfl⟩ h
   ·replace h := ite_f hc2 h
    refine WC.skip ?_
    refine WQ.rowNil 0 1000 9 1 rfl rfl ?_
    exact WQ.cut [] [] ⟨(by exact ⟨rfl, trivial⟩), (by exact ⟨rfl, trivial⟩), rfl, rfl, rfl, rfl⟩ h
  ·intro s h
   replace h : growStr_j1 s = some _ := h
   unfold growStr_j1 at h
   show WC _ _ _ ⟨[(0, .r 1000)], [(1000, .row 9 1 (s.map eStr))]⟩ _ _
   refine WC.seq (WC.region ?_)
   refine lr 2 rfl trivial ?_
   refine WL.nil (WQ.thenNormal (WC.ret ?_))
   cases h
   exact WQ.rets tbOk hR [(500, 1000)] (.inl rfl) rfl rfl (Le.refl _) (by exact ⟨rfl, trivial⟩) rfl rfl rfl rfl

theorem concatStr_con {wg : World} (hw : WG wg) {slices : (List (List Str))} {r : (List Str)} (h : concatStr slices = some r) : Con Tryz.prog wg gl 20 [.v (.sl 1 (slices.map eLStr))] [] (.r 500) [(500, .row 9 1 (r.map eStr))] := by
 unfold concatStr at h
 refine con_of_WC (S := slotsOf 0 _) Tryz.func20 rfl Tryz.ntmps20 rfl (fun t x hx => (slotsOf_get hx).2) ?_
 intro F L w ρ0 R hR
 show WC _ _ _ ⟨[(0, .v (.sl 1 (slices.map eLStr)))], []⟩ _ _
 refine WC.seq (WC.region ?_)
 refine lr 1 rfl trivial ?_
 refine WL.nil (WQ.thenNormal (WC.seq (WC.region ?_)))
 refine lr 1 rfl trivial ?_
 refine WL.nil (WQ.thenNormal (WC.seq (WC.seq (WC.region ?_))))
 refine lr 1 rfl trivial ?_
 refine WL.q [] rfl rfl rfl (q_ev tbOk (.v (.int .i64 (slices.length : Int))) rfl (by exact trivial) (by exact lenT)) ?_
 refine lr 1 rfl trivial ?_
 refine WL.nil (WQ.thenNormal ?_)
 refine WC.thenCut (X := Int) (fun gG => ⟨[(3, .v (.int .i64 gG)), (0, .v (.sl 1 (slices.map eLStr)))], []⟩) (fun gG => concatStr_j1 slices gG = some r) ?_ ?_
 ·refine WC.block ?_
  obtain ⟨eQ2, hl2, hk2⟩ := bnd h
  clear h
  refine WC.loop (σ := Int × Int) (τ := (Int)) (fun sS => ⟨[(11, .v (.int .i64 sS.1)), (10, .v (.int .i64 (slices.length : Int))), (9, .v (.sl 1 (slices.map eLStr))), (3, .v (.int .i64 sS.2)), (0, .v (.sl 1 (slices.map eLStr)))], []⟩) (concatStr_b2 slices) [] ((0 : Int), (0 : Int)) hl2 ⟨(by exact ⟨rfl, rfl, rfl, rfl, rfl, trivial⟩), (by exact trivial), rfl, rfl, rfl, rfl⟩ ?_
  rintro ⟨t11, size2⟩ m hn2 he2 hx2
  obtain ⟨o2, hf2⟩ := some_of hx2
  have h := hf2
  unfold concatStr_b2 at h
  show WC _ _ _ ⟨[(11, .v (.int .i64 t11)), (10, .v (.int .i64 (slices.length : Int))), (9, .v (.sl 1 (slices.map eLStr))), (3, .v (.int .i64 size2)), (0, .v (.sl 1 (slices.map eLStr)))], []⟩ _ _
  refine WC.seq (WC.region ?_)
  refine lr 1 rfl trivial ?_
  refine WL.nil (WQ.thenNormal (WC.seq ?_))
  refine WC.cond rfl (fun hc2 => ?_) (fun hc2 => ?_)
  ·replace h := ite_t hc2 h
   refine WC.skip (WQ.thenNormal (WC.seq (WC.block (WC.seq (WC.region ?_)))))
   obtain ⟨g3, h⟩ := grd h
   replace h := bnd h; obtain ⟨x4, hxx4, h⟩ := h
   refine WL.q [] rfl rfl rfl (q_idx tbOk rfl (by exact trivial) g3 (map_get (f := eLStr) hxx4)) ?_
   refine lr 2 rfl trivial ?_
   refine WL.nil (WQ.thenNormal (WC.seq (WC.region ?_)))
   refine lr 2 rfl trivial ?_
   refine WL.q [] rfl rfl rfl (q_ev tbOk (.v (.int .i64 (x4.length : Int))) rfl (by exact trivial) (by exact lenT)) ?_
   refine lr 2 rfl trivial ?_
   refine WL.nil (WQ.thenNormal (WC.seq (WC.region ?_)))
   refine lr 2 rfl trivial ?_
   refine WL.nil (WQ.thenNormal ?_)
   refine WC.cond rfl (fun hc3 => ?_) (fun hc3 => ?_)
   ·replace h := ite_t hc3 h
    cases h
   ·replace h := ite_f hc3 h
    refine WC.skip (WQ.blockNormal (WQ.thenNormal (WC.region ?_)))
    refine lr 2 rfl trivial ?_
    refine WL.nil ?_
    cases h
    exact WQ.next [] ((IntKind.i64.wrap (t11 + (1 : Int))), (IntKind.i64.wrap (size2 + (x4.length : Int)))) ⟨(by exact ⟨rfl, rfl, rfl, rfl, rfl, trivial⟩), (by exact trivial), rfl, rfl, rfl, rfl⟩ (hn2 _ hf2)
  ·replace h := ite_f hc2 h
   refine WC.exit (WQ.thenExit ?_)
   cases h
   have he := he2 _ hf2
   subst he
   replace h := hk2
   try dsimp only at h
   refine WQ.thenExit (WQ.blockExit ?_)
   exact WQ.cut [] size2 ⟨(by exact ⟨rfl, rfl, trivial⟩), (by exact trivial), rfl, rfl, rfl, rfl⟩ h
 ·intro size h
  replace h : concatStr_j1 slices size = some _ := h
  unfold concatStr_j1 at h
  show WC _ _ _ ⟨[(3, .v (.int .i64 size)), (0, .v (.sl 1 (slices.map eLStr)))], []⟩ _ _
  refine WC.seq (WC.region ?_)
  refine lr 1 rfl trivial ?_
  replace h := bnd h; obtain ⟨v, hvv, h⟩ := h
  refine WL.callO [] [(500, 24)] [24] fn35 rfl rfl rfl rfl (by exact trivial) (growStr_con hw hvv) rfl rfl (by exact trivial) rfl rfl rfl rfl rfl rfl ?_
  refine lr 1 rfl trivial ?_
  refine WL.nil (WQ.thenNormal (WC.seq (WC.seq (WC.region ?_))))
  refine lr 1 rfl trivial ?_
  refine WL.q [] rfl rfl rfl (q_ev tbOk (.v (.int .i64 (slices.length : Int))) rfl (by exact trivial) (by exact lenT)) ?_
  refine lr 1 rfl trivial ?_
  refine WL.nil (WQ.thenNormal ?_)
  refine WC.thenCut (X := (List Str)) (fun gG => ⟨[(6, .r 1006)], [(1006, .row 9 1 (gG.map eStr))]⟩) (fun gG => concatStr_j2 gG = some r) ?_ ?_
  ·refine WC.block ?_
   obtain ⟨eQ1, hl1, hk1⟩ := bnd h
   clear h
   refine WC.loop (σ := Int × (List Str)) (τ := ((List Str))) (fun sS => ⟨[(27, .v (.int .i64 sS.1)), (26, .v (.int .i64 (slices.length : Int))), (25, .v (.sl 1 (slices.map eLStr))), (6, .r 1006)], [(1006, .row 9 1 (sS.2.map eStr))]⟩) (concatStr_b1 slices) [(1006, 24)] ((0 : Int), v) hl1 ⟨(by exact ⟨rfl, rfl, rfl, rfl, trivial⟩), (by exact ⟨rfl, trivial⟩), rfl, rfl, rfl, rfl⟩ ?_
   rintro ⟨t27, newslice2⟩ m hn1 he1 hx1
   obtain ⟨o1, hf1⟩ := some_of hx1
   have h := hf1
   unfold concatStr_b1 at h
   show WC _ _ _ ⟨[(27, .v (.int .i64 t27)), (26, .v (.int .i64 (slices.length : Int))), (25, .v (.sl 1 (slices.map eLStr))), (6, .r 1006)], [(1006, .row 9 1 (newslice2.map eStr))]⟩ _ _
   refine WC.seq (WC.region ?_)
   refine lr 1 rfl trivial ?_
   refine WL.nil (WQ.thenNormal (WC.seq ?_))
   refine WC.cond rfl (fun hc1 => ?_) (fun hc1 => ?_)
   ·replace h := ite_t hc1 h
    refine WC.skip (WQ.thenNormal (WC.seq (WC.block (WC.seq (WC.region ?_)))))
    obtain ⟨g1, h⟩ := grd h
    replace h := bnd h; obtain ⟨x2, hxx2, h⟩ := h
    refine WL.q [] rfl rfl rfl (q_idx tbOk rfl (by exact trivial) g1 (map_get (f := eLStr) hxx2)) ?_
    refine lr 2 rfl trivial ?_
    refine WL.nil (WQ.thenNormal (WC.region ?_))
    refine lr 2 rfl trivial ?_
    obtain ⟨g2, h⟩ := grd h
    refine WL.append tbOk ((newslice2 ++ x2).map eStr) [33, 1006] ap22 rfl rfl rfl rfl (fun _ e => by cases e; rfl) (by exact trivial) (map_cells (f := eStr) (xs := x2) fun _ => rfl) (by have := g2; simp only [List.length_map, List.length_nil, List.length_cons] at this ⊢; omega) rfl rfl (by simp only [List.map_append]; try rfl) rfl ?_
    refine lr 1 rfl trivial ?_
    refine WL.nil (WQ.blockNormal (WQ.thenNormal (WC.region ?_)))
    refine lr 2 rfl trivial ?_
    refine WL.nil ?_
    cases h
    exact WQ.next [(1006, 33)] ((IntKind.i64.wrap (t27 + (1 : Int))), (newslice2 ++ x2)) ⟨(by exact ⟨rfl, rfl, rfl, rfl, trivial⟩), (by exact ⟨rfl, trivial⟩), rfl, rfl, rfl, rfl⟩ (hn1 _ hf1)
   ·replace h := ite_f hc1 h
    refine WC.exit (WQ.thenExit ?_)
    cases h
    have he := he1 _ hf1
    subst he
    replace h := hk1
    try dsimp only at h
    refine WQ.thenExit (WQ.blockExit ?_)
    exact WQ.cut [] newslice2 ⟨(by exact ⟨rfl, trivial⟩), (by exact ⟨rfl, trivial⟩), rfl, rfl, rfl, rfl⟩ h
  ·intro newslice h
   replace h : concatStr_j2 newslice = some _ := h
   unfold concatStr_j2 at h
   show WC _ _ _ ⟨[(6, .r 1006)], [(1006, .row 9 1 (newslice.map eStr))]⟩ _ _
   refine WC.seq (WC.region ?_)
   refine lr 2 rfl trivial ?_
   refine WL.nil (WQ.thenNormal (WC.ret ?_))
   cases h
   exact WQ.rets tbOk hR [(500, 1006)] (.inl rfl) rfl rfl (Le.refl _) (by exact ⟨rfl, trivial⟩) rfl rfl rfl rfl

theorem union_con {wg : World} (hw : WG wg) {a : (List Str)} {b : (List Str)} {r : (List Str)} (h : union a b = some r) : Con Tryz.prog wg gl 6 [.v (.sl 1 (a.map eStr)), .v (.sl 1 (b.map eStr))] [] (.v (.sl 1 (r.map eStr))) [] := by
 unfold union at h
 refine con_of_WC (S := slotsOf 0 _) Tryz.func6 rfl Tryz.ntmps6 rfl (fun t x hx => (slotsOf_get hx).2) ?_
 intro F L w ρ0 R hR
 show WC _ _ _ ⟨[(0, .v (.sl 1 (a.map eStr))), (1, .v (.sl 1 (b.map eStr)))], []⟩ _ _
 refine WC.seq (WC.region ?_)
 refine lr 1 rfl trivial ?_
 refine WL.nil (WQ.thenNormal (WC.seq (WC.region ?_)))
 refine lr 3 rfl trivial ?_
 replace h := bnd h; obtain ⟨v, hvv, h⟩ := h
 refine WL.callO [] [(500, 9)] [9] fn20 rfl rfl rfl rfl (by exact trivial) (concatStr_con hw hvv) rfl rfl (by exact trivial) rfl rfl rfl rfl rfl rfl ?_
 refine lr 1 rfl trivial ?_
 refine WL.nil (WQ.thenNormal (WC.seq (WC.region ?_)))
 refine lr 1 rfl trivial ?_
 replace h := bnd h; obtain ⟨v2, hvv2, h⟩ := h
 refine WL.callO [(0, 9)] [(0, 9)] [9] fn21 rfl rfl rfl rfl (by exact trivial) (sortS_con hw hvv2) rfl rfl (by exact ⟨rfl, trivial⟩) rfl rfl rfl rfl rfl rfl ?_
 refine WL.nil (WQ.thenNormal (WC.seq (WC.region ?_)))
 refine lr 1 rfl trivial ?_
 replace h := bnd h; obtain ⟨v3, hvv3, h⟩ := h
 refine WL.callO [(0, 9)] [(0, 9), (500, 13)] [9, 13] fn22 rfl rfl rfl rfl (by exact trivial) (compactS_con hw hvv3) rfl rfl (by exact ⟨rfl, trivial⟩) rfl rfl rfl rfl rfl rfl ?_
 refine lr 1 rfl trivial ?_
 refine WL.nil (WQ.thenNormal (WC.ret ?_))
 refine WQ.publish 13 rfl rfl ?_
 cases h
 exact WQ.rets tbOk hR [] (.inl rfl) rfl rfl (Le.refl _) (by exact trivial) rfl rfl rfl rfl

end Go.Proofs.YtcfkiahbipjbmaaGreatDoor
