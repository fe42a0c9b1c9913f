/- Contracts: the program's functions compute the plain ones; by program (gen.py). -/
import Derived.Test.YtfkefolbabniaaaGreatDoorLib
import Derived.Test.YtfkefolbabniaaaGreatDoorPd
import Derived.Test.YtfkefolbabniaaaGreatDoorCa
import Derived.Test.YtfkefolbabniaaaGreatDoorCb
import Derived.Test.YtfkefolbabniaaaGreatDoorCc
set_option linter.unusedVariables false
set_option linter.unusedSimpArgs false
set_option maxHeartbeats 4000000
set_option maxRecDepth 20000
namespace Go.Proofs.YtfkefolbabniaaaGreatDoor
open Go.V Go.C

theorem entryLine_con {wg : World} (hw : WG wg) {e1 : ApiCodeEntry} {r : Str} (h : entryLine e1 = some r) : Con Tryz.prog wg gl 92 [.v (.agg [.str e1.Code, .int .i64 e1.From, .int .i64 e1.To, .sl 1 (e1.Terms.map eLStr), .bool e1.Other])] [] (.v (.str r)) [] := by
 unfold entryLine at h
 refine con_of_WC (S := slotsOf 0 _) Tryz.func92 rfl Tryz.ntmps92 rfl (fun t x hx => (slotsOf_get hx).2) ?_
 intro F L w ρ0 R hR
 show WC _ _ _ ⟨[(0, .v (.agg [.str e1.Code, .int .i64 e1.From, .int .i64 e1.To, .sl 1 (e1.Terms.map eLStr), .bool e1.Other]))], []⟩ _ _
 refine WC.seq (WC.region ?_)
 refine lr 2 rfl trivial ?_
 refine WL.nil (WQ.thenNormal (WC.seq (WC.order mixed ?_)))
 refine wr 4 rfl trivial ?_
 replace h := bnd h; obtain ⟨v, hvv, h⟩ := h
 refine WR.call0 fn141 rfl rfl rfl rfl (by exact trivial) rfl (itoa_con hw hvv) ?_
 refine wr 2 rfl trivial ?_
 replace h := bnd h; obtain ⟨v2, hvv2, h⟩ := h
 refine WR.call0 fn141 rfl rfl rfl rfl (by exact trivial) rfl (itoa_con hw hvv2) ?_
 refine WR.buildRow tbOk ([e1.Code, v, v2].map eStr) rfl rfl rfl rfl (by exact trivial) rfl rfl ?_
 refine wr 1 rfl trivial ?_
 refine WR.nil (by kernel_rfl) (WQ.thenNormal (WC.seq (WC.seq (WC.region ?_))))
 refine lr 2 rfl trivial ?_
 refine WL.q [] rfl rfl rfl (q_ev tbOk (.v (.int .i64 (e1.Terms.length : Int))) rfl (by exact trivial) (by exact lenT)) ?_
 refine lr 1 rfl trivial ?_
 refine WL.nil (WQ.thenNormal ?_)
 refine WC.thenCut (X := (List Str)) (fun gG => ⟨[(3, .r 1003), (1, .p 1 0)], [(1003, .row 9 1 (gG.map eStr)), (1, .blk 54 [.v (.str e1.Code), .v (.int .i64 e1.From), .v (.int .i64 e1.To), .v (.sl 1 (e1.Terms.map eLStr)), .v (.bool e1.Other)])]⟩) (fun gG => entryLine_j1 e1 gG = some r) ?_ ?_
 ·refine WC.block ?_
  obtain ⟨eQ1, hl1, hk1⟩ := bnd h
  clear h
  refine WC.loop (σ := Int × (List Str)) (τ := ((List Str))) (fun sS => ⟨[(18, .v (.int .i64 sS.1)), (17, .v (.int .i64 (e1.Terms.length : Int))), (16, .v (.sl 1 (e1.Terms.map eLStr))), (3, .r 1003), (1, .p 1 0)], [(1003, .row 9 1 (sS.2.map eStr)), (1, .blk 54 [.v (.str e1.Code), .v (.int .i64 e1.From), .v (.int .i64 e1.To), .v (.sl 1 (e1.Terms.map eLStr)), .v (.bool e1.Other)])]⟩) (entryLine_b1 e1) [(1003, 14)] ((0 : Int), [e1.Code, v, v2]) hl1 ⟨(by exact ⟨rfl, rfl, rfl, rfl, rfl, trivial⟩), (by exact ⟨rfl, rfl, trivial⟩), rfl, rfl, rfl, rfl⟩ ?_
  rintro ⟨t18, fields3⟩ m hn1 he1 hx1
  obtain ⟨o1, hf1⟩ := some_of hx1
  have h := hf1
  unfold entryLine_b1 at h
  show WC _ _ _ ⟨[(18, .v (.int .i64 t18)), (17, .v (.int .i64 (e1.Terms.length : Int))), (16, .v (.sl 1 (e1.Terms.map eLStr))), (3, .r 1003), (1, .p 1 0)], [(1003, .row 9 1 (fields3.map eStr)), (1, .blk 54 [.v (.str e1.Code), .v (.int .i64 e1.From), .v (.int .i64 e1.To), .v (.sl 1 (e1.Terms.map eLStr)), .v (.bool e1.Other)])]⟩ _ _
  refine WC.seq (WC.region ?_)
  refine lr 1 rfl trivial ?_
  refine WL.nil (WQ.thenNormal (WC.seq ?_))
  refine WC.cond rfl (fun hc2 => ?_) (fun hc2 => ?_)
  ·replace h := ite_t hc2 h
   refine WC.skip (WQ.thenNormal (WC.seq (WC.block (WC.seq (WC.region ?_)))))
   obtain ⟨g2, h⟩ := grd h
   replace h := bnd h; obtain ⟨x2, hxx2, h⟩ := h
   refine WL.q [] rfl rfl rfl (q_idx tbOk rfl (by exact trivial) g2 (map_get (f := eLStr) hxx2)) ?_
   refine lr 2 rfl trivial ?_
   refine WL.nil (WQ.thenNormal (WC.region ?_))
   refine lr 2 rfl trivial ?_
   replace h := bnd h; obtain ⟨v5, hvv5, h⟩ := h
   refine WL.call0 fn142 rfl rfl rfl rfl (by exact trivial) rfl (joinS_con hw hvv5) ?_
   refine lr 1 rfl trivial ?_
   obtain ⟨g3, h⟩ := grd h
   refine WL.append tbOk ((fields3 ++ [v5]).map eStr) [26, 1003] ap31 rfl rfl rfl rfl (fun _ e => by cases e; rfl) (by exact trivial) (map_cells (f := eStr) (xs := [v5]) fun _ => rfl) (by have := g3; simp only [List.length_map, List.length_nil, List.length_cons] at this ⊢; omega) rfl rfl (by simp only [List.map_append]; try rfl) rfl ?_
   refine lr 1 rfl trivial ?_
   refine WL.nil (WQ.blockNormal (WQ.thenNormal (WC.region ?_)))
   refine lr 2 rfl trivial ?_
   refine WL.nil ?_
   cases h
   exact WQ.next [(1003, 26)] ((IntKind.i64.wrap (t18 + (1 : Int))), (fields3 ++ [v5])) ⟨(by exact ⟨rfl, rfl, rfl, rfl, rfl, trivial⟩), (by exact ⟨rfl, rfl, trivial⟩), rfl, rfl, rfl, rfl⟩ (hn1 _ hf1)
  ·replace h := ite_f hc2 h
   refine WC.exit (WQ.thenExit ?_)
   cases h
   have he := he1 _ hf1
   subst he
   replace h := hk1
   try dsimp only at h
   refine WQ.thenExit (WQ.blockExit ?_)
   exact WQ.cut [] fields3 ⟨(by exact ⟨rfl, rfl, trivial⟩), (by exact ⟨rfl, rfl, trivial⟩), rfl, rfl, rfl, rfl⟩ h
 ·intro fields h
  replace h : entryLine_j1 e1 fields = some _ := h
  unfold entryLine_j1 at h
  show WC _ _ _ ⟨[(3, .r 1003), (1, .p 1 0)], [(1003, .row 9 1 (fields.map eStr)), (1, .blk 54 [.v (.str e1.Code), .v (.int .i64 e1.From), .v (.int .i64 e1.To), .v (.sl 1 (e1.Terms.map eLStr)), .v (.bool e1.Other)])]⟩ _ _
  refine WC.seq (WC.seq (WC.region ?_))
  refine lr 2 rfl trivial ?_
  refine WL.nil (WQ.thenNormal ?_)
  refine WC.thenCut (X := (List Str)) (fun gG => ⟨[(3, .r 1003)], [(1003, .row 9 1 (gG.map eStr))]⟩) (fun gG => entryLine_j2 gG = some r) ?_ ?_
  ·refine WC.cond rfl (fun hc1 => ?_) (fun hc1 => ?_)
   ·replace h := ite_t hc1 h
    refine WC.region ?_
    refine lr 2 rfl trivial ?_
    obtain ⟨g1, h⟩ := grd h
    refine WL.append tbOk ((fields ++ [([42] : Str)]).map eStr) [32, 1003] ap31 rfl rfl rfl rfl (fun _ e => by cases e; rfl) (by exact trivial) (map_cells (f := eStr) (xs := [([42] : Str)]) fun _ => rfl) (by have := g1; simp only [List.length_map, List.length_nil, List.length_cons] at this ⊢; omega) rfl rfl (by simp only [List.map_append]; try rfl) rfl ?_
    refine lr 1 rfl trivial ?_
    refine WL.nil ?_
    exact WQ.cut [(1003, 32)] (fields ++ [([42] : Str)]) ⟨(by exact ⟨rfl, trivial⟩), (by exact ⟨rfl, trivial⟩), rfl, rfl, rfl, rfl⟩ h
   ·replace h := ite_f hc1 h
    refine WC.skip ?_
    exact WQ.cut [] fields ⟨(by exact ⟨rfl, trivial⟩), (by exact ⟨rfl, trivial⟩), rfl, rfl, rfl, rfl⟩ h
  ·intro fields2 h
   replace h : entryLine_j2 fields2 = some _ := h
   unfold entryLine_j2 at h
   show WC _ _ _ ⟨[(3, .r 1003)], [(1003, .row 9 1 (fields2.map eStr))]⟩ _ _
   refine WC.seq ?_
   refine WC.publish 1003 rfl rfl ?_
   refine WC.region ?_
   refine lr 1 rfl trivial ?_
   replace h := bnd h; obtain ⟨v3, hvv3, h⟩ := h
   refine WL.call0 fn142 rfl rfl rfl rfl (by exact trivial) rfl (joinS_con hw hvv3) ?_
   refine lr 1 rfl trivial ?_
   refine WL.nil (WQ.thenNormal (WC.ret ?_))
   cases h
   exact WQ.rets tbOk hR [] (.inl rfl) rfl rfl (Le.refl _) (by exact trivial) rfl rfl rfl rfl

theorem noteLine_con {wg : World} (hw : WG wg) {n1 : ApiCodeNote} {r : Str} (h : noteLine n1 = some r) : Con Tryz.prog wg gl 93 [.v (.agg [.str n1.Scope, .sl 1 (n1.Words.map eStr), .str n1.Target])] [] (.v (.str r)) [] := by
 unfold noteLine at h
 refine con_of_WC (S := slotsOf 0 _) Tryz.func93 rfl Tryz.ntmps93 rfl (fun t x hx => (slotsOf_get hx).2) ?_
 intro F L w ρ0 R hR
 show WC _ _ _ ⟨[(0, .v (.agg [.str n1.Scope, .sl 1 (n1.Words.map eStr), .str n1.Target]))], []⟩ _ _
 refine WC.seq (WC.region ?_)
 refine lr 2 rfl trivial ?_
 refine WL.nil (WQ.thenNormal (WC.seq (WC.region ?_)))
 refine lr 3 rfl trivial ?_
 refine WL.nil (WQ.thenNormal (WC.seq (WC.seq (WC.region ?_))))
 refine lr 2 rfl trivial ?_
 refine WL.nil (WQ.thenNormal ?_)
 refine WC.thenCut (X := Str) (fun gG => ⟨[(3, .v (.str gG)), (1, .p 1 0)], [(1, .blk 77 [.v (.str n1.Scope), .v (.sl 1 (n1.Words.map eStr)), .v (.str n1.Target)])]⟩) (fun gG => noteLine_j1 n1 gG = some r) ?_ ?_
 ·refine WC.cond rfl (fun hc1 => ?_) (fun hc1 => ?_)
  ·replace h := ite_t hc1 h
   refine WC.region ?_
   refine lr 1 rfl trivial ?_
   refine WL.nil ?_
   exact WQ.cut [] ([45] : Str) ⟨(by exact ⟨rfl, rfl, trivial⟩), (by exact ⟨rfl, trivial⟩), rfl, rfl, rfl, rfl⟩ h
  ·replace h := ite_f hc1 h
   refine WC.skip ?_
   exact WQ.cut [] n1.Target ⟨(by exact ⟨rfl, rfl, trivial⟩), (by exact ⟨rfl, trivial⟩), rfl, rfl, rfl, rfl⟩ h
 ·intro target h
  replace h : noteLine_j1 n1 target = some _ := h
  unfold noteLine_j1 at h
  show WC _ _ _ ⟨[(3, .v (.str target)), (1, .p 1 0)], [(1, .blk 77 [.v (.str n1.Scope), .v (.sl 1 (n1.Words.map eStr)), .v (.str n1.Target)])]⟩ _ _
  refine WC.seq (WC.order mixed ?_)
  refine wr 4 rfl trivial ?_
  replace h := bnd h; obtain ⟨v, hvv, h⟩ := h
  refine WR.call0 fn142 rfl rfl rfl rfl (by exact trivial) rfl (joinS_con hw hvv) ?_
  refine wr 2 rfl trivial ?_
  replace h := bnd h; obtain ⟨v2, hvv2, h⟩ := h
  refine WR.call0 fn142 rfl rfl rfl rfl (by exact trivial) rfl (joinS_con hw hvv2) ?_
  refine wr 1 rfl trivial ?_
  refine WR.nil (by kernel_rfl) (WQ.thenNormal (WC.ret ?_))
  cases h
  exact WQ.rets tbOk hR [] (.inl rfl) rfl rfl (Le.refl _) (by exact trivial) rfl rfl rfl rfl

theorem parseEntry_con {wg : World} (hw : WG wg) {line : Str} {r : ApiCodeEntry × Bool} (h : parseEntry line = some r) : Con Tryz.prog wg gl 102 [.v (.str line)] [] (.tup [.v (.agg [.str r.1.Code, .int .i64 r.1.From, .int .i64 r.1.To, .sl 1 (r.1.Terms.map eLStr), .bool r.1.Other]), .v (.bool r.2)]) [] := by
 unfold parseEntry at h
 refine con_of_WC (S := slotsOf 0 _) Tryz.func102 rfl Tryz.ntmps102 rfl (fun t x hx => (slotsOf_get hx).2) ?_
 intro F L w ρ0 R hR
 show WC _ _ _ ⟨[(0, .v (.str line))], []⟩ _ _
 refine WC.seq (WC.region ?_)
 refine lr 2 rfl trivial ?_
 refine WL.nil (WQ.thenNormal (WC.seq (WC.region ?_)))
 refine lr 1 rfl trivial ?_
 replace h := bnd h; obtain ⟨v, hvv, h⟩ := h
 refine WL.call0 fn145 rfl rfl rfl rfl (by exact trivial) rfl (splitS_con hw hvv) ?_
 refine lr 1 rfl trivial ?_
 refine WL.nil (WQ.thenNormal (WC.seq (WC.seq (WC.region ?_))))
 refine lr 1 rfl trivial ?_
 refine WL.q [] rfl rfl rfl (q_ev tbOk (.v (.int .i64 (v.length : Int))) rfl (by exact trivial) (by exact lenT)) ?_
 refine lr 1 rfl trivial ?_
 refine WL.nil (WQ.thenNormal ?_)
 refine WC.cond rfl (fun hc1 => ?_) (fun hc1 => ?_)
 ·replace h := ite_t hc1 h
  refine WC.seq (WC.region ?_)
  refine lr 3 rfl trivial ?_
  refine WL.nil (WQ.thenNormal (WC.ret (WQ.thenRet ?_)))
  cases h
  exact WQ.rets tbOk (r := .tup [.v (.agg [.str ((⟨[], 0, 0, [], false⟩ : ApiCodeEntry).Code), .int .i64 ((⟨[], 0, 0, [], false⟩ : ApiCodeEntry).From), .int .i64 ((⟨[], 0, 0, [], false⟩ : ApiCodeEntry).To), .sl 1 (((⟨[], 0, 0, [], false⟩ : ApiCodeEntry).Terms).map eLStr), .bool ((⟨[], 0, 0, [], false⟩ : ApiCodeEntry).Other)]), .v (.bool false)]) hR [] (.inl rfl) rfl rfl (Le.tup (.cons (Le.agg (.same (.same (.same (.sl 1 (.same .nil)))))) (.cons (Le.refl _) .nil))) (by exact trivial) rfl rfl rfl rfl
 ·replace h := ite_f hc1 h
  refine WC.skip (WQ.thenNormal (WC.seq (WC.region ?_)))
  refine lr 1 rfl trivial ?_
  replace h := bnd h; obtain ⟨x, hxx, h⟩ := h
  refine WL.q [] rfl rfl rfl (q_idx tbOk rfl (by exact trivial) (by decide) (map_get (f := eStr) hxx)) ?_
  refine lr 1 rfl trivial ?_
  replace h := bnd h; obtain ⟨v2, hvv2, h⟩ := h
  refine WL.call0 fn146 rfl rfl rfl rfl (by exact trivial) rfl (atoiS_con hw hvv2) ?_
  refine lr 5 rfl trivial ?_
  refine WL.nil (WQ.thenNormal (WC.seq (WC.seq (WC.region ?_))))
  refine lr 2 rfl trivial ?_
  refine WL.nil (WQ.thenNormal ?_)
  refine WC.cond rfl (fun hc2 => ?_) (fun hc2 => ?_)
  ·replace h := ite_t hc2 h
   refine WC.seq (WC.region ?_)
   refine lr 3 rfl trivial ?_
   refine WL.nil (WQ.thenNormal (WC.ret (WQ.thenRet ?_)))
   cases h
   exact WQ.rets tbOk (r := .tup [.v (.agg [.str ((⟨[], 0, 0, [], false⟩ : ApiCodeEntry).Code), .int .i64 ((⟨[], 0, 0, [], false⟩ : ApiCodeEntry).From), .int .i64 ((⟨[], 0, 0, [], false⟩ : ApiCodeEntry).To), .sl 1 (((⟨[], 0, 0, [], false⟩ : ApiCodeEntry).Terms).map eLStr), .bool ((⟨[], 0, 0, [], false⟩ : ApiCodeEntry).Other)]), .v (.bool false)]) hR [] (.inl rfl) rfl rfl (Le.tup (.cons (Le.agg (.same (.same (.same (.sl 1 (.same .nil)))))) (.cons (Le.refl _) .nil))) (by exact trivial) rfl rfl rfl rfl
  ·replace h := ite_f hc2 h
   refine WC.skip (WQ.thenNormal (WC.seq (WC.region ?_)))
   refine lr 1 rfl trivial ?_
   replace h := bnd h; obtain ⟨x2, hxx2, h⟩ := h
   refine WL.q [] rfl rfl rfl (q_idx tbOk rfl (by exact trivial) (by decide) (map_get (f := eStr) hxx2)) ?_
   refine lr 1 rfl trivial ?_
   replace h := bnd h; obtain ⟨v3, hvv3, h⟩ := h
   refine WL.call0 fn146 rfl rfl rfl rfl (by exact trivial) rfl (atoiS_con hw hvv3) ?_
   refine lr 5 rfl trivial ?_
   refine WL.nil (WQ.thenNormal (WC.seq (WC.seq (WC.region ?_))))
   refine lr 2 rfl trivial ?_
   refine WL.nil (WQ.thenNormal ?_)
   refine WC.cond rfl (fun hc3 => ?_) (fun hc3 => ?_)
   ·replace h := ite_t hc3 h
    refine WC.seq (WC.region ?_)
    refine lr 3 rfl trivial ?_
    refine WL.nil (WQ.thenNormal (WC.ret (WQ.thenRet ?_)))
    cases h
    exact WQ.rets tbOk (r := .tup [.v (.agg [.str ((⟨[], 0, 0, [], false⟩ : ApiCodeEntry).Code), .int .i64 ((⟨[], 0, 0, [], false⟩ : ApiCodeEntry).From), .int .i64 ((⟨[], 0, 0, [], false⟩ : ApiCodeEntry).To), .sl 1 (((⟨[], 0, 0, [], false⟩ : ApiCodeEntry).Terms).map eLStr), .bool ((⟨[], 0, 0, [], false⟩ : ApiCodeEntry).Other)]), .v (.bool false)]) hR [] (.inl rfl) rfl rfl (Le.tup (.cons (Le.agg (.same (.same (.same (.sl 1 (.same .nil)))))) (.cons (Le.refl _) .nil))) (by exact trivial) rfl rfl rfl rfl
   ·replace h := ite_f hc3 h
    refine WC.skip (WQ.thenNormal (WC.seq (WC.region ?_)))
    refine lr 1 rfl trivial ?_
    replace h := bnd h; obtain ⟨x3, hxx3, h⟩ := h
    refine WL.q [] rfl rfl rfl (q_idx tbOk rfl (by exact trivial) (by decide) (map_get (f := eStr) hxx3)) ?_
    refine lr 6 rfl trivial ?_
    refine WL.nil (WQ.thenNormal (WC.seq (WC.seq (WC.region ?_))))
    refine lr 1 rfl trivial ?_
    obtain ⟨g1, h⟩ := grd h
    refine WL.q [] rfl rfl rfl (q_ev tbOk (.v (.sl 1 ((v.drop (3 : Int).toNat).map eStr))) rfl (by exact sideR) (by exact tdT)) ?_
    refine WL.q [] rfl rfl rfl (q_ev tbOk (.v (.int .i64 ((v.drop (3 : Int).toNat).length : Int))) rfl (by exact trivial) (by exact lenT)) ?_
    refine lr 1 rfl trivial ?_
    refine WL.nil (WQ.thenNormal ?_)
    refine WC.thenCut (X := (List (List Str)) × Bool) (fun gG => ⟨[(8, .p 8 0), (2, .p 2 0), (0, .v (.str line))], [(2403, .row 31 1 (gG.1.map eLStr)), (8, .blk 54 [.v (.str x3), .v (.int .i64 v2.1), .v (.int .i64 v3.1), .r 2403, .v (.bool gG.2)]), (2, .blk 54 [.v (.str []), .v (.int .i64 0), .v (.int .i64 0), .v (.raw (.slice none 0 0)), .v (.bool false)])]⟩) (fun gG => parseEntry_j1 line v2 v3 x3 gG.1 gG.2 = some r) ?_ ?_
    ·refine WC.block ?_
     obtain ⟨eQ1, hl1, hk1⟩ := bnd h
     clear h
     refine WC.rowNilB 8 3 2403 31 1 rfl rfl rfl (cs2 := [.v (.str x3), .v (.int .i64 v2.1), .v (.int .i64 v3.1), .r 2403, .v (.bool false)]) rfl ?_
     refine WC.loop (σ := Int × (List (List Str)) × Bool) (τ := ((List (List Str)) × Bool)) (fun sS => ⟨[(46, .v (.int .i64 sS.1)), (45, .v (.int .i64 ((v.drop (3 : Int).toNat).length : Int))), (44, .v (.sl 1 ((v.drop (3 : Int).toNat).map eStr))), (8, .p 8 0), (2, .p 2 0), (0, .v (.str line))], [(2403, .row 31 1 (sS.2.1.map eLStr)), (8, .blk 54 [.v (.str x3), .v (.int .i64 v2.1), .v (.int .i64 v3.1), .r 2403, .v (.bool sS.2.2)]), (2, .blk 54 [.v (.str []), .v (.int .i64 0), .v (.int .i64 0), .v (.raw (.slice none 0 0)), .v (.bool false)])]⟩) (parseEntry_b1 line v v2 v3 x3) [] ((0 : Int), [], false) hl1 ⟨(by exact ⟨rfl, rfl, rfl, rfl, rfl, rfl, trivial⟩), (by exact ⟨rfl, rfl, rfl, trivial⟩), rfl, rfl, rfl, rfl⟩ ?_
     rintro ⟨t462, c8_33, c8_44⟩ m hn1 he1 hx1
     obtain ⟨o1, hf1⟩ := some_of hx1
     have h := hf1
     unfold parseEntry_b1 at h
     show WC _ _ _ ⟨[(46, .v (.int .i64 t462)), (45, .v (.int .i64 ((v.drop (3 : Int).toNat).length : Int))), (44, .v (.sl 1 ((v.drop (3 : Int).toNat).map eStr))), (8, .p 8 0), (2, .p 2 0), (0, .v (.str line))], [(2403, .row 31 1 (c8_33.map eLStr)), (8, .blk 54 [.v (.str x3), .v (.int .i64 v2.1), .v (.int .i64 v3.1), .r 2403, .v (.bool c8_44)]), (2, .blk 54 [.v (.str []), .v (.int .i64 0), .v (.int .i64 0), .v (.raw (.slice none 0 0)), .v (.bool false)])]⟩ _ _
     refine WC.seq (WC.region ?_)
     refine lr 1 rfl trivial ?_
     refine WL.nil (WQ.thenNormal (WC.seq ?_))
     refine WC.cond rfl (fun hc4 => ?_) (fun hc4 => ?_)
     ·replace h := ite_t hc4 h
      refine WC.skip (WQ.thenNormal (WC.seq ?_))
      refine WC.thenCut (X := (List (List Str)) × Bool) (fun gG => ⟨[(46, .v (.int .i64 t462)), (45, .v (.int .i64 ((v.drop (3 : Int).toNat).length : Int))), (44, .v (.sl 1 ((v.drop (3 : Int).toNat).map eStr))), (8, .p 8 0), (2, .p 2 0), (0, .v (.str line))], [(2403, .row 31 1 (gG.1.map eLStr)), (8, .blk 54 [.v (.str x3), .v (.int .i64 v2.1), .v (.int .i64 v3.1), .r 2403, .v (.bool gG.2)]), (2, .blk 54 [.v (.str []), .v (.int .i64 0), .v (.int .i64 0), .v (.raw (.slice none 0 0)), .v (.bool false)])]⟩) (fun gG => parseEntry_j2 line v v2 v3 x3 t462 gG.1 gG.2 = some o1) ?_ ?_
      ·refine WC.block (WC.seq (WC.region ?_))
       obtain ⟨g2, h⟩ := grd h
       replace h := bnd h; obtain ⟨x6, hxx6, h⟩ := h
       refine WL.q [] rfl rfl rfl (q_idx tbOk rfl (by exact trivial) g2 (map_get (f := eStr) hxx6)) ?_
       refine lr 2 rfl trivial ?_
       refine WL.nil (WQ.thenNormal (WC.seq (WC.region ?_)))
       refine lr 2 rfl trivial ?_
       refine WL.nil (WQ.thenNormal ?_)
       refine WC.cond rfl (fun hc5 => ?_) (fun hc5 => ?_)
       ·replace h := ite_t hc5 h
        refine WC.region ?_
        refine lr 2 rfl trivial ?_
        refine WL.nil (WQ.blockNormal ?_)
        exact WQ.cut [] (c8_33, true) ⟨(by exact ⟨rfl, rfl, rfl, rfl, rfl, rfl, trivial⟩), (by exact ⟨rfl, rfl, rfl, trivial⟩), rfl, rfl, rfl, rfl⟩ h
       ·replace h := ite_f hc5 h
        refine WC.order mixed ?_
        refine wr 3 rfl trivial ?_
        replace h := bnd h; obtain ⟨v8, hvv8, h⟩ := h
        refine WR.call0 fn145 rfl rfl rfl rfl (by exact trivial) rfl (splitS_con hw hvv8) ?_
        refine wr 1 rfl trivial ?_
        obtain ⟨g3, h⟩ := grd h
        refine WR.append tbOk ((c8_33 ++ [v8]).map eLStr) [58, 2403] ap52 rfl rfl rfl rfl (fun _ e => by cases e; rfl) (by exact trivial) (map_cells (f := eLStr) (xs := [v8]) fun _ => rfl) (by have := g3; simp only [List.length_map, List.length_nil, List.length_cons] at this ⊢; omega) rfl rfl (by simp only [List.map_append]; try rfl) rfl rfl ?_
        refine wr 2 rfl trivial ?_
        refine WR.nil (by kernel_rfl) (WQ.blockNormal ?_)
        exact WQ.cut [(2403, 58)] ((c8_33 ++ [v8]), c8_44) ⟨(by exact ⟨rfl, rfl, rfl, rfl, rfl, rfl, trivial⟩), (by exact ⟨rfl, rfl, rfl, trivial⟩), rfl, rfl, rfl, rfl⟩ h
      ·rintro ⟨c8_36, c8_47⟩ h
       replace h : parseEntry_j2 line v v2 v3 x3 t462 c8_36 c8_47 = some _ := h
       unfold parseEntry_j2 at h
       show WC _ _ _ ⟨[(46, .v (.int .i64 t462)), (45, .v (.int .i64 ((v.drop (3 : Int).toNat).length : Int))), (44, .v (.sl 1 ((v.drop (3 : Int).toNat).map eStr))), (8, .p 8 0), (2, .p 2 0), (0, .v (.str line))], [(2403, .row 31 1 (c8_36.map eLStr)), (8, .blk 54 [.v (.str x3), .v (.int .i64 v2.1), .v (.int .i64 v3.1), .r 2403, .v (.bool c8_47)]), (2, .blk 54 [.v (.str []), .v (.int .i64 0), .v (.int .i64 0), .v (.raw (.slice none 0 0)), .v (.bool false)])]⟩ _ _
       refine WC.region ?_
       refine lr 2 rfl trivial ?_
       refine WL.nil ?_
       cases h
       exact WQ.next [] ((IntKind.i64.wrap (t462 + (1 : Int))), c8_36, c8_47) ⟨(by exact ⟨rfl, rfl, rfl, rfl, rfl, rfl, trivial⟩), (by exact ⟨rfl, rfl, rfl, trivial⟩), rfl, rfl, rfl, rfl⟩ (hn1 _ hf1)
     ·replace h := ite_f hc4 h
      refine WC.exit (WQ.thenExit ?_)
      cases h
      have he := he1 _ hf1
      subst he
      replace h := hk1
      try dsimp only at h
      refine WQ.thenExit (WQ.blockExit ?_)
      exact WQ.cut [] (c8_33, c8_44) ⟨(by exact ⟨rfl, rfl, rfl, trivial⟩), (by exact ⟨rfl, rfl, rfl, trivial⟩), rfl, rfl, rfl, rfl⟩ h
    ·rintro ⟨c8_3, c8_4⟩ h
     replace h : parseEntry_j1 line v2 v3 x3 c8_3 c8_4 = some _ := h
     unfold parseEntry_j1 at h
     show WC _ _ _ ⟨[(8, .p 8 0), (2, .p 2 0), (0, .v (.str line))], [(2403, .row 31 1 (c8_3.map eLStr)), (8, .blk 54 [.v (.str x3), .v (.int .i64 v2.1), .v (.int .i64 v3.1), .r 2403, .v (.bool c8_4)]), (2, .blk 54 [.v (.str []), .v (.int .i64 0), .v (.int .i64 0), .v (.raw (.slice none 0 0)), .v (.bool false)])]⟩ _ _
     refine WC.seq ?_
     refine WC.publish 2403 rfl rfl ?_
     refine WC.order mixed ?_
     refine wr 2 rfl trivial ?_
     replace h := bnd h; obtain ⟨v4, hvv4, h⟩ := h
     refine WR.call0 fn87 rfl rfl rfl rfl (by exact trivial) rfl (validateEntry_con hw hvv4) ?_
     refine wr 3 rfl (by exact sideR) ?_
     replace h := bnd h; obtain ⟨v5, hvv5, h⟩ := h
     refine WR.gcall0 fn92 rfl rfl rfl rfl rfl (fun _ => (by exact sideR)) rfl (fun hg => (entryLine_con hw (ite_t hg hvv5))) ?_
     refine wr 5 rfl (by exact sideR) ?_
     refine WR.nil (by kernel_rfl) (WQ.thenNormal (WC.ret ?_))
     cases h
     exact WQ.rets tbOk (r := .tup [.v (.agg [.str ((⟨x3, v2.1, v3.1, c8_3, c8_4⟩ : ApiCodeEntry).Code), .int .i64 ((⟨x3, v2.1, v3.1, c8_3, c8_4⟩ : ApiCodeEntry).From), .int .i64 ((⟨x3, v2.1, v3.1, c8_3, c8_4⟩ : ApiCodeEntry).To), .sl 1 (((⟨x3, v2.1, v3.1, c8_3, c8_4⟩ : ApiCodeEntry).Terms).map eLStr), .bool ((⟨x3, v2.1, v3.1, c8_3, c8_4⟩ : ApiCodeEntry).Other)]), .v (.bool (bif (v4 == (0 : Int)) then (v5 == line) else false))]) hR [] (.inl rfl) rfl rfl (Le.tup (.cons (Le.refl _) (.cons (Le.refl _) .nil))) (by exact trivial) rfl rfl rfl rfl

theorem parseNote_con {wg : World} (hw : WG wg) {line : Str} {r : ApiCodeNote × Bool} (h : parseNote line = some r) : Con Tryz.prog wg gl 101 [.v (.str line)] [] (.tup [.v (.agg [.str r.1.Scope, .sl 1 (r.1.Words.map eStr), .str r.1.Target]), .v (.bool r.2)]) [] := by
 unfold parseNote at h
 refine con_of_WC (S := slotsOf 0 _) Tryz.func101 rfl Tryz.ntmps101 rfl (fun t x hx => (slotsOf_get hx).2) ?_
 intro F L w ρ0 R hR
 show WC _ _ _ ⟨[(0, .v (.str line))], []⟩ _ _
 refine WC.seq (WC.region ?_)
 refine lr 2 rfl trivial ?_
 refine WL.nil (WQ.thenNormal (WC.seq (WC.region ?_)))
 refine lr 1 rfl trivial ?_
 replace h := bnd h; obtain ⟨v, hvv, h⟩ := h
 refine WL.call0 fn145 rfl rfl rfl rfl (by exact trivial) rfl (splitS_con hw hvv) ?_
 refine lr 1 rfl trivial ?_
 refine WL.nil (WQ.thenNormal (WC.seq (WC.seq (WC.region ?_))))
 refine lr 1 rfl trivial ?_
 refine WL.q [] rfl rfl rfl (q_ev tbOk (.v (.int .i64 (v.length : Int))) rfl (by exact trivial) (by exact lenT)) ?_
 refine lr 1 rfl trivial ?_
 refine WL.nil (WQ.thenNormal ?_)
 refine WC.cond rfl (fun hc1 => ?_) (fun hc1 => ?_)
 ·replace h := ite_t hc1 h
  refine WC.seq (WC.region ?_)
  refine lr 3 rfl trivial ?_
  refine WL.nil (WQ.thenNormal (WC.ret (WQ.thenRet ?_)))
  cases h
  exact WQ.rets tbOk (r := .tup [.v (.agg [.str ((⟨[], [], []⟩ : ApiCodeNote).Scope), .sl 1 (((⟨[], [], []⟩ : ApiCodeNote).Words).map eStr), .str ((⟨[], [], []⟩ : ApiCodeNote).Target)]), .v (.bool false)]) hR [] (.inl rfl) rfl rfl (Le.tup (.cons (Le.agg (.same (.sl 1 (.same .nil)))) (.cons (Le.refl _) .nil))) (by exact trivial) rfl rfl rfl rfl
 ·replace h := ite_f hc1 h
  refine WC.skip (WQ.thenNormal (WC.seq (WC.order mixed ?_)))
  refine wr 1 rfl trivial ?_
  replace h := bnd h; obtain ⟨x, hxx, h⟩ := h
  refine WR.q [] rfl rfl rfl (q_idx tbOk rfl (by exact trivial) (by decide) (map_get (f := eStr) hxx)) ?_
  refine wr 2 rfl trivial ?_
  replace h := bnd h; obtain ⟨x2, hxx2, h⟩ := h
  refine WR.q [] rfl rfl rfl (q_idx tbOk rfl (by exact trivial) (by decide) (map_get (f := eStr) hxx2)) ?_
  refine wr 1 rfl trivial ?_
  replace h := bnd h; obtain ⟨v2, hvv2, h⟩ := h
  refine WR.call0 fn145 rfl rfl rfl rfl (by exact trivial) rfl (splitS_con hw hvv2) ?_
  refine wr 1 rfl trivial ?_
  replace h := bnd h; obtain ⟨x3, hxx3, h⟩ := h
  refine WR.q [] rfl rfl rfl (q_idx tbOk rfl (by exact trivial) (by decide) (map_get (f := eStr) hxx3)) ?_
  refine wr 4 rfl trivial ?_
  refine WR.nil (by kernel_rfl) (WQ.thenNormal (WC.seq (WC.seq (WC.region ?_))))
  refine lr 3 rfl trivial ?_
  refine WL.nil (WQ.thenNormal ?_)
  refine WC.thenCut (X := Str) (fun gG => ⟨[(5, .p 5 0), (2, .p 2 0), (0, .v (.str line))], [(2, .blk 77 [.v (.str []), .v (.raw (.slice none 0 0)), .v (.str [])]), (5, .blk 77 [.v (.str x), .v (.sl 1 (v2.map eStr)), .v (.str gG)])]⟩) (fun gG => parseNote_j1 line x v2 gG = some r) ?_ ?_
  ·refine WC.cond rfl (fun hc2 => ?_) (fun hc2 => ?_)
   ·replace h := ite_t hc2 h
    refine WC.region ?_
    refine lr 2 rfl trivial ?_
    refine WL.nil ?_
    exact WQ.cut [] ([] : Str) ⟨(by exact ⟨rfl, rfl, rfl, trivial⟩), (by exact ⟨rfl, rfl, trivial⟩), rfl, rfl, rfl, rfl⟩ h
   ·replace h := ite_f hc2 h
    refine WC.skip ?_
    exact WQ.cut [] x3 ⟨(by exact ⟨rfl, rfl, rfl, trivial⟩), (by exact ⟨rfl, rfl, trivial⟩), rfl, rfl, rfl, rfl⟩ h
  ·intro c5_2 h
   replace h : parseNote_j1 line x v2 c5_2 = some _ := h
   unfold parseNote_j1 at h
   show WC _ _ _ ⟨[(5, .p 5 0), (2, .p 2 0), (0, .v (.str line))], [(2, .blk 77 [.v (.str []), .v (.raw (.slice none 0 0)), .v (.str [])]), (5, .blk 77 [.v (.str x), .v (.sl 1 (v2.map eStr)), .v (.str c5_2)])]⟩ _ _
   refine WC.seq (WC.order mixed ?_)
   refine wr 2 rfl trivial ?_
   replace h := bnd h; obtain ⟨v3, hvv3, h⟩ := h
   refine WR.call0 fn90 rfl rfl rfl rfl (by exact trivial) rfl (validateNote_con hw hvv3) ?_
   refine wr 3 rfl (by exact sideR) ?_
   replace h := bnd h; obtain ⟨v4, hvv4, h⟩ := h
   refine WR.gcall0 fn93 rfl rfl rfl rfl rfl (fun _ => (by exact sideR)) rfl (fun hg => (noteLine_con hw (ite_t hg hvv4))) ?_
   refine wr 5 rfl (by exact sideR) ?_
   refine WR.nil (by kernel_rfl) (WQ.thenNormal (WC.ret ?_))
   cases h
   exact WQ.rets tbOk (r := .tup [.v (.agg [.str ((⟨x, v2, c5_2⟩ : ApiCodeNote).Scope), .sl 1 (((⟨x, v2, c5_2⟩ : ApiCodeNote).Words).map eStr), .str ((⟨x, v2, c5_2⟩ : ApiCodeNote).Target)]), .v (.bool (bif (v3 == (0 : Int)) then (v4 == line) else false))]) hR [] (.inl rfl) rfl rfl (Le.tup (.cons (Le.refl _) (.cons (Le.refl _) .nil))) (by exact trivial) rfl rfl rfl rfl

theorem addLine_con {wg : World} (hw : WG wg) {b : ApiNomenclature} {line : Str} {r : Bool × ApiNomenclature} (h : addLine b line = some r) : Con Tryz.prog wg gl 50 [.p 0 0, .v (.str line)] [(600, .row 54 5 (b.Entries.map eApiCodeEntry)), (601, .row 77 3 (b.Notes.map eApiCodeNote)), (0, .blk 28 [.r 600, .r 601])] (.v (.bool r.1)) [(0, .blk 28 [.r 650, .r 651]), (600, .dead), (650, .row 54 5 (r.2.Entries.map eApiCodeEntry)), (601, .dead), (651, .row 77 3 (r.2.Notes.map eApiCodeNote))] := by
 unfold addLine at h
 refine con_of_WC (S := slotsOf 0 _) Tryz.func50 rfl Tryz.ntmps50 rfl (fun t x hx => (slotsOf_get hx).2) ?_
 intro F L w ρ0 R hR
 show WC _ _ _ ⟨[(0, .p 0 0), (1, .v (.str line))], [(600, .row 54 5 (b.Entries.map eApiCodeEntry)), (601, .row 77 3 (b.Notes.map eApiCodeNote)), (0, .blk 28 [.r 600, .r 601])]⟩ _ _
 refine WC.seq (WC.region ?_)
 refine lr 1 rfl trivial ?_
 refine WL.nil (WQ.thenNormal (WC.seq (WC.seq (WC.region ?_))))
 refine lr 1 rfl trivial ?_
 replace h := bnd h; obtain ⟨v, hvv, h⟩ := h
 refine WL.call0 fn101 rfl rfl rfl rfl (by exact trivial) rfl (parseNote_con hw hvv) ?_
 refine lr 6 rfl trivial ?_
 refine WL.nil (WQ.thenNormal (WC.seq (WC.region ?_)))
 refine lr 1 rfl trivial ?_
 refine WL.nil (WQ.thenNormal ?_)
 refine WC.cond rfl (fun hc1 => ?_) (fun hc1 => ?_)
 ·replace h := ite_t hc1 h
  refine WC.seq (WC.order mixed ?_)
  refine wr 7 rfl trivial ?_
  obtain ⟨g1, h⟩ := grd h
  refine WR.append tbOk ((b.Notes ++ [v.1]).map eApiCodeNote) [22, 601] ap26 rfl rfl rfl rfl (fun _ e => by cases e; rfl) (by exact trivial) (map_cells (f := eApiCodeNote) (xs := [v.1]) fun _ => rfl) (by have := g1; simp only [List.length_map, List.length_nil, List.length_cons] at this ⊢; omega) rfl rfl (by simp only [List.map_append]; try rfl) rfl rfl ?_
  refine wr 3 rfl trivial ?_
  refine WR.nil (by kernel_rfl) (WQ.thenNormal (WC.seq (WC.region ?_)))
  refine lr 1 rfl trivial ?_
  refine WL.nil (WQ.thenNormal (WC.ret (WQ.thenRet ?_)))
  cases h
  exact WQ.rets tbOk hR [(650, 600), (651, 22)] (.inl rfl) rfl rfl (Le.refl _) (by exact ⟨rfl, rfl, rfl, rfl, rfl, trivial⟩) rfl rfl rfl rfl
 ·replace h := ite_f hc1 h
  refine WC.skip (WQ.thenNormal (WC.seq (WC.region ?_)))
  refine lr 1 rfl trivial ?_
  replace h := bnd h; obtain ⟨v2, hvv2, h⟩ := h
  refine WL.call0 fn102 rfl rfl rfl rfl (by exact trivial) rfl (parseEntry_con hw hvv2) ?_
  refine lr 6 rfl trivial ?_
  refine WL.nil (WQ.thenNormal (WC.seq (WC.seq (WC.region ?_))))
  refine lr 7 rfl (by exact sideR) ?_
  refine WL.gq [601] rfl rfl rfl rfl (fun hg => q_ev tbOk (.v (.int .i64 (b.Notes.length : Int))) rfl (by exact sideR) (by exact lenT)) ?_
  refine lr 2 rfl (by exact sideR) ?_
  refine WL.nil (WQ.thenNormal ?_)
  refine WC.cond rfl (fun hc2 => ?_) (fun hc2 => ?_)
  ·replace h := ite_t hc2 h
   refine WC.seq (WC.region ?_)
   refine lr 1 rfl trivial ?_
   refine WL.nil (WQ.thenNormal (WC.ret (WQ.thenRet ?_)))
   cases h
   exact WQ.rets tbOk hR [(650, 600), (651, 601)] (.inl rfl) rfl rfl (Le.refl _) (by exact ⟨rfl, rfl, rfl, rfl, rfl, trivial⟩) rfl rfl rfl rfl
  ·replace h := ite_f hc2 h
   refine WC.skip (WQ.thenNormal (WC.seq (WC.order mixed ?_)))
   refine wr 7 rfl trivial ?_
   obtain ⟨g2, h⟩ := grd h
   refine WR.append tbOk ((b.Entries ++ [v2.1]).map eApiCodeEntry) [47, 600] ap25 rfl rfl rfl rfl (fun _ e => by cases e; rfl) (by exact trivial) (map_cells (f := eApiCodeEntry) (xs := [v2.1]) fun _ => rfl) (by have := g2; simp only [List.length_map, List.length_nil, List.length_cons] at this ⊢; omega) rfl rfl (by simp only [List.map_append]; try rfl) rfl rfl ?_
   refine wr 3 rfl trivial ?_
   refine WR.nil (by kernel_rfl) (WQ.thenNormal (WC.seq (WC.region ?_)))
   refine lr 1 rfl trivial ?_
   refine WL.nil (WQ.thenNormal (WC.ret ?_))
   cases h
   exact WQ.rets tbOk hR [(650, 47), (651, 601)] (.inl rfl) rfl rfl (Le.refl _) (by exact ⟨rfl, rfl, rfl, rfl, rfl, trivial⟩) rfl rfl rfl rfl

theorem nomParse_con {wg : World} (hw : WG wg) {s : Str} {r : ApiNomenclature × Int × Int} (h : nomParse s = some r) : Con Tryz.prog wg gl 17 [.v (.str s)] [] (.tup [.v (.agg [.sl 5 (r.1.Entries.map eApiCodeEntry), .sl 3 (r.1.Notes.map eApiCodeNote)]), .v (.int .i64 r.2.1), .v (.int .i64 r.2.2)]) [] := by
 unfold nomParse at h
 refine con_of_WC (S := slotsOf 0 _) Tryz.func17 rfl Tryz.ntmps17 rfl (fun t x hx => (slotsOf_get hx).2) ?_
 intro F L w ρ0 R hR
 show WC _ _ _ ⟨[(0, .v (.str s))], []⟩ _ _
 refine WC.seq (WC.region ?_)
 refine lr 3 rfl trivial ?_
 refine WL.nil (WQ.thenNormal (WC.seq (WC.region ?_)))
 refine lr 1 rfl trivial ?_
 refine WL.nil (WQ.thenNormal (WC.seq (WC.region ?_)))
 refine lr 1 rfl trivial ?_
 refine WL.nil (WQ.thenNormal (WC.seq ?_))
 refine WC.thenCut (X := Int × (List ApiCodeEntry) × (List ApiCodeNote)) (fun gG => ⟨[(6, .v (.int .i64 gG.1)), (5, .p 5 0), (2, .p 2 0)], [(2, .blk 28 [.v (.raw (.slice none 0 0)), .v (.raw (.slice none 0 0))]), (2250, .row 54 5 (gG.2.1.map eApiCodeEntry)), (2251, .row 77 3 (gG.2.2.map eApiCodeNote)), (5, .blk 28 [.r 2250, .r 2251])]⟩) (fun gG => nomParse_j1 gG.1 gG.2.1 gG.2.2 = some r) ?_ ?_
 ·refine WC.block ?_
  obtain ⟨eQ1, hl1, hk1⟩ := bnd h
  clear h
  refine WC.rowNilB 5 0 2250 54 5 rfl rfl rfl (cs2 := [.r 2250, .v (.raw (.slice none 0 0))]) rfl ?_
  refine WC.rowNilB 5 1 2251 77 3 rfl rfl rfl (cs2 := [.r 2250, .r 2251]) rfl ?_
  refine WC.loop (σ := Int × Str × (List ApiCodeEntry) × (List ApiCodeNote)) (τ := ((ApiNomenclature × Int × Int) ⊕ (Int × (List ApiCodeEntry) × (List ApiCodeNote)))) (fun sS => ⟨[(6, .v (.int .i64 sS.1)), (5, .p 5 0), (2, .p 2 0), (0, .v (.str sS.2.1))], [(2, .blk 28 [.v (.raw (.slice none 0 0)), .v (.raw (.slice none 0 0))]), (2250, .row 54 5 (sS.2.2.1.map eApiCodeEntry)), (2251, .row 77 3 (sS.2.2.2.map eApiCodeNote)), (5, .blk 28 [.r 2250, .r 2251])]⟩) (nomParse_b1) [] ((0 : Int), s, [], []) hl1 ⟨(by exact ⟨rfl, rfl, rfl, rfl, trivial⟩), (by exact ⟨rfl, rfl, rfl, rfl, trivial⟩), rfl, rfl, rfl, rfl⟩ ?_
  rintro ⟨lines3, s3, c5_02, c5_12⟩ m hn1 he1 hx1
  obtain ⟨o1, hf1⟩ := some_of hx1
  have h := hf1
  unfold nomParse_b1 at h
  show WC _ _ _ ⟨[(6, .v (.int .i64 lines3)), (5, .p 5 0), (2, .p 2 0), (0, .v (.str s3))], [(2, .blk 28 [.v (.raw (.slice none 0 0)), .v (.raw (.slice none 0 0))]), (2250, .row 54 5 (c5_02.map eApiCodeEntry)), (2251, .row 77 3 (c5_12.map eApiCodeNote)), (5, .blk 28 [.r 2250, .r 2251])]⟩ _ _
  refine WC.seq (WC.seq (WC.region ?_))
  refine lr 2 rfl trivial ?_
  refine WL.nil (WQ.thenNormal ?_)
  refine WC.cond rfl (fun hc2 => ?_) (fun hc2 => ?_)
  ·replace h := ite_t hc2 h
   refine WC.skip (WQ.thenNormal (WC.block (WC.seq (WC.region ?_))))
   refine lr 1 rfl trivial ?_
   replace h := bnd h; obtain ⟨v6, hvv6, h⟩ := h
   refine WL.call0 fn49 rfl rfl rfl rfl (by exact trivial) rfl (cutS_con hw hvv6) ?_
   refine lr 7 rfl trivial ?_
   refine WL.nil (WQ.thenNormal (WC.seq (WC.seq ?_)))
   by_cases hk1 : (!(!v6.2.2)) = true
   ·replace h := ifp hk1 h
    refine WC.region ?_
    refine lr 3 rfl trivial ?_
    refine WL.ungd rfl rfl hk1 ?_
    refine lr 1 rfl trivial ?_
    refine WL.ungd rfl rfl hk1 ?_
    replace h := bnd h; obtain ⟨v7, hvv7, h⟩ := h
    refine WL.callO [(0, 5), (600, 2250), (601, 2251)] [(0, 5), (600, 2250), (601, 2251), (650, 7150), (651, 7151)] [5, 2250, 2251, 7150, 7151] fn50 rfl rfl rfl rfl (by exact trivial) (addLine_con hw hvv7) rfl rfl (by exact ⟨rfl, rfl, rfl, trivial⟩) rfl rfl rfl rfl rfl rfl ?_
    refine WL.ungd rfl rfl hk1 ?_
    refine lr 2 rfl (by exact sideR) ?_
    refine WL.nil (WQ.thenNormal ?_)
    refine WC.cond rfl (fun hc3 => ?_) (fun hc3 => ?_)
    ·replace h := ite_t hc3 h
     refine WC.seq (WC.region ?_)
     refine lr 5 rfl trivial ?_
     refine WL.nil (WQ.thenNormal (WC.ret (WQ.thenRet (WQ.blockRet ?_))))
     cases h
     have he := he1 _ hf1
     subst he
     have h : some ((⟨[], []⟩ : ApiNomenclature), lines3, (4 : Int)) = some _ := hk1
     refine WQ.thenRet (WQ.blockRet (WQ.thenRet ?_))
     cases h
     exact WQ.rets tbOk (r := .tup [.v (.agg [.sl 5 (((⟨[], []⟩ : ApiNomenclature).Entries).map eApiCodeEntry), .sl 3 (((⟨[], []⟩ : ApiNomenclature).Notes).map eApiCodeNote)]), .v (.int .i64 lines3), .v (.int .i64 (4 : Int))]) hR [] (.inl rfl) rfl rfl (Le.tup (.cons (Le.agg (.sl 5 (.sl 3 .nil))) (.cons (Le.refl _) (.cons (Le.refl _) .nil)))) (by exact trivial) rfl rfl rfl rfl
    ·replace h := ite_f hc3 h
     refine WC.skip (WQ.thenNormal (WC.seq (WC.region ?_)))
     refine lr 2 rfl trivial ?_
     refine WL.nil (WQ.thenNormal (WC.region ?_))
     refine lr 3 rfl trivial ?_
     refine WL.nil (WQ.blockNormal ?_)
     cases h
     exact WQ.next [(2250, 7150), (2251, 7151)] ((IntKind.i64.wrap (lines3 + (1 : Int))), v6.2.1, v7.2.Entries, v7.2.Notes) ⟨(by exact ⟨rfl, rfl, rfl, rfl, trivial⟩), (by exact ⟨rfl, rfl, rfl, rfl, trivial⟩), rfl, rfl, rfl, rfl⟩ (hn1 _ hf1)
   ·replace h := ifn hk1 h
    refine WC.region ?_
    refine lr 3 rfl trivial ?_
    refine WL.skipg (.v (.raw (.nilIface))) rfl rfl rfl rfl (Bool.eq_false_iff.2 hk1) ?_
    refine WL.skipg (.v (.bool false)) rfl rfl rfl rfl (Bool.eq_false_iff.2 hk1) ?_
    refine WL.skipg (.v (.bool false)) rfl rfl rfl rfl (Bool.eq_false_iff.2 hk1) ?_
    refine lr 1 rfl (by repeat' (first | exact trivial | assumption | intro _ | (exact absurd (by assumption) hk1) | (exfalso; simp_all; done) | apply And.intro | exact sideT | (refine and_i ?_ ?_))) ?_
    refine WL.nil (WQ.thenNormal ?_)
    refine WC.cond rfl (fun hc4 => ?_) (fun hc4 => ?_)
    ·replace h := ite_t hc4 h
     refine WC.seq (WC.region ?_)
     refine lr 5 rfl trivial ?_
     refine WL.nil (WQ.thenNormal (WC.ret (WQ.thenRet (WQ.blockRet ?_))))
     cases h
     have he := he1 _ hf1
     subst he
     have h : some ((⟨[], []⟩ : ApiNomenclature), lines3, (4 : Int)) = some _ := hk1
     refine WQ.thenRet (WQ.blockRet (WQ.thenRet ?_))
     cases h
     exact WQ.rets tbOk (r := .tup [.v (.agg [.sl 5 (((⟨[], []⟩ : ApiNomenclature).Entries).map eApiCodeEntry), .sl 3 (((⟨[], []⟩ : ApiNomenclature).Notes).map eApiCodeNote)]), .v (.int .i64 lines3), .v (.int .i64 (4 : Int))]) hR [] (.inl rfl) rfl rfl (Le.tup (.cons (Le.agg (.sl 5 (.sl 3 .nil))) (.cons (Le.refl _) (.cons (Le.refl _) .nil)))) (by exact trivial) rfl rfl rfl rfl
    ·replace h := ite_f hc4 h
     refine WC.skip (WQ.thenNormal (WC.seq (WC.region ?_)))
     refine lr 2 rfl trivial ?_
     refine WL.nil (WQ.thenNormal (WC.region ?_))
     refine lr 3 rfl trivial ?_
     refine WL.nil (WQ.blockNormal ?_)
     cases h
     exact WQ.next [] ((IntKind.i64.wrap (lines3 + (1 : Int))), v6.2.1, c5_02, c5_12) ⟨(by exact ⟨rfl, rfl, rfl, rfl, trivial⟩), (by exact ⟨rfl, rfl, rfl, rfl, trivial⟩), rfl, rfl, rfl, rfl⟩ (hn1 _ hf1)
  ·replace h := ite_f hc2 h
   refine WC.exit (WQ.thenExit ?_)
   cases h
   have he := he1 _ hf1
   subst he
   replace h := hk1
   try dsimp only at h
   refine WQ.thenExit (WQ.blockExit ?_)
   exact WQ.cut [] (lines3, c5_02, c5_12) ⟨(by exact ⟨rfl, rfl, rfl, trivial⟩), (by exact ⟨rfl, rfl, rfl, rfl, trivial⟩), rfl, rfl, rfl, rfl⟩ h
 ·rintro ⟨lines, c5_0, c5_1⟩ h
  replace h : nomParse_j1 lines c5_0 c5_1 = some _ := h
  unfold nomParse_j1 at h
  show WC _ _ _ ⟨[(6, .v (.int .i64 lines)), (5, .p 5 0), (2, .p 2 0)], [(2, .blk 28 [.v (.raw (.slice none 0 0)), .v (.raw (.slice none 0 0))]), (2250, .row 54 5 (c5_0.map eApiCodeEntry)), (2251, .row 77 3 (c5_1.map eApiCodeNote)), (5, .blk 28 [.r 2250, .r 2251])]⟩ _ _
  refine WC.seq (WC.seq ?_)
  refine WC.publish 2250 rfl rfl ?_
  refine WC.publish 2251 rfl rfl ?_
  refine WC.region ?_
  refine lr 1 rfl trivial ?_
  replace h := bnd h; obtain ⟨v, hvv, h⟩ := h
  refine WL.call0 fn36 rfl rfl rfl rfl (by exact trivial) rfl (nomValidate_con hw hvv) ?_
  refine lr 1 rfl trivial ?_
  refine WL.nil (WQ.thenNormal (WC.seq (WC.region ?_)))
  refine lr 2 rfl trivial ?_
  refine WL.nil (WQ.thenNormal ?_)
  refine WC.cond rfl (fun hc1 => ?_) (fun hc1 => ?_)
  ·replace h := ite_t hc1 h
   refine WC.seq (WC.region ?_)
   refine lr 5 rfl trivial ?_
   refine WL.nil (WQ.thenNormal (WC.ret (WQ.thenRet ?_)))
   cases h
   exact WQ.rets tbOk (r := .tup [.v (.agg [.sl 5 (((⟨[], []⟩ : ApiNomenclature).Entries).map eApiCodeEntry), .sl 3 (((⟨[], []⟩ : ApiNomenclature).Notes).map eApiCodeNote)]), .v (.int .i64 (0 : Int)), .v (.int .i64 v)]) hR [] (.inl rfl) rfl rfl (Le.tup (.cons (Le.agg (.sl 5 (.sl 3 .nil))) (.cons (Le.refl _) (.cons (Le.refl _) .nil)))) (by exact trivial) rfl rfl rfl rfl
  ·replace h := ite_f hc1 h
   refine WC.skip (WQ.thenNormal (WC.seq (WC.region ?_)))
   refine lr 5 rfl trivial ?_
   refine WL.nil (WQ.thenNormal (WC.ret ?_))
   cases h
   exact WQ.rets tbOk (r := .tup [.v (.agg [.sl 5 (((⟨c5_0, c5_1⟩ : ApiNomenclature).Entries).map eApiCodeEntry), .sl 3 (((⟨c5_0, c5_1⟩ : ApiNomenclature).Notes).map eApiCodeNote)]), .v (.int .i64 lines), .v (.int .i64 (0 : Int))]) hR [] (.inl rfl) rfl rfl (Le.tup (.cons (Le.refl _) (.cons (Le.refl _) (.cons (Le.refl _) .nil)))) (by exact trivial) rfl rfl rfl rfl

end Go.Proofs.YtfkefolbabniaaaGreatDoor
