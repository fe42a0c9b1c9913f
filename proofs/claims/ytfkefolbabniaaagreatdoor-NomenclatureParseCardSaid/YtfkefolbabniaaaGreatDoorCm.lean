/- Contracts: the program's functions compute the plain ones; by program (gen.py). -/
import Derived.Test.YtfkefolbabniaaaGreatDoorLib
import Derived.Test.YtfkefolbabniaaaGreatDoorPm
import Derived.Test.YtfkefolbabniaaaGreatDoorCa
import Derived.Test.YtfkefolbabniaaaGreatDoorCb
import Derived.Test.YtfkefolbabniaaaGreatDoorCc
import Derived.Test.YtfkefolbabniaaaGreatDoorCd
import Derived.Test.YtfkefolbabniaaaGreatDoorCe
import Derived.Test.YtfkefolbabniaaaGreatDoorCg
import Derived.Test.YtfkefolbabniaaaGreatDoorCu
import Derived.Test.YtfkefolbabniaaaGreatDoorCh
set_option linter.unusedVariables false
set_option linter.unusedSimpArgs false
set_option maxHeartbeats 4000000
set_option maxRecDepth 20000
namespace Go.Proofs.YtfkefolbabniaaaGreatDoor
open Go.V Go.C

theorem refParseBook_con {wg : World} (hw : WG wg) {s : Str} {r : ApiNomenclature × Int × Int} (h : refParseBook s = some r) : Con Tryz.prog wg gl 18 [.v (.str s)] [] (.tup [.v (.agg [.sl 5 (r.1.Entries.map eApiCodeEntry), .sl 3 (r.1.Notes.map eApiCodeNote)]), .v (.int .i64 r.2.1), .v (.int .i64 r.2.2)]) [] := by
 unfold refParseBook at h
 refine con_of_WC (S := slotsOf 0 _) Tryz.func18 rfl Tryz.ntmps18 rfl (fun t x hx => (slotsOf_get hx).2) ?_
 intro F L w ρ0 R hR
 show WC _ _ _ ⟨[(0, .v (.str s))], []⟩ _ _
 refine WC.seq (WC.region ?_)
 refine lr 3 rfl trivial ?_
 refine WL.nil (WQ.thenNormal (WC.seq (WC.region ?_)))
 refine lr 3 rfl trivial ?_
 refine WL.nil (WQ.thenNormal (WC.seq (WC.region ?_)))
 refine lr 1 rfl trivial ?_
 replace h := bnd h; obtain ⟨v, hvv, h⟩ := h
 refine WL.call0 fn15 rfl rfl rfl rfl (by exact trivial) rfl (r08Split_con hw hvv) ?_
 refine lr 1 rfl trivial ?_
 refine WL.nil (WQ.thenNormal (WC.seq (WC.seq (WC.region ?_))))
 refine lr 1 rfl trivial ?_
 refine WL.nil (WQ.thenNormal ?_)
 refine WC.thenCut (X := (List ApiCodeEntry) × (List ApiCodeNote)) (fun gG => ⟨[(5, .p 5 0), (2, .p 2 0)], [(2, .blk 28 [.v (.raw (.slice none 0 0)), .v (.raw (.slice none 0 0))]), (2250, .row 54 5 (gG.1.map eApiCodeEntry)), (2251, .row 77 3 (gG.2.map eApiCodeNote)), (5, .blk 28 [.r 2250, .r 2251])]⟩) (fun gG => refParseBook_j1 gG.1 gG.2 = some r) ?_ ?_
 ·refine WC.block ?_
  obtain ⟨eQ1, hl1, hk1⟩ := bnd h
  clear h
  refine WC.rowNilB 5 0 2250 54 5 rfl rfl rfl (cs2 := [.r 2250, .v (.raw (.slice none 0 0))]) rfl ?_
  refine WC.rowNilB 5 1 2251 77 3 rfl rfl rfl (cs2 := [.r 2250, .r 2251]) rfl ?_
  refine WC.loop (σ := Int × (List ApiCodeEntry) × (List ApiCodeNote)) (τ := (((List ApiCodeEntry) × (List ApiCodeNote)) ⊕ (ApiNomenclature × Int × Int))) (fun sS => ⟨[(7, .v (.int .i64 sS.1)), (6, .v (.sl 1 (v.map eStr))), (5, .p 5 0), (2, .p 2 0)], [(2, .blk 28 [.v (.raw (.slice none 0 0)), .v (.raw (.slice none 0 0))]), (2250, .row 54 5 (sS.2.1.map eApiCodeEntry)), (2251, .row 77 3 (sS.2.2.map eApiCodeNote)), (5, .blk 28 [.r 2250, .r 2251])]⟩) (refParseBook_b1 v) [] ((0 : Int), [], []) hl1 ⟨(by exact ⟨rfl, rfl, rfl, rfl, trivial⟩), (by exact ⟨rfl, rfl, rfl, rfl, trivial⟩), rfl, rfl, rfl, rfl⟩ ?_
  rintro ⟨i2, c5_04, c5_14⟩ m hn1 he1 hx1
  obtain ⟨o1, hf1⟩ := some_of hx1
  have h := hf1
  unfold refParseBook_b1 at h
  show WC _ _ _ ⟨[(7, .v (.int .i64 i2)), (6, .v (.sl 1 (v.map eStr))), (5, .p 5 0), (2, .p 2 0)], [(2, .blk 28 [.v (.raw (.slice none 0 0)), .v (.raw (.slice none 0 0))]), (2250, .row 54 5 (c5_04.map eApiCodeEntry)), (2251, .row 77 3 (c5_14.map eApiCodeNote)), (5, .blk 28 [.r 2250, .r 2251])]⟩ _ _
  refine WC.seq (WC.seq (WC.region ?_))
  refine lr 2 rfl trivial ?_
  refine WL.q [] rfl rfl rfl (q_ev tbOk (.v (.int .i64 (v.length : Int))) rfl (by exact trivial) (by exact lenT)) ?_
  refine lr 1 rfl trivial ?_
  refine WL.nil (WQ.thenNormal ?_)
  refine WC.cond rfl (fun hc2 => ?_) (fun hc2 => ?_)
  ·replace h := ite_t hc2 h
   refine WC.skip (WQ.thenNormal (WC.seq ?_))
   refine WC.thenCut (X := (List ApiCodeEntry) × (List ApiCodeNote)) (fun gG => ⟨[(7, .v (.int .i64 i2)), (6, .v (.sl 1 (v.map eStr))), (5, .p 5 0), (2, .p 2 0)], [(2, .blk 28 [.v (.raw (.slice none 0 0)), .v (.raw (.slice none 0 0))]), (2250, .row 54 5 (gG.1.map eApiCodeEntry)), (2251, .row 77 3 (gG.2.map eApiCodeNote)), (5, .blk 28 [.r 2250, .r 2251])]⟩) (fun gG => refParseBook_j2 v i2 gG.1 gG.2 = some o1) ?_ ?_
   ·refine WC.block (WC.seq (WC.seq (WC.region ?_)))
    refine lr 2 rfl trivial ?_
    refine WL.q [] rfl rfl rfl (q_ev tbOk (.v (.int .i64 (v.length : Int))) rfl (by exact trivial) (by exact lenT)) ?_
    refine lr 5 rfl (by exact sideR) ?_
    obtain ⟨g1, h⟩ := grd h
    refine WL.gq [] rfl rfl rfl rfl (fun hg => q_idx tbOk rfl (by exact sideR) (g1 hg).1 (map_getD (f := eStr) (g1 hg).2 (g1 hg).1)) ?_
    refine lr 3 rfl (by exact sideR) ?_
    refine WL.nil (WQ.thenNormal ?_)
    refine WC.cond rfl (fun hc3 => ?_) (fun hc3 => ?_)
    ·replace h := ite_t hc3 h
     refine WC.exit (WQ.thenExit ?_)
     refine WQ.blockPass rfl ?_
     refine WQ.thenExit ?_
     cases h
     have he := he1 _ hf1
     subst he
     replace h := hk1
     try dsimp only at h
     refine WQ.thenExit (WQ.blockExit ?_)
     exact WQ.cut [] (c5_04, c5_14) ⟨(by exact ⟨rfl, rfl, trivial⟩), (by exact ⟨rfl, rfl, rfl, rfl, trivial⟩), rfl, rfl, rfl, rfl⟩ h
    ·replace h := ite_f hc3 h
     refine WC.skip (WQ.thenNormal (WC.seq (WC.region ?_)))
     refine lr 2 rfl trivial ?_
     obtain ⟨g2, h⟩ := grd h
     replace h := bnd h; obtain ⟨x31, hxx31, h⟩ := h
     refine WL.q [] rfl rfl rfl (q_idx tbOk rfl (by exact trivial) g2 (map_get (f := eStr) hxx31)) ?_
     refine lr 1 rfl trivial ?_
     replace h := bnd h; obtain ⟨v25, hvv25, h⟩ := h
     refine WL.call0 fn15 rfl rfl rfl rfl (by exact trivial) rfl (r08Split_con hw hvv25) ?_
     refine lr 1 rfl trivial ?_
     refine WL.nil (WQ.thenNormal (WC.seq (WC.region ?_)))
     refine lr 2 rfl trivial ?_
     refine WL.q [] rfl rfl rfl (q_ev tbOk (.v (.int .i64 (v.length : Int))) rfl (by exact trivial) (by exact lenT)) ?_
     refine lr 3 rfl trivial ?_
     refine WL.nil (WQ.thenNormal (WC.seq (WC.seq (WC.region ?_))))
     refine lr 1 rfl trivial ?_
     replace h := bnd h; obtain ⟨x32, hxx32, h⟩ := h
     refine WL.q [] rfl rfl rfl (q_idx tbOk rfl (by exact trivial) (by decide) (map_get (f := eStr) hxx32)) ?_
     refine lr 4 rfl (by exact sideR) ?_
     refine WL.gq [] rfl rfl rfl rfl (fun hg => q_ev tbOk (.v (.int .i64 (v25.length : Int))) rfl (by exact sideR) (by exact lenT)) ?_
     refine lr 2 rfl (by exact sideR) ?_
     refine WL.nil (WQ.thenNormal ?_)
     refine WC.thenCut (X := Bool × (List ApiCodeEntry) × (List ApiCodeNote)) (fun gG => ⟨[(9, .v (.bool gG.1)), (7, .v (.int .i64 i2)), (6, .v (.sl 1 (v.map eStr))), (5, .p 5 0), (2, .p 2 0)], [(2, .blk 28 [.v (.raw (.slice none 0 0)), .v (.raw (.slice none 0 0))]), (2250, .row 54 5 (gG.2.1.map eApiCodeEntry)), (2251, .row 77 3 (gG.2.2.map eApiCodeNote)), (5, .blk 28 [.r 2250, .r 2251])]⟩) (fun gG => refParseBook_j3 v i2 gG.1 gG.2.1 gG.2.2 = some o1) ?_ ?_
     ·refine WC.cond rfl (fun hc5 => ?_) (fun hc5 => ?_)
      ·replace h := ite_t hc5 h
       refine WC.seq (WC.order mixed ?_)
       refine wr 1 rfl trivial ?_
       replace h := bnd h; obtain ⟨x33, hxx33, h⟩ := h
       refine WR.q [] rfl rfl rfl (q_idx tbOk rfl (by exact trivial) (by decide) (map_get (f := eStr) hxx33)) ?_
       refine wr 2 rfl trivial ?_
       replace h := bnd h; obtain ⟨x34, hxx34, h⟩ := h
       refine WR.q [] rfl rfl rfl (q_idx tbOk rfl (by exact trivial) (by decide) (map_get (f := eStr) hxx34)) ?_
       refine wr 1 rfl trivial ?_
       replace h := bnd h; obtain ⟨v26, hvv26, h⟩ := h
       refine WR.call0 fn15 rfl rfl rfl rfl (by exact trivial) rfl (r08Split_con hw hvv26) ?_
       refine wr 1 rfl trivial ?_
       replace h := bnd h; obtain ⟨x35, hxx35, h⟩ := h
       refine WR.q [] rfl rfl rfl (q_idx tbOk rfl (by exact trivial) (by decide) (map_get (f := eStr) hxx35)) ?_
       refine wr 4 rfl trivial ?_
       refine WR.nil (by kernel_rfl) (WQ.thenNormal (WC.seq (WC.seq (WC.region ?_))))
       refine lr 1 rfl trivial ?_
       replace h := bnd h; obtain ⟨x36, hxx36, h⟩ := h
       refine WL.q [] rfl rfl rfl (q_idx tbOk rfl (by exact trivial) (by decide) (map_get (f := eStr) hxx36)) ?_
       refine lr 2 rfl trivial ?_
       refine WL.nil (WQ.thenNormal ?_)
       refine WC.thenCut (X := Str × (List ApiCodeEntry) × (List ApiCodeNote)) (fun gG => ⟨[(10, .p 10 0), (9, .v (.bool (decide (i2 < (IntKind.i64.wrap ((v.length : Int) - (1 : Int))))))), (7, .v (.int .i64 i2)), (6, .v (.sl 1 (v.map eStr))), (5, .p 5 0), (2, .p 2 0)], [(10, .blk 77 [.v (.str x33), .v (.sl 1 (v26.map eStr)), .v (.str gG.1)]), (2, .blk 28 [.v (.raw (.slice none 0 0)), .v (.raw (.slice none 0 0))]), (2250, .row 54 5 (gG.2.1.map eApiCodeEntry)), (2251, .row 77 3 (gG.2.2.map eApiCodeNote)), (5, .blk 28 [.r 2250, .r 2251])]⟩) (fun gG => refParseBook_j4 v i2 x33 v26 gG.1 gG.2.1 gG.2.2 = some o1) ?_ ?_
       ·refine WC.cond rfl (fun hc6 => ?_) (fun hc6 => ?_)
        ·replace h := ite_t hc6 h
         refine WC.region ?_
         refine lr 2 rfl trivial ?_
         refine WL.nil ?_
         exact WQ.cut [] (([] : Str), c5_04, c5_14) ⟨(by exact ⟨rfl, rfl, rfl, rfl, rfl, rfl, trivial⟩), (by exact ⟨rfl, rfl, rfl, rfl, rfl, trivial⟩), rfl, rfl, rfl, rfl⟩ h
        ·replace h := ite_f hc6 h
         refine WC.skip ?_
         exact WQ.cut [] (x35, c5_04, c5_14) ⟨(by exact ⟨rfl, rfl, rfl, rfl, rfl, rfl, trivial⟩), (by exact ⟨rfl, rfl, rfl, rfl, rfl, trivial⟩), rfl, rfl, rfl, rfl⟩ h
       ·rintro ⟨c10_23, c5_018, c5_118⟩ h
        replace h : refParseBook_j4 v i2 x33 v26 c10_23 c5_018 c5_118 = some _ := h
        unfold refParseBook_j4 at h
        show WC _ _ _ ⟨[(10, .p 10 0), (9, .v (.bool (decide (i2 < (IntKind.i64.wrap ((v.length : Int) - (1 : Int))))))), (7, .v (.int .i64 i2)), (6, .v (.sl 1 (v.map eStr))), (5, .p 5 0), (2, .p 2 0)], [(10, .blk 77 [.v (.str x33), .v (.sl 1 (v26.map eStr)), .v (.str c10_23)]), (2, .blk 28 [.v (.raw (.slice none 0 0)), .v (.raw (.slice none 0 0))]), (2250, .row 54 5 (c5_018.map eApiCodeEntry)), (2251, .row 77 3 (c5_118.map eApiCodeNote)), (5, .blk 28 [.r 2250, .r 2251])]⟩ _ _
        refine WC.seq (WC.order mixed ?_)
        refine wr 3 rfl (by exact sideR) ?_
        replace h := bnd h; obtain ⟨v27, hvv27, h⟩ := h
        refine WR.gcall0 fn51 rfl rfl rfl rfl rfl (fun _ => (by exact sideR)) rfl (fun hg => (refNote_con hw (ite_t hg hvv27))) ?_
        refine wr 3 rfl (by exact sideR) ?_
        replace h := bnd h; obtain ⟨v28, hvv28, h⟩ := h
        refine WR.gcall0 fn44 rfl rfl rfl rfl rfl (fun _ => (by exact sideR)) rfl (fun hg => (refNoteLine_con hw (ite_t hg hvv28))) ?_
        refine wr 2 rfl (by exact sideR) ?_
        obtain ⟨g3, h⟩ := grd h
        refine WR.gq [] rfl rfl rfl rfl (fun hg => q_idx tbOk rfl (by exact sideR) (g3 hg).1 (map_getD (f := eStr) (g3 hg).2 (g3 hg).1)) ?_
        refine wr 4 rfl (by exact sideR) ?_
        refine WR.nil (by kernel_rfl) (WQ.thenNormal (WC.region ?_))
        refine lr 4 rfl trivial ?_
        obtain ⟨g4, h⟩ := grd h
        refine WL.append tbOk ((c5_118 ++ [(⟨x33, v26, c10_23⟩ : ApiCodeNote)]).map eApiCodeNote) [88, 2251] ap26 rfl rfl rfl rfl (fun _ e => by cases e; rfl) (by exact trivial) (map_cells (f := eApiCodeNote) (xs := [(⟨x33, v26, c10_23⟩ : ApiCodeNote)]) fun _ => rfl) (by have := g4; simp only [List.length_map, List.length_nil, List.length_cons] at this ⊢; omega) rfl rfl (by simp only [List.map_append]; try rfl) rfl ?_
        refine lr 2 rfl trivial ?_
        refine WL.nil ?_
        exact WQ.cut [(2251, 88)] ((bif (bif (decide (i2 < (IntKind.i64.wrap ((v.length : Int) - (1 : Int))))) then v27 else false) then (v28 == (v.getD i2.toNat default)) else false), c5_018, (c5_118 ++ [(⟨x33, v26, c10_23⟩ : ApiCodeNote)])) ⟨(by exact ⟨rfl, rfl, rfl, rfl, rfl, trivial⟩), (by exact ⟨rfl, rfl, rfl, rfl, trivial⟩), rfl, rfl, rfl, rfl⟩ h
      ·replace h := ite_f hc5 h
       refine WC.seq (WC.region ?_)
       refine lr 1 rfl trivial ?_
       refine WL.q [] rfl rfl rfl (q_ev tbOk (.v (.int .i64 (v25.length : Int))) rfl (by exact trivial) (by exact lenT)) ?_
       refine lr 1 rfl trivial ?_
       refine WL.nil (WQ.thenNormal ?_)
       refine WC.cond rfl (fun hc7 => ?_) (fun hc7 => ?_)
       ·replace h := ite_t hc7 h
        refine WC.seq (WC.order mixed ?_)
        refine wr 1 rfl trivial ?_
        replace h := bnd h; obtain ⟨x37, hxx37, h⟩ := h
        refine WR.q [] rfl rfl rfl (q_idx tbOk rfl (by exact trivial) (by decide) (map_get (f := eStr) hxx37)) ?_
        refine wr 2 rfl trivial ?_
        replace h := bnd h; obtain ⟨x38, hxx38, h⟩ := h
        refine WR.q [] rfl rfl rfl (q_idx tbOk rfl (by exact trivial) (by decide) (map_get (f := eStr) hxx38)) ?_
        refine wr 1 rfl trivial ?_
        replace h := bnd h; obtain ⟨v29, hvv29, h⟩ := h
        refine WR.call0 fn52 rfl rfl rfl rfl (by exact trivial) rfl (r08Num_con hw hvv29) ?_
        refine wr 1 rfl trivial ?_
        replace h := bnd h; obtain ⟨x39, hxx39, h⟩ := h
        refine WR.q [] rfl rfl rfl (q_idx tbOk rfl (by exact trivial) (by decide) (map_get (f := eStr) hxx39)) ?_
        refine wr 1 rfl trivial ?_
        replace h := bnd h; obtain ⟨v30, hvv30, h⟩ := h
        refine WR.call0 fn52 rfl rfl rfl rfl (by exact trivial) rfl (r08Num_con hw hvv30) ?_
        refine wr 3 rfl trivial ?_
        refine WR.nil (by kernel_rfl) (WQ.thenNormal (WC.seq (WC.seq (WC.region ?_))))
        refine lr 1 rfl trivial ?_
        refine WL.nil (WQ.thenNormal ?_)
        refine WC.thenCut (X := (List (List Str)) × Bool × (List ApiCodeEntry) × (List ApiCodeNote)) (fun gG => ⟨[(11, .p 11 0), (9, .v (.bool (decide (i2 < (IntKind.i64.wrap ((v.length : Int) - (1 : Int))))))), (7, .v (.int .i64 i2)), (6, .v (.sl 1 (v.map eStr))), (5, .p 5 0), (2, .p 2 0)], [(2, .blk 28 [.v (.raw (.slice none 0 0)), .v (.raw (.slice none 0 0))]), (2553, .row 31 1 (gG.1.map eLStr)), (11, .blk 54 [.v (.str x37), .v (.int .i64 v29), .v (.int .i64 v30), .r 2553, .v (.bool gG.2.1)]), (2250, .row 54 5 (gG.2.2.1.map eApiCodeEntry)), (2251, .row 77 3 (gG.2.2.2.map eApiCodeNote)), (5, .blk 28 [.r 2250, .r 2251])]⟩) (fun gG => refParseBook_j5 v i2 x37 v29 v30 gG.1 gG.2.1 gG.2.2.1 gG.2.2.2 = some o1) ?_ ?_
        ·refine WC.block ?_
         obtain ⟨eQ2, hl2, hk2⟩ := bnd h
         clear h
         refine WC.rowNilB 11 3 2553 31 1 rfl rfl rfl (cs2 := [.v (.str x37), .v (.int .i64 v29), .v (.int .i64 v30), .r 2553, .v (.bool false)]) rfl ?_
         refine WC.loop (σ := Int × (List (List Str)) × Bool × (List ApiCodeEntry) × (List ApiCodeNote)) (τ := ((List (List Str)) × Bool × (List ApiCodeEntry) × (List ApiCodeNote))) (fun sS => ⟨[(12, .v (.int .i64 sS.1)), (11, .p 11 0), (9, .v (.bool (decide (i2 < (IntKind.i64.wrap ((v.length : Int) - (1 : Int))))))), (8, .v (.sl 1 (v25.map eStr))), (7, .v (.int .i64 i2)), (6, .v (.sl 1 (v.map eStr))), (5, .p 5 0), (2, .p 2 0)], [(2, .blk 28 [.v (.raw (.slice none 0 0)), .v (.raw (.slice none 0 0))]), (2553, .row 31 1 (sS.2.1.map eLStr)), (11, .blk 54 [.v (.str x37), .v (.int .i64 v29), .v (.int .i64 v30), .r 2553, .v (.bool sS.2.2.1)]), (2250, .row 54 5 (sS.2.2.2.1.map eApiCodeEntry)), (2251, .row 77 3 (sS.2.2.2.2.map eApiCodeNote)), (5, .blk 28 [.r 2250, .r 2251])]⟩) (refParseBook_b2 v i2 v25 x37 v29 v30) [] ((3 : Int), [], false, c5_04, c5_14) hl2 ⟨(by exact ⟨rfl, rfl, rfl, rfl, rfl, rfl, rfl, rfl, trivial⟩), (by exact ⟨rfl, rfl, rfl, rfl, rfl, rfl, trivial⟩), rfl, rfl, rfl, rfl⟩ ?_
         rintro ⟨k6, c11_315, c11_418, c5_022, c5_122⟩ m hn2 he2 hx2
         obtain ⟨o2, hf2⟩ := some_of hx2
         have h := hf2
         unfold refParseBook_b2 at h
         show WC _ _ _ ⟨[(12, .v (.int .i64 k6)), (11, .p 11 0), (9, .v (.bool (decide (i2 < (IntKind.i64.wrap ((v.length : Int) - (1 : Int))))))), (8, .v (.sl 1 (v25.map eStr))), (7, .v (.int .i64 i2)), (6, .v (.sl 1 (v.map eStr))), (5, .p 5 0), (2, .p 2 0)], [(2, .blk 28 [.v (.raw (.slice none 0 0)), .v (.raw (.slice none 0 0))]), (2553, .row 31 1 (c11_315.map eLStr)), (11, .blk 54 [.v (.str x37), .v (.int .i64 v29), .v (.int .i64 v30), .r 2553, .v (.bool c11_418)]), (2250, .row 54 5 (c5_022.map eApiCodeEntry)), (2251, .row 77 3 (c5_122.map eApiCodeNote)), (5, .blk 28 [.r 2250, .r 2251])]⟩ _ _
         refine WC.seq (WC.seq (WC.region ?_))
         refine lr 2 rfl trivial ?_
         refine WL.q [] rfl rfl rfl (q_ev tbOk (.v (.int .i64 (v25.length : Int))) rfl (by exact trivial) (by exact lenT)) ?_
         refine lr 1 rfl trivial ?_
         refine WL.nil (WQ.thenNormal ?_)
         refine WC.cond rfl (fun hc8 => ?_) (fun hc8 => ?_)
         ·replace h := ite_t hc8 h
          refine WC.skip (WQ.thenNormal (WC.seq ?_))
          refine WC.thenCut (X := (List (List Str)) × Bool × (List ApiCodeEntry) × (List ApiCodeNote)) (fun gG => ⟨[(12, .v (.int .i64 k6)), (11, .p 11 0), (9, .v (.bool (decide (i2 < (IntKind.i64.wrap ((v.length : Int) - (1 : Int))))))), (8, .v (.sl 1 (v25.map eStr))), (7, .v (.int .i64 i2)), (6, .v (.sl 1 (v.map eStr))), (5, .p 5 0), (2, .p 2 0)], [(2, .blk 28 [.v (.raw (.slice none 0 0)), .v (.raw (.slice none 0 0))]), (2553, .row 31 1 (gG.1.map eLStr)), (11, .blk 54 [.v (.str x37), .v (.int .i64 v29), .v (.int .i64 v30), .r 2553, .v (.bool gG.2.1)]), (2250, .row 54 5 (gG.2.2.1.map eApiCodeEntry)), (2251, .row 77 3 (gG.2.2.2.map eApiCodeNote)), (5, .blk 28 [.r 2250, .r 2251])]⟩) (fun gG => refParseBook_j6 v i2 v25 x37 v29 v30 k6 gG.1 gG.2.1 gG.2.2.1 gG.2.2.2 = some o2) ?_ ?_
          ·refine WC.block (WC.seq (WC.region ?_))
           refine lr 2 rfl trivial ?_
           obtain ⟨g7, h⟩ := grd h
           replace h := bnd h; obtain ⟨x44, hxx44, h⟩ := h
           refine WL.q [] rfl rfl rfl (q_idx tbOk rfl (by exact trivial) g7 (map_get (f := eStr) hxx44)) ?_
           refine lr 5 rfl (by exact sideR) ?_
           refine WL.gq [] rfl rfl rfl rfl (fun hg => q_ev tbOk (.v (.int .i64 (v25.length : Int))) rfl (by exact sideR) (by exact lenT)) ?_
           refine lr 3 rfl (by exact sideR) ?_
           refine WL.nil (WQ.thenNormal ?_)
           refine WC.cond rfl (fun hc9 => ?_) (fun hc9 => ?_)
           ·replace h := ite_t hc9 h
            refine WC.region ?_
            refine lr 2 rfl trivial ?_
            refine WL.nil (WQ.blockNormal ?_)
            exact WQ.cut [] (c11_315, true, c5_022, c5_122) ⟨(by exact ⟨rfl, rfl, rfl, rfl, rfl, rfl, rfl, rfl, trivial⟩), (by exact ⟨rfl, rfl, rfl, rfl, rfl, rfl, trivial⟩), rfl, rfl, rfl, rfl⟩ h
           ·replace h := ite_f hc9 h
            refine WC.order mixed ?_
            refine wr 4 rfl trivial ?_
            obtain ⟨g8, h⟩ := grd h
            replace h := bnd h; obtain ⟨x45, hxx45, h⟩ := h
            refine WR.q [] rfl rfl rfl (q_idx tbOk rfl (by exact trivial) g8 (map_get (f := eStr) hxx45)) ?_
            refine wr 1 rfl trivial ?_
            replace h := bnd h; obtain ⟨v35, hvv35, h⟩ := h
            refine WR.call0 fn15 rfl rfl rfl rfl (by exact trivial) rfl (r08Split_con hw hvv35) ?_
            refine wr 1 rfl trivial ?_
            obtain ⟨g9, h⟩ := grd h
            refine WR.append tbOk ((c11_315 ++ [v35]).map eLStr) [132, 2553] ap52 rfl rfl rfl rfl (fun _ e => by cases e; rfl) (by exact trivial) (map_cells (f := eLStr) (xs := [v35]) fun _ => rfl) (by have := g9; simp only [List.length_map, List.length_nil, List.length_cons] at this ⊢; omega) rfl rfl (by simp only [List.map_append]; try rfl) rfl rfl ?_
            refine wr 2 rfl trivial ?_
            refine WR.nil (by kernel_rfl) (WQ.blockNormal ?_)
            exact WQ.cut [(2553, 132)] ((c11_315 ++ [v35]), c11_418, c5_022, c5_122) ⟨(by exact ⟨rfl, rfl, rfl, rfl, rfl, rfl, rfl, rfl, trivial⟩), (by exact ⟨rfl, rfl, rfl, rfl, rfl, rfl, trivial⟩), rfl, rfl, rfl, rfl⟩ h
          ·rintro ⟨c11_318, c11_421, c5_025, c5_125⟩ h
           replace h : refParseBook_j6 v i2 v25 x37 v29 v30 k6 c11_318 c11_421 c5_025 c5_125 = some _ := h
           unfold refParseBook_j6 at h
           show WC _ _ _ ⟨[(12, .v (.int .i64 k6)), (11, .p 11 0), (9, .v (.bool (decide (i2 < (IntKind.i64.wrap ((v.length : Int) - (1 : Int))))))), (8, .v (.sl 1 (v25.map eStr))), (7, .v (.int .i64 i2)), (6, .v (.sl 1 (v.map eStr))), (5, .p 5 0), (2, .p 2 0)], [(2, .blk 28 [.v (.raw (.slice none 0 0)), .v (.raw (.slice none 0 0))]), (2553, .row 31 1 (c11_318.map eLStr)), (11, .blk 54 [.v (.str x37), .v (.int .i64 v29), .v (.int .i64 v30), .r 2553, .v (.bool c11_421)]), (2250, .row 54 5 (c5_025.map eApiCodeEntry)), (2251, .row 77 3 (c5_125.map eApiCodeNote)), (5, .blk 28 [.r 2250, .r 2251])]⟩ _ _
           refine WC.region ?_
           refine lr 3 rfl trivial ?_
           refine WL.nil ?_
           cases h
           exact WQ.next [] ((IntKind.i64.wrap (k6 + (1 : Int))), c11_318, c11_421, c5_025, c5_125) ⟨(by exact ⟨rfl, rfl, rfl, rfl, rfl, rfl, rfl, rfl, trivial⟩), (by exact ⟨rfl, rfl, rfl, rfl, rfl, rfl, trivial⟩), rfl, rfl, rfl, rfl⟩ (hn2 _ hf2)
         ·replace h := ite_f hc8 h
          refine WC.exit (WQ.thenExit ?_)
          cases h
          have he := he2 _ hf2
          subst he
          replace h := hk2
          try dsimp only at h
          refine WQ.thenExit (WQ.blockExit ?_)
          exact WQ.cut [] (c11_315, c11_418, c5_022, c5_122) ⟨(by exact ⟨rfl, rfl, rfl, rfl, rfl, rfl, trivial⟩), (by exact ⟨rfl, rfl, rfl, rfl, rfl, rfl, trivial⟩), rfl, rfl, rfl, rfl⟩ h
        ·rintro ⟨c11_313, c11_415, c5_019, c5_119⟩ h
         replace h : refParseBook_j5 v i2 x37 v29 v30 c11_313 c11_415 c5_019 c5_119 = some _ := h
         unfold refParseBook_j5 at h
         show WC _ _ _ ⟨[(11, .p 11 0), (9, .v (.bool (decide (i2 < (IntKind.i64.wrap ((v.length : Int) - (1 : Int))))))), (7, .v (.int .i64 i2)), (6, .v (.sl 1 (v.map eStr))), (5, .p 5 0), (2, .p 2 0)], [(2, .blk 28 [.v (.raw (.slice none 0 0)), .v (.raw (.slice none 0 0))]), (2553, .row 31 1 (c11_313.map eLStr)), (11, .blk 54 [.v (.str x37), .v (.int .i64 v29), .v (.int .i64 v30), .r 2553, .v (.bool c11_415)]), (2250, .row 54 5 (c5_019.map eApiCodeEntry)), (2251, .row 77 3 (c5_119.map eApiCodeNote)), (5, .blk 28 [.r 2250, .r 2251])]⟩ _ _
         refine WC.seq ?_
         refine WC.publish 2553 rfl rfl ?_
         refine WC.order mixed ?_
         refine wr 3 rfl (by exact sideR) ?_
         replace h := bnd h; obtain ⟨v31, hvv31, h⟩ := h
         refine WR.gcall0 fn53 rfl rfl rfl rfl rfl (fun _ => (by exact sideR)) rfl (fun hg => (refOne_con hw (ite_t hg hvv31))) ?_
         refine wr 4 rfl (by exact sideR) ?_
         replace h := bnd h; obtain ⟨v32, hvv32, h⟩ := h
         refine WR.gcall0 fn43 rfl rfl rfl rfl rfl (fun _ => (by exact sideR)) rfl (fun hg => (refEntryLine_con hw (ite_t hg hvv32))) ?_
         refine wr 2 rfl (by exact sideR) ?_
         obtain ⟨g5, h⟩ := grd h
         refine WR.gq [] rfl rfl rfl rfl (fun hg => q_idx tbOk rfl (by exact sideR) (g5 hg).1 (map_getD (f := eStr) (g5 hg).2 (g5 hg).1)) ?_
         refine wr 6 rfl (by exact sideR) ?_
         refine WR.gq [2251] rfl rfl rfl rfl (fun hg => q_ev tbOk (.v (.int .i64 (c5_119.length : Int))) rfl (by exact sideR) (by exact lenT)) ?_
         refine wr 3 rfl (by exact sideR) ?_
         refine WR.nil (by kernel_rfl) (WQ.thenNormal (WC.region ?_))
         refine lr 4 rfl trivial ?_
         obtain ⟨g6, h⟩ := grd h
         refine WL.append tbOk ((c5_019 ++ [(⟨x37, v29, v30, c11_313, c11_415⟩ : ApiCodeEntry)]).map eApiCodeEntry) [159, 2250] ap25 rfl rfl rfl rfl (fun _ e => by cases e; rfl) (by exact trivial) (map_cells (f := eApiCodeEntry) (xs := [(⟨x37, v29, v30, c11_313, c11_415⟩ : ApiCodeEntry)]) fun _ => rfl) (by have := g6; simp only [List.length_map, List.length_nil, List.length_cons] at this ⊢; omega) rfl rfl (by simp only [List.map_append]; try rfl) rfl ?_
         refine lr 2 rfl trivial ?_
         refine WL.nil ?_
         exact WQ.cut [(2250, 159)] ((bif (bif (bif (decide (i2 < (IntKind.i64.wrap ((v.length : Int) - (1 : Int))))) then (v31 == (0 : Int)) else false) then (v32 == (v.getD i2.toNat default)) else false) then ((c5_119.length : Int) == (0 : Int)) else false), (c5_019 ++ [(⟨x37, v29, v30, c11_313, c11_415⟩ : ApiCodeEntry)]), c5_119) ⟨(by exact ⟨rfl, rfl, rfl, rfl, rfl, trivial⟩), (by exact ⟨rfl, rfl, rfl, rfl, trivial⟩), rfl, rfl, rfl, rfl⟩ h
       ·replace h := ite_f hc7 h
        refine WC.region ?_
        refine lr 1 rfl trivial ?_
        refine WL.nil ?_
        exact WQ.cut [] (false, c5_04, c5_14) ⟨(by exact ⟨rfl, rfl, rfl, rfl, rfl, trivial⟩), (by exact ⟨rfl, rfl, rfl, rfl, trivial⟩), rfl, rfl, rfl, rfl⟩ h
     ·rintro ⟨ok3, c5_017, c5_117⟩ h
      replace h : refParseBook_j3 v i2 ok3 c5_017 c5_117 = some _ := h
      unfold refParseBook_j3 at h
      show WC _ _ _ ⟨[(9, .v (.bool ok3)), (7, .v (.int .i64 i2)), (6, .v (.sl 1 (v.map eStr))), (5, .p 5 0), (2, .p 2 0)], [(2, .blk 28 [.v (.raw (.slice none 0 0)), .v (.raw (.slice none 0 0))]), (2250, .row 54 5 (c5_017.map eApiCodeEntry)), (2251, .row 77 3 (c5_117.map eApiCodeNote)), (5, .blk 28 [.r 2250, .r 2251])]⟩ _ _
      refine WC.seq (WC.region ?_)
      refine lr 2 rfl trivial ?_
      refine WL.nil (WQ.thenNormal ?_)
      refine WC.cond rfl (fun hc4 => ?_) (fun hc4 => ?_)
      ·replace h := ite_t hc4 h
       refine WC.seq (WC.region ?_)
       refine lr 5 rfl trivial ?_
       refine WL.nil (WQ.thenNormal (WC.ret (WQ.blockRet (WQ.thenRet ?_))))
       cases h
       have he := he1 _ hf1
       subst he
       have h : some ((⟨[], []⟩ : ApiNomenclature), i2, (4 : Int)) = some _ := hk1
       refine WQ.thenRet (WQ.blockRet (WQ.thenRet ?_))
       cases h
       exact WQ.rets tbOk (r := .tup [.v (.agg [.sl 5 (((⟨[], []⟩ : ApiNomenclature).Entries).map eApiCodeEntry), .sl 3 (((⟨[], []⟩ : ApiNomenclature).Notes).map eApiCodeNote)]), .v (.int .i64 i2), .v (.int .i64 (4 : Int))]) hR [] (.inl rfl) rfl rfl (Le.tup (.cons (Le.agg (.sl 5 (.sl 3 .nil))) (.cons (Le.refl _) (.cons (Le.refl _) .nil)))) (by exact trivial) rfl rfl rfl rfl
      ·replace h := ite_f hc4 h
       refine WC.skip (WQ.blockNormal ?_)
       exact WQ.cut [] (c5_017, c5_117) ⟨(by exact ⟨rfl, rfl, rfl, rfl, trivial⟩), (by exact ⟨rfl, rfl, rfl, rfl, trivial⟩), rfl, rfl, rfl, rfl⟩ h
   ·rintro ⟨c5_016, c5_116⟩ h
    replace h : refParseBook_j2 v i2 c5_016 c5_116 = some _ := h
    unfold refParseBook_j2 at h
    show WC _ _ _ ⟨[(7, .v (.int .i64 i2)), (6, .v (.sl 1 (v.map eStr))), (5, .p 5 0), (2, .p 2 0)], [(2, .blk 28 [.v (.raw (.slice none 0 0)), .v (.raw (.slice none 0 0))]), (2250, .row 54 5 (c5_016.map eApiCodeEntry)), (2251, .row 77 3 (c5_116.map eApiCodeNote)), (5, .blk 28 [.r 2250, .r 2251])]⟩ _ _
    refine WC.region ?_
    refine lr 3 rfl trivial ?_
    refine WL.nil ?_
    cases h
    exact WQ.next [] ((IntKind.i64.wrap (i2 + (1 : Int))), c5_016, c5_116) ⟨(by exact ⟨rfl, rfl, rfl, rfl, trivial⟩), (by exact ⟨rfl, rfl, rfl, rfl, trivial⟩), rfl, rfl, rfl, rfl⟩ (hn1 _ hf1)
  ·replace h := ite_f hc2 h
   refine WC.exit (WQ.thenExit ?_)
   cases h
   have he := he1 _ hf1
   subst he
   replace h := hk1
   try dsimp only at h
   refine WQ.thenExit (WQ.blockExit ?_)
   exact WQ.cut [] (c5_04, c5_14) ⟨(by exact ⟨rfl, rfl, trivial⟩), (by exact ⟨rfl, rfl, rfl, rfl, trivial⟩), rfl, rfl, rfl, rfl⟩ h
 ·rintro ⟨c5_0, c5_1⟩ h
  replace h : refParseBook_j1 c5_0 c5_1 = some _ := h
  unfold refParseBook_j1 at h
  show WC _ _ _ ⟨[(5, .p 5 0), (2, .p 2 0)], [(2, .blk 28 [.v (.raw (.slice none 0 0)), .v (.raw (.slice none 0 0))]), (2250, .row 54 5 (c5_0.map eApiCodeEntry)), (2251, .row 77 3 (c5_1.map eApiCodeNote)), (5, .blk 28 [.r 2250, .r 2251])]⟩ _ _
  refine WC.seq (WC.seq ?_)
  refine WC.publish 2250 rfl rfl ?_
  refine WC.publish 2251 rfl rfl ?_
  refine WC.region ?_
  refine lr 1 rfl trivial ?_
  replace h := bnd h; obtain ⟨v2, hvv2, h⟩ := h
  refine WL.call0 fn42 rfl rfl rfl rfl (by exact trivial) rfl (refBook_con hw hvv2) ?_
  refine lr 1 rfl trivial ?_
  refine WL.nil (WQ.thenNormal (WC.seq (WC.region ?_)))
  refine lr 2 rfl trivial ?_
  refine WL.nil (WQ.thenNormal ?_)
  refine WC.cond rfl (fun hc1 => ?_) (fun hc1 => ?_)
  ·replace h := ite_t hc1 h
   refine WC.seq (WC.region ?_)
   refine lr 5 rfl trivial ?_
   refine WL.nil (WQ.thenNormal (WC.ret (WQ.thenRet ?_)))
   cases h
   exact WQ.rets tbOk (r := .tup [.v (.agg [.sl 5 (((⟨[], []⟩ : ApiNomenclature).Entries).map eApiCodeEntry), .sl 3 (((⟨[], []⟩ : ApiNomenclature).Notes).map eApiCodeNote)]), .v (.int .i64 (0 : Int)), .v (.int .i64 v2)]) hR [] (.inl rfl) rfl rfl (Le.tup (.cons (Le.agg (.sl 5 (.sl 3 .nil))) (.cons (Le.refl _) (.cons (Le.refl _) .nil)))) (by exact trivial) rfl rfl rfl rfl
  ·replace h := ite_f hc1 h
   refine WC.skip (WQ.thenNormal (WC.seq (WC.order mixed ?_)))
   refine wr 3 rfl trivial ?_
   refine WR.q [] rfl rfl rfl (q_ev tbOk (.v (.int .i64 (c5_0.length : Int))) rfl (by exact trivial) (by exact lenT)) ?_
   refine wr 2 rfl trivial ?_
   refine WR.q [] rfl rfl rfl (q_ev tbOk (.v (.int .i64 (c5_1.length : Int))) rfl (by exact trivial) (by exact lenT)) ?_
   refine wr 4 rfl trivial ?_
   refine WR.nil (by kernel_rfl) (WQ.thenNormal (WC.ret ?_))
   cases h
   exact WQ.rets tbOk (r := .tup [.v (.agg [.sl 5 (((⟨c5_0, c5_1⟩ : ApiNomenclature).Entries).map eApiCodeEntry), .sl 3 (((⟨c5_0, c5_1⟩ : ApiNomenclature).Notes).map eApiCodeNote)]), .v (.int .i64 (IntKind.i64.wrap ((c5_0.length : Int) + (c5_1.length : Int)))), .v (.int .i64 (0 : Int))]) hR [] (.inl rfl) rfl rfl (Le.tup (.cons (Le.refl _) (.cons (Le.refl _) (.cons (Le.refl _) .nil)))) (by exact trivial) rfl rfl rfl rfl

theorem lawNParse_con {wg : World} (hw : WG wg) {s : Str} {l : (List Int)} {at_ : (List Int)} {by_ : (List Int)} {from_ : Int} {to_ : Int} {r : Bool} (h : lawNParse s l at_ by_ from_ to_ = some r) : Con Tryz.prog wg gl 3 [.v (.str s), .v (.sl 1 (l.map eInt_i64)), .v (.sl 1 (at_.map eInt_i64)), .v (.sl 1 (by_.map eInt_u8)), .v (.int .i64 from_), .v (.int .i64 to_)] [] (.v (.bool r)) [] := by
 unfold lawNParse at h
 refine con_of_WC (S := slotsOf 0 _) Tryz.func3 rfl Tryz.ntmps3 rfl (fun t x hx => (slotsOf_get hx).2) ?_
 intro F L w ρ0 R hR
 show WC _ _ _ ⟨[(0, .v (.str s)), (1, .v (.sl 1 (l.map eInt_i64))), (2, .v (.sl 1 (at_.map eInt_i64))), (3, .v (.sl 1 (by_.map eInt_u8))), (4, .v (.int .i64 from_)), (5, .v (.int .i64 to_))], []⟩ _ _
 refine WC.seq (WC.region ?_)
 refine lr 1 rfl trivial ?_
 refine WL.nil (WQ.thenNormal (WC.seq (WC.seq (WC.region ?_))))
 refine lr 3 rfl trivial ?_
 refine WL.nil (WQ.thenNormal ?_)
 refine WC.thenCut (X := Str) (fun gG => ⟨[(0, .v (.str gG)), (1, .v (.sl 1 (l.map eInt_i64))), (2, .v (.sl 1 (at_.map eInt_i64))), (3, .v (.sl 1 (by_.map eInt_u8))), (4, .v (.int .i64 from_)), (5, .v (.int .i64 to_))], []⟩) (fun gG => lawNParse_j1 l at_ by_ from_ to_ gG = some r) ?_ ?_
 ·refine WC.cond rfl (fun hc3 => ?_) (fun hc3 => ?_)
  ·replace h := ite_t hc3 h
   refine WC.region ?_
   obtain ⟨g9, h⟩ := grd h
   refine lr 3 rfl (by repeat' (first | exact trivial | assumption | intro _ | exact g9 (by assumption) | apply And.intro | exact sideT | (refine and_i ?_ ?_))) ?_
   refine WL.nil ?_
   exact WQ.cut [] ((s.take (300 : Int).toNat).drop (0 : Int).toNat) ⟨(by exact ⟨rfl, rfl, rfl, rfl, rfl, rfl, trivial⟩), (by exact trivial), rfl, rfl, rfl, rfl⟩ h
  ·replace h := ite_f hc3 h
   refine WC.skip ?_
   exact WQ.cut [] s ⟨(by exact ⟨rfl, rfl, rfl, rfl, rfl, rfl, trivial⟩), (by exact trivial), rfl, rfl, rfl, rfl⟩ h
 ·intro s2 h
  replace h : lawNParse_j1 l at_ by_ from_ to_ s2 = some _ := h
  unfold lawNParse_j1 at h
  show WC _ _ _ ⟨[(0, .v (.str s2)), (1, .v (.sl 1 (l.map eInt_i64))), (2, .v (.sl 1 (at_.map eInt_i64))), (3, .v (.sl 1 (by_.map eInt_u8))), (4, .v (.int .i64 from_)), (5, .v (.int .i64 to_))], []⟩ _ _
  refine WC.seq (WC.region ?_)
  refine lr 1 rfl trivial ?_
  replace h := bnd h; obtain ⟨v, hvv, h⟩ := h
  refine WL.call0 fn13 rfl rfl rfl rfl (by exact trivial) rfl (madeNom_con hw hvv) ?_
  replace h := bnd h; obtain ⟨v2, hvv2, h⟩ := h
  refine WL.call0 fn12 rfl rfl rfl rfl (by exact trivial) rfl (refFormatBook_con hw hvv2) ?_
  obtain ⟨g1, h⟩ := grd h
  refine WL.bytes tbOk ((intsB v2).map eInt_u8) ap23 Tryz.underlying5 rfl rfl rfl rfl (by exact trivial) g1 rfl (by simp only [intsB, List.map_map]; rfl) ?_
  refine lr 1 rfl trivial ?_
  refine WL.nil (WQ.thenNormal (WC.seq (WC.seq (WC.region ?_))))
  refine lr 1 rfl trivial ?_
  refine WL.nil (WQ.thenNormal ?_)
  refine WC.thenCut (X := (List Int)) (fun gG => ⟨[(13, .r 1013), (0, .v (.str s2)), (4, .v (.int .i64 from_)), (5, .v (.int .i64 to_))], [(1013, .row 5 1 (gG.map eInt_u8))]⟩) (fun gG => lawNParse_j2 from_ to_ s2 gG = some r) ?_ ?_
  ·refine WC.block ?_
   obtain ⟨eQ1, hl1, hk1⟩ := bnd h
   clear h
   refine WC.loop (σ := Int × (List Int)) (τ := ((List Int))) (fun sS => ⟨[(14, .v (.int .i64 sS.1)), (13, .r 1013), (0, .v (.str s2)), (2, .v (.sl 1 (at_.map eInt_i64))), (3, .v (.sl 1 (by_.map eInt_u8))), (4, .v (.int .i64 from_)), (5, .v (.int .i64 to_))], [(1013, .row 5 1 (sS.2.map eInt_u8))]⟩) (lawNParse_b1 at_ by_ from_ to_ s2) [(1013, 39)] ((0 : Int), (intsB v2)) hl1 ⟨(by exact ⟨rfl, rfl, rfl, rfl, rfl, rfl, rfl, trivial⟩), (by exact ⟨rfl, trivial⟩), rfl, rfl, rfl, rfl⟩ ?_
   rintro ⟨i, b2⟩ m hn1 he1 hx1
   obtain ⟨o1, hf1⟩ := some_of hx1
   have h := hf1
   unfold lawNParse_b1 at h
   show WC _ _ _ ⟨[(14, .v (.int .i64 i)), (13, .r 1013), (0, .v (.str s2)), (2, .v (.sl 1 (at_.map eInt_i64))), (3, .v (.sl 1 (by_.map eInt_u8))), (4, .v (.int .i64 from_)), (5, .v (.int .i64 to_))], [(1013, .row 5 1 (b2.map eInt_u8))]⟩ _ _
   refine WC.seq (WC.seq (WC.region ?_))
   refine lr 2 rfl trivial ?_
   refine WL.q [] rfl rfl rfl (q_ev tbOk (.v (.int .i64 (at_.length : Int))) rfl (by exact trivial) (by exact lenT)) ?_
   refine lr 4 rfl (by exact sideR) ?_
   refine WL.gq [] rfl rfl rfl rfl (fun hg => q_ev tbOk (.v (.int .i64 (by_.length : Int))) rfl (by exact sideR) (by exact lenT)) ?_
   refine lr 6 rfl (by exact sideR) ?_
   refine WL.nil (WQ.thenNormal ?_)
   refine WC.cond rfl (fun hc2 => ?_) (fun hc2 => ?_)
   ·replace h := ite_t hc2 h
    refine WC.skip (WQ.thenNormal (WC.seq (WC.block (WC.order mixed ?_))))
    refine wr 3 rfl trivial ?_
    obtain ⟨g6, h⟩ := grd h
    replace h := bnd h; obtain ⟨x3, hxx3, h⟩ := h
    refine WR.q [] rfl rfl rfl (q_idx tbOk rfl (by exact trivial) g6 (map_get (f := eInt_i64) hxx3)) ?_
    refine wr 2 rfl trivial ?_
    refine WR.q [1013] rfl rfl rfl (q_ev tbOk (.v (.int .i64 (b2.length : Int))) rfl (by exact trivial) (by exact lenT)) ?_
    replace h := bnd h; obtain ⟨v15, hvv15, h⟩ := h
    refine WR.call0 fn14 rfl rfl rfl rfl (by exact trivial) rfl (within_con hw hvv15) ?_
    refine wr 2 rfl trivial ?_
    obtain ⟨g7, h⟩ := grd h
    replace h := bnd h; obtain ⟨x4, hxx4, h⟩ := h
    refine WR.q [] rfl rfl rfl (q_idx tbOk rfl (by exact trivial) g7 (map_get (f := eInt_u8) hxx4)) ?_
    refine wr 1 rfl trivial ?_
    obtain ⟨g8, h⟩ := grd h
    refine WR.q [1013] rfl rfl rfl (q_ridx tbOk rfl (by exact trivial) rfl (by simpa only [List.length_map] using g8)) ?_
    refine WR.rstore tbOk ((b2.set v15.toNat x4).map eInt_u8) rfl rfl rfl (by exact trivial) rfl (map_getD (f := eInt_u8) g8.2 g8.1) rfl (mapset (f := eInt_u8) (x := x4) (by rfl)) ?_
    refine WR.nil (by kernel_rfl) (WQ.blockNormal (WQ.thenNormal (WC.region ?_)))
    refine lr 3 rfl trivial ?_
    refine WL.nil ?_
    cases h
    exact WQ.next [] ((IntKind.i64.wrap (i + (1 : Int))), (b2.set v15.toNat x4)) ⟨(by exact ⟨rfl, rfl, rfl, rfl, rfl, rfl, rfl, trivial⟩), (by exact ⟨rfl, trivial⟩), rfl, rfl, rfl, rfl⟩ (hn1 _ hf1)
   ·replace h := ite_f hc2 h
    refine WC.exit (WQ.thenExit ?_)
    cases h
    have he := he1 _ hf1
    subst he
    replace h := hk1
    try dsimp only at h
    refine WQ.thenExit (WQ.blockExit ?_)
    exact WQ.cut [] b2 ⟨(by exact ⟨rfl, rfl, rfl, rfl, trivial⟩), (by exact ⟨rfl, trivial⟩), rfl, rfl, rfl, rfl⟩ h
  ·intro b h
   replace h : lawNParse_j2 from_ to_ s2 b = some _ := h
   unfold lawNParse_j2 at h
   show WC _ _ _ ⟨[(13, .r 1013), (0, .v (.str s2)), (4, .v (.int .i64 from_)), (5, .v (.int .i64 to_))], [(1013, .row 5 1 (b.map eInt_u8))]⟩ _ _
   refine WC.seq ?_
   refine WC.publish 1013 rfl rfl ?_
   refine WC.region ?_
   refine lr 1 rfl trivial ?_
   refine WL.q [] rfl rfl rfl (q_b2s tbOk (xs := b) by23 rfl (by exact trivial)) ?_
   replace h := bnd h; obtain ⟨v3, hvv3, h⟩ := h
   refine WL.callO [] [(500, 71)] [71] fn15 rfl rfl rfl rfl (by exact trivial) (r08SplitR_con hw hvv3) rfl rfl (by exact trivial) rfl rfl rfl rfl rfl rfl ?_
   refine lr 1 rfl trivial ?_
   refine WL.nil (WQ.thenNormal (WC.seq (WC.region ?_)))
   refine lr 2 rfl trivial ?_
   refine WL.q [71] rfl rfl rfl (q_ev tbOk (.v (.int .i64 (v3.length : Int))) rfl (by exact trivial) (by exact lenT)) ?_
   replace h := bnd h; obtain ⟨v4, hvv4, h⟩ := h
   refine WL.call0 fn14 rfl rfl rfl rfl (by exact trivial) rfl (within_con hw hvv4) ?_
   refine lr 2 rfl trivial ?_
   refine WL.q [71] rfl rfl rfl (q_ev tbOk (.v (.int .i64 (v3.length : Int))) rfl (by exact trivial) (by exact lenT)) ?_
   replace h := bnd h; obtain ⟨v5, hvv5, h⟩ := h
   refine WL.call0 fn14 rfl rfl rfl rfl (by exact trivial) rfl (within_con hw hvv5) ?_
   refine lr 2 rfl trivial ?_
   refine WL.nil (WQ.thenNormal (WC.seq (WC.seq (WC.region ?_))))
   refine lr 3 rfl trivial ?_
   refine WL.nil (WQ.thenNormal ?_)
   refine WC.thenCut (X := (List Str)) (fun gG => ⟨[(15, .r 1015), (0, .v (.str s2))], [(1015, .row 9 1 (gG.map eStr))]⟩) (fun gG => lawNParse_j3 s2 gG = some r) ?_ ?_
   ·refine WC.cond rfl (fun hc1 => ?_) (fun hc1 => ?_)
    ·replace h := ite_t hc1 h
     refine WC.order mixed ?_
     refine wr 6 rfl trivial ?_
     obtain ⟨g2, h⟩ := grd h
     refine WR.q [71] rfl rfl rfl (q_ridx tbOk rfl (by exact trivial) rfl (by simpa only [List.length_map] using g2)) ?_
     refine WR.q [71] rfl rfl rfl (x := .v (.str (v3.getD v5.toNat default))) (q_rload tbOk rfl (by exact trivial) rfl (map_getD (f := eStr) g2.2 g2.1) rfl) ?_
     refine wr 2 rfl trivial ?_
     obtain ⟨g3, h⟩ := grd h
     refine WR.q [71] rfl rfl rfl (q_ridx tbOk rfl (by exact trivial) rfl (by simpa only [List.length_map] using g3)) ?_
     refine WR.q [71] rfl rfl rfl (x := .v (.str (v3.getD v4.toNat default))) (q_rload tbOk rfl (by exact trivial) rfl (map_getD (f := eStr) g3.2 g3.1) rfl) ?_
     obtain ⟨g4, h⟩ := grd h
     refine WR.q [71] rfl rfl rfl (q_ridx tbOk rfl (by exact trivial) rfl (by simpa only [List.length_map] using g4)) ?_
     refine WR.rstore tbOk ((v3.set v4.toNat (v3.getD v5.toNat default)).map eStr) rfl rfl rfl (by exact trivial) rfl (map_getD (f := eStr) g4.2 g4.1) rfl (mapset (f := eStr) (x := (v3.getD v5.toNat default)) (by rfl)) ?_
     obtain ⟨g5, h⟩ := grd h
     refine WR.q [71] rfl rfl rfl (q_ridx tbOk rfl (by exact trivial) rfl (by simpa only [List.length_map] using g5)) ?_
     refine WR.rstore tbOk (((v3.set v4.toNat (v3.getD v5.toNat default)).set v5.toNat (v3.getD v4.toNat default)).map eStr) rfl rfl rfl (by exact trivial) rfl (map_getD (f := eStr) g5.2 g5.1) rfl (mapset (f := eStr) (x := (v3.getD v4.toNat default)) (by rfl)) ?_
     refine WR.nil (by kernel_rfl) ?_
     exact WQ.cut [(1015, 71)] ((v3.set v4.toNat (v3.getD v5.toNat default)).set v5.toNat (v3.getD v4.toNat default)) ⟨(by exact ⟨rfl, rfl, trivial⟩), (by exact ⟨rfl, trivial⟩), rfl, rfl, rfl, rfl⟩ h
    ·replace h := ite_f hc1 h
     refine WC.skip ?_
     exact WQ.cut [(1015, 71)] v3 ⟨(by exact ⟨rfl, rfl, trivial⟩), (by exact ⟨rfl, trivial⟩), rfl, rfl, rfl, rfl⟩ h
   ·intro lines h
    replace h : lawNParse_j3 s2 lines = some _ := h
    unfold lawNParse_j3 at h
    show WC _ _ _ ⟨[(15, .r 1015), (0, .v (.str s2))], [(1015, .row 9 1 (lines.map eStr))]⟩ _ _
    refine WC.seq ?_
    refine WC.publish 1015 rfl rfl ?_
    refine WC.region ?_
    refine lr 1 rfl trivial ?_
    replace h := bnd h; obtain ⟨v6, hvv6, h⟩ := h
    refine WL.call0 fn16 rfl rfl rfl rfl (by exact trivial) rfl (refJoined_con hw hvv6) ?_
    refine lr 1 rfl trivial ?_
    refine WL.nil (WQ.thenNormal (WC.seq (WC.region ?_)))
    refine lr 1 rfl trivial ?_
    replace h := bnd h; obtain ⟨v7, hvv7, h⟩ := h
    refine WL.call0 fn17 rfl rfl rfl rfl (by exact trivial) rfl (nomParse_con hw hvv7) ?_
    refine lr 8 rfl trivial ?_
    refine WL.nil (WQ.thenNormal (WC.seq (WC.region ?_)))
    refine lr 1 rfl trivial ?_
    replace h := bnd h; obtain ⟨v8, hvv8, h⟩ := h
    refine WL.call0 fn18 rfl rfl rfl rfl (by exact trivial) rfl (refParseBook_con hw hvv8) ?_
    refine lr 8 rfl trivial ?_
    refine WL.nil (WQ.thenNormal (WC.seq (WC.region ?_)))
    refine lr 1 rfl trivial ?_
    replace h := bnd h; obtain ⟨v9, hvv9, h⟩ := h
    refine WL.call0 fn17 rfl rfl rfl rfl (by exact trivial) rfl (nomParse_con hw hvv9) ?_
    refine lr 8 rfl trivial ?_
    refine WL.nil (WQ.thenNormal (WC.seq (WC.region ?_)))
    refine lr 1 rfl trivial ?_
    replace h := bnd h; obtain ⟨v10, hvv10, h⟩ := h
    refine WL.call0 fn18 rfl rfl rfl rfl (by exact trivial) rfl (refParseBook_con hw hvv10) ?_
    refine lr 8 rfl trivial ?_
    refine WL.nil (WQ.thenNormal (WC.seq (WC.region ?_)))
    refine lr 11 rfl (by exact sideR) ?_
    replace h := bnd h; obtain ⟨v11, hvv11, h⟩ := h
    refine WL.gcall0 fn19 rfl rfl rfl rfl rfl (fun _ => (by exact sideR)) rfl (fun hg => (sameBook_con hw (ite_t hg hvv11))) ?_
    refine lr 14 rfl (by exact sideR) ?_
    replace h := bnd h; obtain ⟨v12, hvv12, h⟩ := h
    refine WL.gcall0 fn19 rfl rfl rfl rfl rfl (fun _ => (by exact sideR)) rfl (fun hg => (sameBook_con hw (ite_t hg hvv12))) ?_
    refine lr 2 rfl (by exact sideR) ?_
    replace h := bnd h; obtain ⟨v13, hvv13, h⟩ := h
    refine WL.gcall0 fn20 rfl rfl rfl rfl rfl (fun _ => (by exact sideR)) rfl (fun hg => (awake09_con hw (ite_t hg hvv13))) ?_
    refine lr 2 rfl (by exact sideR) ?_
    refine WL.nil (WQ.thenNormal (WC.ret ?_))
    cases h
    exact WQ.rets tbOk hR [] (.inl rfl) rfl rfl (Le.refl _) (by exact trivial) rfl rfl rfl rfl

end Go.Proofs.YtfkefolbabniaaaGreatDoor
