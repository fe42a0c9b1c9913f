/- Contracts: the program's functions compute the plain ones; by program (gen.py). -/
import Derived.Test.YtfkefolbabniaaaGreatDoorLib
import Derived.Test.YtfkefolbabniaaaGreatDoorPh
import Derived.Test.YtfkefolbabniaaaGreatDoorCa
import Derived.Test.YtfkefolbabniaaaGreatDoorCb
import Derived.Test.YtfkefolbabniaaaGreatDoorCc
import Derived.Test.YtfkefolbabniaaaGreatDoorCd
import Derived.Test.YtfkefolbabniaaaGreatDoorCe
import Derived.Test.YtfkefolbabniaaaGreatDoorCg
import Derived.Test.YtfkefolbabniaaaGreatDoorCu
set_option linter.unusedVariables false
set_option linter.unusedSimpArgs false
set_option maxHeartbeats 4000000
set_option maxRecDepth 20000
namespace Go.Proofs.YtfkefolbabniaaaGreatDoor
open Go.V Go.C

theorem refEntryLine_con {wg : World} (hw : WG wg) {x : ApiCodeEntry} {r : Str} (h : refEntryLine x = some r) : Con Tryz.prog wg gl 43 [.v (.agg [.str x.Code, .int .i64 x.From, .int .i64 x.To, .sl 1 (x.Terms.map eLStr), .bool x.Other])] [] (.v (.str r)) [] := by
 unfold refEntryLine at h
 refine con_of_WC (S := slotsOf 0 _) Tryz.func43 rfl Tryz.ntmps43 rfl (fun t x hx => (slotsOf_get hx).2) ?_
 intro F L w ρ0 R hR
 show WC _ _ _ ⟨[(0, .v (.agg [.str x.Code, .int .i64 x.From, .int .i64 x.To, .sl 1 (x.Terms.map eLStr), .bool x.Other]))], []⟩ _ _
 refine WC.seq (WC.region ?_)
 refine lr 2 rfl trivial ?_
 refine WL.nil (WQ.thenNormal (WC.seq (WC.order mixed ?_)))
 obtain ⟨g1, h⟩ := grd h
 refine wr 5 rfl (by repeat' (first | exact trivial | assumption | intro _ | exact g1 (by assumption) | apply And.intro | exact sideT | (refine and_i ?_ ?_))) ?_
 replace h := bnd h; obtain ⟨v, hvv, h⟩ := h
 refine WR.call0 fn97 rfl rfl rfl rfl (by exact trivial) rfl (r02Number_con hw hvv) ?_
 obtain ⟨g2, h⟩ := grd h
 obtain ⟨g3, h⟩ := grd h
 refine wr 4 rfl (by repeat' (first | exact trivial | assumption | intro _ | exact g2 (by assumption) | exact g3 (by assumption) | apply And.intro | exact sideT | (refine and_i ?_ ?_))) ?_
 replace h := bnd h; obtain ⟨v2, hvv2, h⟩ := h
 refine WR.call0 fn97 rfl rfl rfl rfl (by exact trivial) rfl (r02Number_con hw hvv2) ?_
 obtain ⟨g4, h⟩ := grd h
 refine wr 2 rfl (by repeat' (first | exact trivial | assumption | intro _ | exact g4 (by assumption) | apply And.intro | exact sideT | (refine and_i ?_ ?_))) ?_
 refine WR.nil (by kernel_rfl) (WQ.thenNormal (WC.seq (WC.seq (WC.region ?_))))
 refine lr 1 rfl trivial ?_
 refine WL.nil (WQ.thenNormal ?_)
 refine WC.thenCut (X := Str) (fun gG => ⟨[(3, .v (.str gG)), (1, .p 1 0)], [(1, .blk 54 [.v (.str x.Code), .v (.int .i64 x.From), .v (.int .i64 x.To), .v (.sl 1 (x.Terms.map eLStr)), .v (.bool x.Other)])]⟩) (fun gG => refEntryLine_j1 x gG = some r) ?_ ?_
 ·refine WC.block ?_
  obtain ⟨eQ1, hl1, hk1⟩ := bnd h
  clear h
  refine WC.loop (σ := Int × Str) (τ := (Str)) (fun sS => ⟨[(4, .v (.int .i64 sS.1)), (3, .v (.str sS.2)), (1, .p 1 0)], [(1, .blk 54 [.v (.str x.Code), .v (.int .i64 x.From), .v (.int .i64 x.To), .v (.sl 1 (x.Terms.map eLStr)), .v (.bool x.Other)])]⟩) (refEntryLine_b1 x) [] ((0 : Int), ((((x.Code ++ ([32] : Str)) ++ v) ++ ([32] : Str)) ++ v2)) hl1 ⟨(by exact ⟨rfl, rfl, rfl, trivial⟩), (by exact ⟨rfl, trivial⟩), rfl, rfl, rfl, rfl⟩ ?_
  rintro ⟨i, s3⟩ m hn1 he1 hx1
  obtain ⟨o1, hf1⟩ := some_of hx1
  have h := hf1
  unfold refEntryLine_b1 at h
  show WC _ _ _ ⟨[(4, .v (.int .i64 i)), (3, .v (.str s3)), (1, .p 1 0)], [(1, .blk 54 [.v (.str x.Code), .v (.int .i64 x.From), .v (.int .i64 x.To), .v (.sl 1 (x.Terms.map eLStr)), .v (.bool x.Other)])]⟩ _ _
  refine WC.seq (WC.seq (WC.region ?_))
  refine lr 3 rfl trivial ?_
  refine WL.q [] rfl rfl rfl (q_ev tbOk (.v (.int .i64 (x.Terms.length : Int))) rfl (by exact trivial) (by exact lenT)) ?_
  refine lr 1 rfl trivial ?_
  refine WL.nil (WQ.thenNormal ?_)
  refine WC.cond rfl (fun hc2 => ?_) (fun hc2 => ?_)
  ·replace h := ite_t hc2 h
   refine WC.skip (WQ.thenNormal (WC.seq (WC.block (WC.region ?_))))
   obtain ⟨g6, h⟩ := grd h
   refine lr 5 rfl (by repeat' (first | exact trivial | assumption | intro _ | exact g6 (by assumption) | apply And.intro | exact sideT | (refine and_i ?_ ?_))) ?_
   obtain ⟨g7, h⟩ := grd h
   replace h := bnd h; obtain ⟨x3, hxx3, h⟩ := h
   refine WL.q [] rfl rfl rfl (q_idx tbOk rfl (by exact trivial) g7 (map_get (f := eLStr) hxx3)) ?_
   refine lr 1 rfl trivial ?_
   replace h := bnd h; obtain ⟨v4, hvv4, h⟩ := h
   refine WL.call0 fn16 rfl rfl rfl rfl (by exact trivial) rfl (refJoined_con hw hvv4) ?_
   obtain ⟨g8, h⟩ := grd h
   refine lr 2 rfl (by repeat' (first | exact trivial | assumption | intro _ | exact g8 (by assumption) | apply And.intro | exact sideT | (refine and_i ?_ ?_))) ?_
   refine WL.nil (WQ.blockNormal (WQ.thenNormal (WC.region ?_)))
   refine lr 3 rfl trivial ?_
   refine WL.nil ?_
   cases h
   exact WQ.next [] ((IntKind.i64.wrap (i + (1 : Int))), ((s3 ++ ([32] : Str)) ++ v4)) ⟨(by exact ⟨rfl, rfl, rfl, trivial⟩), (by exact ⟨rfl, trivial⟩), rfl, rfl, rfl, rfl⟩ (hn1 _ hf1)
  ·replace h := ite_f hc2 h
   refine WC.exit (WQ.thenExit ?_)
   cases h
   have he := he1 _ hf1
   subst he
   replace h := hk1
   try dsimp only at h
   refine WQ.thenExit (WQ.blockExit ?_)
   exact WQ.cut [] s3 ⟨(by exact ⟨rfl, rfl, trivial⟩), (by exact ⟨rfl, trivial⟩), rfl, rfl, rfl, rfl⟩ h
 ·intro s h
  replace h : refEntryLine_j1 x s = some _ := h
  unfold refEntryLine_j1 at h
  show WC _ _ _ ⟨[(3, .v (.str s)), (1, .p 1 0)], [(1, .blk 54 [.v (.str x.Code), .v (.int .i64 x.From), .v (.int .i64 x.To), .v (.sl 1 (x.Terms.map eLStr)), .v (.bool x.Other)])]⟩ _ _
  refine WC.seq (WC.seq (WC.region ?_))
  refine lr 2 rfl trivial ?_
  refine WL.nil (WQ.thenNormal ?_)
  refine WC.thenCut (X := Str) (fun gG => ⟨[(3, .v (.str gG))], []⟩) (fun gG => refEntryLine_j2 gG = some r) ?_ ?_
  ·refine WC.cond rfl (fun hc1 => ?_) (fun hc1 => ?_)
   ·replace h := ite_t hc1 h
    refine WC.region ?_
    obtain ⟨g5, h⟩ := grd h
    refine lr 3 rfl (by repeat' (first | exact trivial | assumption | intro _ | exact g5 (by assumption) | apply And.intro | exact sideT | (refine and_i ?_ ?_))) ?_
    refine WL.nil ?_
    exact WQ.cut [] (s ++ ([32, 42] : Str)) ⟨(by exact ⟨rfl, trivial⟩), (by exact trivial), rfl, rfl, rfl, rfl⟩ h
   ·replace h := ite_f hc1 h
    refine WC.skip ?_
    exact WQ.cut [] s ⟨(by exact ⟨rfl, trivial⟩), (by exact trivial), rfl, rfl, rfl, rfl⟩ h
  ·intro s2 h
   replace h : refEntryLine_j2 s2 = some _ := h
   unfold refEntryLine_j2 at h
   show WC _ _ _ ⟨[(3, .v (.str s2))], []⟩ _ _
   refine WC.seq (WC.region ?_)
   refine lr 2 rfl trivial ?_
   refine WL.nil (WQ.thenNormal (WC.ret ?_))
   cases h
   exact WQ.rets tbOk hR [] (.inl rfl) rfl rfl (Le.refl _) (by exact trivial) rfl rfl rfl rfl

theorem refNoteLine_con {wg : World} (hw : WG wg) {x : ApiCodeNote} {r : Str} (h : refNoteLine x = some r) : Con Tryz.prog wg gl 44 [.v (.agg [.str x.Scope, .sl 1 (x.Words.map eStr), .str x.Target])] [] (.v (.str r)) [] := by
 unfold refNoteLine at h
 refine con_of_WC (S := slotsOf 0 _) Tryz.func44 rfl Tryz.ntmps44 rfl (fun t x hx => (slotsOf_get hx).2) ?_
 intro F L w ρ0 R hR
 show WC _ _ _ ⟨[(0, .v (.agg [.str x.Scope, .sl 1 (x.Words.map eStr), .str x.Target]))], []⟩ _ _
 refine WC.seq (WC.region ?_)
 refine lr 2 rfl trivial ?_
 refine WL.nil (WQ.thenNormal (WC.seq (WC.order mixed ?_)))
 obtain ⟨g1, h⟩ := grd h
 obtain ⟨g2, h⟩ := grd h
 refine wr 6 rfl (by repeat' (first | exact trivial | assumption | intro _ | exact g1 (by assumption) | exact g2 (by assumption) | apply And.intro | exact sideT | (refine and_i ?_ ?_))) ?_
 replace h := bnd h; obtain ⟨v, hvv, h⟩ := h
 refine WR.call0 fn16 rfl rfl rfl rfl (by exact trivial) rfl (refJoined_con hw hvv) ?_
 obtain ⟨g3, h⟩ := grd h
 refine wr 2 rfl (by repeat' (first | exact trivial | assumption | intro _ | exact g3 (by assumption) | apply And.intro | exact sideT | (refine and_i ?_ ?_))) ?_
 refine WR.nil (by kernel_rfl) (WQ.thenNormal (WC.seq (WC.seq (WC.region ?_))))
 refine lr 3 rfl trivial ?_
 refine WL.nil (WQ.thenNormal ?_)
 refine WC.cond rfl (fun hc1 => ?_) (fun hc1 => ?_)
 ·replace h := ite_t hc1 h
  refine WC.seq (WC.region ?_)
  obtain ⟨g4, h⟩ := grd h
  refine lr 3 rfl (by repeat' (first | exact trivial | assumption | intro _ | exact g4 (by assumption) | apply And.intro | exact sideT | (refine and_i ?_ ?_))) ?_
  refine WL.nil (WQ.thenNormal (WC.ret (WQ.thenRet ?_)))
  cases h
  exact WQ.rets tbOk hR [] (.inl rfl) rfl rfl (Le.refl _) (by exact trivial) rfl rfl rfl rfl
 ·replace h := ite_f hc1 h
  refine WC.skip (WQ.thenNormal (WC.seq (WC.region ?_)))
  obtain ⟨g5, h⟩ := grd h
  obtain ⟨g6, h⟩ := grd h
  refine lr 6 rfl (by repeat' (first | exact trivial | assumption | intro _ | exact g5 (by assumption) | exact g6 (by assumption) | apply And.intro | exact sideT | (refine and_i ?_ ?_))) ?_
  refine WL.nil (WQ.thenNormal (WC.ret ?_))
  cases h
  exact WQ.rets tbOk hR [] (.inl rfl) rfl rfl (Le.refl _) (by exact trivial) rfl rfl rfl rfl

theorem refFormatBook_con {wg : World} (hw : WG wg) {b : ApiNomenclature} {r : Str} (h : refFormatBook b = some r) : Con Tryz.prog wg gl 12 [.v (.agg [.sl 5 (b.Entries.map eApiCodeEntry), .sl 3 (b.Notes.map eApiCodeNote)])] [] (.v (.str r)) [] := by
 unfold refFormatBook at h
 refine con_of_WC (S := slotsOf 0 _) Tryz.func12 rfl Tryz.ntmps12 rfl (fun t x hx => (slotsOf_get hx).2) ?_
 intro F L w ρ0 R hR
 show WC _ _ _ ⟨[(0, .v (.agg [.sl 5 (b.Entries.map eApiCodeEntry), .sl 3 (b.Notes.map eApiCodeNote)]))], []⟩ _ _
 refine WC.seq (WC.region ?_)
 refine lr 2 rfl trivial ?_
 refine WL.nil (WQ.thenNormal (WC.seq (WC.region ?_)))
 refine lr 1 rfl trivial ?_
 refine WL.nil (WQ.thenNormal (WC.seq (WC.seq (WC.region ?_))))
 refine lr 1 rfl trivial ?_
 replace h := bnd h; obtain ⟨v, hvv, h⟩ := h
 refine WL.call0 fn42 rfl rfl rfl rfl (by exact trivial) rfl (refBook_con hw hvv) ?_
 refine lr 1 rfl trivial ?_
 refine WL.nil (WQ.thenNormal ?_)
 refine WC.cond rfl (fun hc1 => ?_) (fun hc1 => ?_)
 ·replace h := ite_t hc1 h
  refine WC.seq (WC.region ?_)
  refine lr 1 rfl trivial ?_
  refine WL.nil (WQ.thenNormal (WC.ret (WQ.thenRet ?_)))
  cases h
  exact WQ.rets tbOk hR [] (.inl rfl) rfl rfl (Le.refl _) (by exact trivial) rfl rfl rfl rfl
 ·replace h := ite_f hc1 h
  refine WC.skip (WQ.thenNormal (WC.seq (WC.seq (WC.region ?_))))
  refine lr 1 rfl trivial ?_
  refine WL.nil (WQ.thenNormal ?_)
  refine WC.thenCut (X := Str) (fun gG => ⟨[(3, .v (.str gG)), (1, .p 1 0)], [(1, .blk 28 [.v (.sl 5 (b.Entries.map eApiCodeEntry)), .v (.sl 3 (b.Notes.map eApiCodeNote))])]⟩) (fun gG => refFormatBook_j1 b gG = some r) ?_ ?_
  ·refine WC.block ?_
   obtain ⟨eQ2, hl2, hk2⟩ := bnd h
   clear h
   refine WC.loop (σ := Int × Str) (τ := (Str)) (fun sS => ⟨[(4, .v (.int .i64 sS.1)), (3, .v (.str sS.2)), (1, .p 1 0)], [(1, .blk 28 [.v (.sl 5 (b.Entries.map eApiCodeEntry)), .v (.sl 3 (b.Notes.map eApiCodeNote))])]⟩) (refFormatBook_b2 b) [] ((0 : Int), ([] : Str)) hl2 ⟨(by exact ⟨rfl, rfl, rfl, trivial⟩), (by exact ⟨rfl, trivial⟩), rfl, rfl, rfl, rfl⟩ ?_
   rintro ⟨i3, s6⟩ m hn2 he2 hx2
   obtain ⟨o2, hf2⟩ := some_of hx2
   have h := hf2
   unfold refFormatBook_b2 at h
   show WC _ _ _ ⟨[(4, .v (.int .i64 i3)), (3, .v (.str s6)), (1, .p 1 0)], [(1, .blk 28 [.v (.sl 5 (b.Entries.map eApiCodeEntry)), .v (.sl 3 (b.Notes.map eApiCodeNote))])]⟩ _ _
   refine WC.seq (WC.seq (WC.region ?_))
   refine lr 3 rfl trivial ?_
   refine WL.q [] rfl rfl rfl (q_ev tbOk (.v (.int .i64 (b.Entries.length : Int))) rfl (by exact trivial) (by exact lenT)) ?_
   refine lr 1 rfl trivial ?_
   refine WL.nil (WQ.thenNormal ?_)
   refine WC.cond rfl (fun hc3 => ?_) (fun hc3 => ?_)
   ·replace h := ite_t hc3 h
    refine WC.skip (WQ.thenNormal (WC.seq (WC.block (WC.region ?_))))
    refine lr 4 rfl trivial ?_
    obtain ⟨g4, h⟩ := grd h
    replace h := bnd h; obtain ⟨x4, hxx4, h⟩ := h
    refine WL.q [] rfl rfl rfl (q_idx tbOk rfl (by exact trivial) g4 (map_get (f := eApiCodeEntry) hxx4)) ?_
    refine lr 1 rfl trivial ?_
    replace h := bnd h; obtain ⟨v5, hvv5, h⟩ := h
    refine WL.call0 fn43 rfl rfl rfl rfl (by exact trivial) rfl (refEntryLine_con hw hvv5) ?_
    obtain ⟨g5, h⟩ := grd h
    obtain ⟨g6, h⟩ := grd h
    refine lr 3 rfl (by repeat' (first | exact trivial | assumption | intro _ | exact g5 (by assumption) | exact g6 (by assumption) | apply And.intro | exact sideT | (refine and_i ?_ ?_))) ?_
    refine WL.nil (WQ.blockNormal (WQ.thenNormal (WC.region ?_)))
    refine lr 3 rfl trivial ?_
    refine WL.nil ?_
    cases h
    exact WQ.next [] ((IntKind.i64.wrap (i3 + (1 : Int))), ((s6 ++ v5) ++ ([10] : Str))) ⟨(by exact ⟨rfl, rfl, rfl, trivial⟩), (by exact ⟨rfl, trivial⟩), rfl, rfl, rfl, rfl⟩ (hn2 _ hf2)
   ·replace h := ite_f hc3 h
    refine WC.exit (WQ.thenExit ?_)
    cases h
    have he := he2 _ hf2
    subst he
    replace h := hk2
    try dsimp only at h
    refine WQ.thenExit (WQ.blockExit ?_)
    exact WQ.cut [] s6 ⟨(by exact ⟨rfl, rfl, trivial⟩), (by exact ⟨rfl, trivial⟩), rfl, rfl, rfl, rfl⟩ h
  ·intro s h
   replace h : refFormatBook_j1 b s = some _ := h
   unfold refFormatBook_j1 at h
   show WC _ _ _ ⟨[(3, .v (.str s)), (1, .p 1 0)], [(1, .blk 28 [.v (.sl 5 (b.Entries.map eApiCodeEntry)), .v (.sl 3 (b.Notes.map eApiCodeNote))])]⟩ _ _
   refine WC.seq (WC.seq (WC.region ?_))
   refine lr 1 rfl trivial ?_
   refine WL.nil (WQ.thenNormal ?_)
   refine WC.thenCut (X := Str) (fun gG => ⟨[(3, .v (.str gG))], []⟩) (fun gG => refFormatBook_j2 gG = some r) ?_ ?_
   ·refine WC.block ?_
    obtain ⟨eQ1, hl1, hk1⟩ := bnd h
    clear h
    refine WC.loop (σ := Int × Str) (τ := (Str)) (fun sS => ⟨[(5, .v (.int .i64 sS.1)), (3, .v (.str sS.2)), (1, .p 1 0)], [(1, .blk 28 [.v (.sl 5 (b.Entries.map eApiCodeEntry)), .v (.sl 3 (b.Notes.map eApiCodeNote))])]⟩) (refFormatBook_b1 b) [] ((0 : Int), s) hl1 ⟨(by exact ⟨rfl, rfl, rfl, trivial⟩), (by exact ⟨rfl, trivial⟩), rfl, rfl, rfl, rfl⟩ ?_
    rintro ⟨i, s3⟩ m hn1 he1 hx1
    obtain ⟨o1, hf1⟩ := some_of hx1
    have h := hf1
    unfold refFormatBook_b1 at h
    show WC _ _ _ ⟨[(5, .v (.int .i64 i)), (3, .v (.str s3)), (1, .p 1 0)], [(1, .blk 28 [.v (.sl 5 (b.Entries.map eApiCodeEntry)), .v (.sl 3 (b.Notes.map eApiCodeNote))])]⟩ _ _
    refine WC.seq (WC.seq (WC.region ?_))
    refine lr 3 rfl trivial ?_
    refine WL.q [] rfl rfl rfl (q_ev tbOk (.v (.int .i64 (b.Notes.length : Int))) rfl (by exact trivial) (by exact lenT)) ?_
    refine lr 1 rfl trivial ?_
    refine WL.nil (WQ.thenNormal ?_)
    refine WC.cond rfl (fun hc2 => ?_) (fun hc2 => ?_)
    ·replace h := ite_t hc2 h
     refine WC.skip (WQ.thenNormal (WC.seq (WC.block (WC.region ?_))))
     refine lr 4 rfl trivial ?_
     obtain ⟨g1, h⟩ := grd h
     replace h := bnd h; obtain ⟨x2, hxx2, h⟩ := h
     refine WL.q [] rfl rfl rfl (q_idx tbOk rfl (by exact trivial) g1 (map_get (f := eApiCodeNote) hxx2)) ?_
     refine lr 1 rfl trivial ?_
     replace h := bnd h; obtain ⟨v3, hvv3, h⟩ := h
     refine WL.call0 fn44 rfl rfl rfl rfl (by exact trivial) rfl (refNoteLine_con hw hvv3) ?_
     obtain ⟨g2, h⟩ := grd h
     obtain ⟨g3, h⟩ := grd h
     refine lr 3 rfl (by repeat' (first | exact trivial | assumption | intro _ | exact g2 (by assumption) | exact g3 (by assumption) | apply And.intro | exact sideT | (refine and_i ?_ ?_))) ?_
     refine WL.nil (WQ.blockNormal (WQ.thenNormal (WC.region ?_)))
     refine lr 3 rfl trivial ?_
     refine WL.nil ?_
     cases h
     exact WQ.next [] ((IntKind.i64.wrap (i + (1 : Int))), ((s3 ++ v3) ++ ([10] : Str))) ⟨(by exact ⟨rfl, rfl, rfl, trivial⟩), (by exact ⟨rfl, trivial⟩), rfl, rfl, rfl, rfl⟩ (hn1 _ hf1)
    ·replace h := ite_f hc2 h
     refine WC.exit (WQ.thenExit ?_)
     cases h
     have he := he1 _ hf1
     subst he
     replace h := hk1
     try dsimp only at h
     refine WQ.thenExit (WQ.blockExit ?_)
     exact WQ.cut [] s3 ⟨(by exact ⟨rfl, trivial⟩), (by exact trivial), rfl, rfl, rfl, rfl⟩ h
   ·intro s2 h
    replace h : refFormatBook_j2 s2 = some _ := h
    unfold refFormatBook_j2 at h
    show WC _ _ _ ⟨[(3, .v (.str s2))], []⟩ _ _
    refine WC.seq (WC.region ?_)
    refine lr 2 rfl trivial ?_
    refine WL.nil (WQ.thenNormal (WC.ret ?_))
    cases h
    exact WQ.rets tbOk hR [] (.inl rfl) rfl rfl (Le.refl _) (by exact trivial) rfl rfl rfl rfl

theorem sameBook_con {wg : World} (hw : WG wg) {a : ApiNomenclature} {b : ApiNomenclature} {r : Bool} (h : sameBook a b = some r) : Con Tryz.prog wg gl 19 [.v (.agg [.sl 5 (a.Entries.map eApiCodeEntry), .sl 3 (a.Notes.map eApiCodeNote)]), .v (.agg [.sl 5 (b.Entries.map eApiCodeEntry), .sl 3 (b.Notes.map eApiCodeNote)])] [] (.v (.bool r)) [] := by
 unfold sameBook at h
 refine con_of_WC (S := slotsOf 0 _) Tryz.func19 rfl Tryz.ntmps19 rfl (fun t x hx => (slotsOf_get hx).2) ?_
 intro F L w ρ0 R hR
 show WC _ _ _ ⟨[(0, .v (.agg [.sl 5 (a.Entries.map eApiCodeEntry), .sl 3 (a.Notes.map eApiCodeNote)])), (1, .v (.agg [.sl 5 (b.Entries.map eApiCodeEntry), .sl 3 (b.Notes.map eApiCodeNote)]))], []⟩ _ _
 refine WC.seq (WC.region ?_)
 refine lr 3 rfl trivial ?_
 refine WL.nil (WQ.thenNormal (WC.seq (WC.seq (WC.region ?_))))
 refine lr 4 rfl trivial ?_
 replace h := bnd h; obtain ⟨v, hvv, h⟩ := h
 refine WL.call0 fn29 rfl rfl rfl rfl (by exact trivial) rfl (sameEntries_con hw hvv) ?_
 refine lr 4 rfl (by exact sideR) ?_
 refine WL.gq [] rfl rfl rfl rfl (fun hg => q_ev tbOk (.v (.int .i64 (a.Notes.length : Int))) rfl (by exact sideR) (by exact lenT)) ?_
 refine lr 2 rfl (by exact sideR) ?_
 refine WL.gq [] rfl rfl rfl rfl (fun hg => q_ev tbOk (.v (.int .i64 (b.Notes.length : Int))) rfl (by exact sideR) (by exact lenT)) ?_
 refine lr 2 rfl (by exact sideR) ?_
 refine WL.nil (WQ.thenNormal ?_)
 refine WC.cond rfl (fun hc1 => ?_) (fun hc1 => ?_)
 ·replace h := ite_t hc1 h
  refine WC.seq (WC.region ?_)
  refine lr 1 rfl trivial ?_
  refine WL.nil (WQ.thenNormal (WC.ret (WQ.thenRet ?_)))
  cases h
  exact WQ.rets tbOk hR [] (.inl rfl) rfl rfl (Le.refl _) (by exact trivial) rfl rfl rfl rfl
 ·replace h := ite_f hc1 h
  refine WC.skip (WQ.thenNormal (WC.seq (WC.seq (WC.region ?_))))
  refine lr 1 rfl trivial ?_
  refine WL.nil (WQ.thenNormal ?_)
  refine WC.thenCut (X := Unit) (fun gG => ⟨[], []⟩) (fun gG => sameBook_j1  = some r) ?_ ?_
  ·refine WC.block ?_
   obtain ⟨eQ1, hl1, hk1⟩ := bnd h
   clear h
   refine WC.loop (σ := Int) (τ := ((Bool) ⊕ (Unit))) (fun sS => ⟨[(5, .v (.int .i64 sS)), (3, .p 3 0), (2, .p 2 0)], [(2, .blk 28 [.v (.sl 5 (a.Entries.map eApiCodeEntry)), .v (.sl 3 (a.Notes.map eApiCodeNote))]), (3, .blk 28 [.v (.sl 5 (b.Entries.map eApiCodeEntry)), .v (.sl 3 (b.Notes.map eApiCodeNote))])]⟩) (sameBook_b1 a b) [] (0 : Int) hl1 ⟨(by exact ⟨rfl, rfl, rfl, trivial⟩), (by exact ⟨rfl, rfl, trivial⟩), rfl, rfl, rfl, rfl⟩ ?_
   intro i m hn1 he1 hx1
   obtain ⟨o1, hf1⟩ := some_of hx1
   have h := hf1
   unfold sameBook_b1 at h
   show WC _ _ _ ⟨[(5, .v (.int .i64 i)), (3, .p 3 0), (2, .p 2 0)], [(2, .blk 28 [.v (.sl 5 (a.Entries.map eApiCodeEntry)), .v (.sl 3 (a.Notes.map eApiCodeNote))]), (3, .blk 28 [.v (.sl 5 (b.Entries.map eApiCodeEntry)), .v (.sl 3 (b.Notes.map eApiCodeNote))])]⟩ _ _
   refine WC.seq (WC.seq (WC.region ?_))
   refine lr 3 rfl trivial ?_
   refine WL.q [] rfl rfl rfl (q_ev tbOk (.v (.int .i64 (a.Notes.length : Int))) rfl (by exact trivial) (by exact lenT)) ?_
   refine lr 1 rfl trivial ?_
   refine WL.nil (WQ.thenNormal ?_)
   refine WC.cond rfl (fun hc2 => ?_) (fun hc2 => ?_)
   ·replace h := ite_t hc2 h
    refine WC.skip (WQ.thenNormal (WC.seq (WC.block (WC.seq (WC.order mixed ?_)))))
    refine wr 3 rfl trivial ?_
    obtain ⟨g1, h⟩ := grd h
    replace h := bnd h; obtain ⟨x3, hxx3, h⟩ := h
    refine WR.q [] rfl rfl rfl (q_idx tbOk rfl (by exact trivial) g1 (map_get (f := eApiCodeNote) hxx3)) ?_
    refine wr 5 rfl trivial ?_
    obtain ⟨g2, h⟩ := grd h
    replace h := bnd h; obtain ⟨x4, hxx4, h⟩ := h
    refine WR.q [] rfl rfl rfl (q_idx tbOk rfl (by exact trivial) g2 (map_get (f := eApiCodeNote) hxx4)) ?_
    refine wr 7 rfl (by exact sideR) ?_
    obtain ⟨g3, h⟩ := grd h
    refine WR.gq [] rfl rfl rfl rfl (fun hg => q_idx tbOk rfl (by exact sideR) (g3 hg).1 (map_getD (f := eApiCodeNote) (g3 hg).2 (g3 hg).1)) ?_
    refine wr 5 rfl (by exact sideR) ?_
    obtain ⟨g4, h⟩ := grd h
    refine WR.gq [] rfl rfl rfl rfl (fun hg => q_idx tbOk rfl (by exact sideR) (g4 hg).1 (map_getD (f := eApiCodeNote) (g4 hg).2 (g4 hg).1)) ?_
    refine wr 8 rfl (by exact sideR) ?_
    obtain ⟨g5, h⟩ := grd h
    refine WR.gq [] rfl rfl rfl rfl (fun hg => q_idx tbOk rfl (by exact sideR) (g5 hg).1 (map_getD (f := eApiCodeNote) (g5 hg).2 (g5 hg).1)) ?_
    refine wr 5 rfl (by exact sideR) ?_
    obtain ⟨g6, h⟩ := grd h
    refine WR.gq [] rfl rfl rfl rfl (fun hg => q_idx tbOk rfl (by exact sideR) (g6 hg).1 (map_getD (f := eApiCodeNote) (g6 hg).2 (g6 hg).1)) ?_
    refine wr 2 rfl (by exact sideR) ?_
    replace h := bnd h; obtain ⟨v3, hvv3, h⟩ := h
    refine WR.gcall0 fn54 rfl rfl rfl rfl rfl (fun _ => (by exact sideR)) rfl (fun hg => (sameStrings_con hw (ite_t hg hvv3))) ?_
    refine wr 2 rfl (by exact sideR) ?_
    refine WR.nil (by kernel_rfl) (WQ.thenNormal ?_)
    refine WC.cond rfl (fun hc3 => ?_) (fun hc3 => ?_)
    ·replace h := ite_t hc3 h
     refine WC.seq (WC.region ?_)
     refine lr 1 rfl trivial ?_
     refine WL.nil (WQ.thenNormal (WC.ret (WQ.blockRet (WQ.thenRet ?_))))
     cases h
     have he := he1 _ hf1
     subst he
     have h : some false = some _ := hk1
     refine WQ.thenRet (WQ.blockRet (WQ.thenRet ?_))
     cases h
     exact WQ.rets tbOk hR [] (.inl rfl) rfl rfl (Le.refl _) (by exact trivial) rfl rfl rfl rfl
    ·replace h := ite_f hc3 h
     refine WC.skip (WQ.blockNormal (WQ.thenNormal (WC.region ?_)))
     refine lr 3 rfl trivial ?_
     refine WL.nil ?_
     cases h
     exact WQ.next [] (IntKind.i64.wrap (i + (1 : Int))) ⟨(by exact ⟨rfl, rfl, rfl, trivial⟩), (by exact ⟨rfl, rfl, trivial⟩), rfl, rfl, rfl, rfl⟩ (hn1 _ hf1)
   ·replace h := ite_f hc2 h
    refine WC.exit (WQ.thenExit ?_)
    cases h
    have he := he1 _ hf1
    subst he
    replace h := hk1
    try dsimp only at h
    refine WQ.thenExit (WQ.blockExit ?_)
    exact WQ.cut [] () ⟨(by exact trivial), (by exact trivial), rfl, rfl, rfl, rfl⟩ h
  ·intro _ h
   replace h : sameBook_j1 = some _ := h
   unfold sameBook_j1 at h
   show WC _ _ _ ⟨[], []⟩ _ _
   refine WC.seq (WC.region ?_)
   refine lr 1 rfl trivial ?_
   refine WL.nil (WQ.thenNormal (WC.ret ?_))
   cases h
   exact WQ.rets tbOk hR [] (.inl rfl) rfl rfl (Le.refl _) (by exact trivial) rfl rfl rfl rfl

end Go.Proofs.YtfkefolbabniaaaGreatDoor
