/- Contracts: the program's functions compute the plain ones; by program (gen.py). -/
import Derived.Test.YtfkefolbabniaaaGreatDoorLib
import Derived.Test.YtfkefolbabniaaaGreatDoorPk
import Derived.Test.YtfkefolbabniaaaGreatDoorBl
import Derived.Test.YtfkefolbabniaaaGreatDoorCa
import Derived.Test.YtfkefolbabniaaaGreatDoorCb
import Derived.Test.YtfkefolbabniaaaGreatDoorCc
import Derived.Test.YtfkefolbabniaaaGreatDoorCd
import Derived.Test.YtfkefolbabniaaaGreatDoorCe
import Derived.Test.YtfkefolbabniaaaGreatDoorCg
import Derived.Test.YtfkefolbabniaaaGreatDoorCu
import Derived.Test.YtfkefolbabniaaaGreatDoorCh
set_option linter.unusedVariables false
set_option linter.unusedSimpArgs false
set_option maxHeartbeats 4000000
set_option maxRecDepth 20000
namespace Go.Proofs.YtfkefolbabniaaaGreatDoor
open Go.V Go.C

theorem bWriteString_con {wg : World} (hw : WG wg) {b : StringsBuilder} {s : Str} {r : Int × Bool × StringsBuilder} (h : bWriteString b s = some r) : Con Tryz.prog wg gl 91 [.p 0 0, .v (.str s)] [(601, .row 5 1 (b.buf.map eInt_u8)), (0, .blk 126 [.sp 0, .r 601])] (.tup [.v (.int .i64 r.1), .v (.err r.2.1)]) [(0, .blk 126 [.sp 0, .r 651]), (601, .dead), (651, .row 5 1 (r.2.2.buf.map eInt_u8))] := by
 unfold bWriteString at h
 refine con_of_WC (S := slotsOf 0 _) Tryz.func91 rfl Tryz.ntmps91 rfl (fun t x hx => (slotsOf_get hx).2) ?_
 intro F L w ρ0 R hR
 show WC _ _ _ ⟨[(0, .p 0 0), (1, .v (.str s))], [(601, .row 5 1 (b.buf.map eInt_u8)), (0, .blk 126 [.sp 0, .r 601])]⟩ _ _
 refine WC.seq (WC.region ?_)
 refine lr 2 rfl trivial ?_
 refine WL.nil (WQ.thenNormal (WC.seq (WC.region ?_)))
 refine lr 1 rfl trivial ?_
 replace h := bnd h; obtain ⟨v, hvv, h⟩ := h
 refine WL.callO [(0, 0), (601, 601)] [(0, 0), (601, 601)] [0, 601] fn140 rfl rfl rfl rfl (by exact trivial) (bCheck_con hw hvv) rfl rfl (by exact ⟨rfl, rfl, trivial⟩) rfl rfl rfl rfl rfl rfl ?_
 refine WL.nil (WQ.thenNormal (WC.seq (WC.region ?_)))
 refine lr 6 rfl trivial ?_
 obtain ⟨g1, h⟩ := grd h
 refine WL.appendS tbOk ((b.buf ++ (intsB s)).map eInt_u8) [14, 601] apB23 rfl rfl rfl rfl rfl (by exact trivial) (by have := g1; simp only [List.length_map, List.length_nil] at this ⊢; omega) rfl rfl (by simp only [intsB, List.map_append, List.map_map, List.map_nil, List.nil_append]; rfl) rfl ?_
 refine lr 3 rfl trivial ?_
 refine WL.nil (WQ.thenNormal (WC.seq (WC.region ?_)))
 refine lr 4 rfl trivial ?_
 refine WL.nil (WQ.thenNormal (WC.ret ?_))
 cases h
 exact WQ.rets tbOk (r := .tup [.v (.int .i64 (s.length : Int)), .v (.err true)]) hR [(651, 14)] (.inl rfl) rfl rfl (Le.tup (.cons (Le.refl _) (.cons Le.nerr .nil))) (by exact ⟨rfl, rfl, rfl, trivial⟩) rfl rfl rfl rfl

theorem nomFormat_con {wg : World} (hw : WG wg) {b : ApiNomenclature} {r : Str} (h : nomFormat b = some r) : Con Tryz.prog wg gl 37 [.v (.agg [.sl 5 (b.Entries.map eApiCodeEntry), .sl 3 (b.Notes.map eApiCodeNote)])] [] (.v (.str r)) [] := by
 unfold nomFormat at h
 refine con_of_WC (S := slotsOf 0 _) Tryz.func37 rfl Tryz.ntmps37 rfl (fun t x hx => (slotsOf_get hx).2) ?_
 intro F L w ρ0 R hR
 show WC _ _ _ ⟨[(0, .v (.agg [.sl 5 (b.Entries.map eApiCodeEntry), .sl 3 (b.Notes.map eApiCodeNote)]))], []⟩ _ _
 refine WC.seq (WC.region ?_)
 refine lr 2 rfl trivial ?_
 refine WL.nil (WQ.thenNormal (WC.seq (WC.seq (WC.region ?_))))
 refine lr 1 rfl trivial ?_
 replace h := bnd h; obtain ⟨v, hvv, h⟩ := h
 refine WL.call0 fn36 rfl rfl rfl rfl (by exact trivial) rfl (nomValidate_con hw hvv) ?_
 refine lr 1 rfl trivial ?_
 refine WL.nil (WQ.thenNormal ?_)
 refine WC.cond rfl (fun hc1 => ?_) (fun hc1 => ?_)
 ·replace h := ite_t hc1 h
  refine WC.seq (WC.region ?_)
  refine lr 1 rfl trivial ?_
  refine WL.nil (WQ.thenNormal (WC.ret (WQ.thenRet ?_)))
  cases h
  exact WQ.rets tbOk hR [] (.inl rfl) rfl rfl (Le.refl _) (by exact trivial) rfl rfl rfl rfl
 ·replace h := ite_f hc1 h
  refine WC.skip (WQ.thenNormal (WC.seq (WC.region ?_)))
  refine lr 1 rfl trivial ?_
  refine WL.spNil 3 0 rfl rfl (cs2 := [.sp 3, .v (.raw (.slice none 0 0))]) rfl ?_
  refine WL.rowNilB 3 1 7151 5 1 rfl rfl rfl (cs2 := [.sp 3, .r 7151]) rfl ?_
  refine WL.nil (WQ.thenNormal (WC.seq (WC.seq (WC.region ?_))))
  refine lr 2 rfl trivial ?_
  refine WL.q [] rfl rfl rfl (q_ev tbOk (.v (.int .i64 (b.Entries.length : Int))) rfl (by exact trivial) (by exact lenT)) ?_
  refine lr 1 rfl trivial ?_
  refine WL.nil (WQ.thenNormal ?_)
  refine WC.thenCut (X := (List Int)) (fun gG => ⟨[(3, .p 3 0), (1, .p 1 0)], [(1, .blk 28 [.v (.sl 5 (b.Entries.map eApiCodeEntry)), .v (.sl 3 (b.Notes.map eApiCodeNote))]), (2151, .row 5 1 (gG.map eInt_u8)), (3, .blk 126 [.sp 3, .r 2151])]⟩) (fun gG => nomFormat_j1 b gG = some r) ?_ ?_
  ·refine WC.block ?_
   obtain ⟨eQ2, hl2, hk2⟩ := bnd h
   clear h
   refine WC.loop (σ := Int × (List Int)) (τ := ((List Int))) (fun sS => ⟨[(14, .v (.int .i64 sS.1)), (13, .v (.int .i64 (b.Entries.length : Int))), (12, .v (.sl 5 (b.Entries.map eApiCodeEntry))), (3, .p 3 0), (1, .p 1 0)], [(1, .blk 28 [.v (.sl 5 (b.Entries.map eApiCodeEntry)), .v (.sl 3 (b.Notes.map eApiCodeNote))]), (2151, .row 5 1 (sS.2.map eInt_u8)), (3, .blk 126 [.sp 3, .r 2151])]⟩) (nomFormat_b2 b) [(2151, 7151)] ((0 : Int), []) hl2 ⟨(by exact ⟨rfl, rfl, rfl, rfl, rfl, trivial⟩), (by exact ⟨rfl, rfl, rfl, trivial⟩), rfl, rfl, rfl, rfl⟩ ?_
   rintro ⟨t14, c3_16⟩ m hn2 he2 hx2
   obtain ⟨o2, hf2⟩ := some_of hx2
   have h := hf2
   unfold nomFormat_b2 at h
   show WC _ _ _ ⟨[(14, .v (.int .i64 t14)), (13, .v (.int .i64 (b.Entries.length : Int))), (12, .v (.sl 5 (b.Entries.map eApiCodeEntry))), (3, .p 3 0), (1, .p 1 0)], [(1, .blk 28 [.v (.sl 5 (b.Entries.map eApiCodeEntry)), .v (.sl 3 (b.Notes.map eApiCodeNote))]), (2151, .row 5 1 (c3_16.map eInt_u8)), (3, .blk 126 [.sp 3, .r 2151])]⟩ _ _
   refine WC.seq (WC.region ?_)
   refine lr 1 rfl trivial ?_
   refine WL.nil (WQ.thenNormal (WC.seq ?_))
   refine WC.cond rfl (fun hc3 => ?_) (fun hc3 => ?_)
   ·replace h := ite_t hc3 h
    refine WC.skip (WQ.thenNormal (WC.seq (WC.block (WC.seq (WC.region ?_)))))
    obtain ⟨g3, h⟩ := grd h
    replace h := bnd h; obtain ⟨x4, hxx4, h⟩ := h
    refine WL.q [] rfl rfl rfl (q_idx tbOk rfl (by exact trivial) g3 (map_get (f := eApiCodeEntry) hxx4)) ?_
    refine lr 3 rfl trivial ?_
    refine WL.nil (WQ.thenNormal (WC.region ?_))
    refine lr 1 rfl trivial ?_
    replace h := bnd h; obtain ⟨v9, hvv9, h⟩ := h
    refine WL.call0 fn92 rfl rfl rfl rfl (by exact trivial) rfl (entryLine_con hw hvv9) ?_
    obtain ⟨g4, h⟩ := grd h
    refine lr 1 rfl (by repeat' (first | exact trivial | assumption | intro _ | exact g4 (by assumption) | apply And.intro | exact sideT | (refine and_i ?_ ?_))) ?_
    replace h := bnd h; obtain ⟨v10, hvv10, h⟩ := h
    refine WL.callO [(0, 3), (601, 2151)] [(0, 3), (601, 2151), (651, 7051)] [3, 2151, 7051] fn91 rfl rfl rfl rfl (by exact trivial) (bWriteString_con hw hvv10) rfl rfl (by exact ⟨rfl, rfl, trivial⟩) rfl rfl rfl rfl rfl rfl ?_
    refine WL.nil (WQ.blockNormal (WQ.thenNormal (WC.region ?_)))
    refine lr 2 rfl trivial ?_
    refine WL.nil ?_
    cases h
    exact WQ.next [(2151, 7051)] ((IntKind.i64.wrap (t14 + (1 : Int))), v10.2.2.buf) ⟨(by exact ⟨rfl, rfl, rfl, rfl, rfl, trivial⟩), (by exact ⟨rfl, rfl, rfl, trivial⟩), rfl, rfl, rfl, rfl⟩ (hn2 _ hf2)
   ·replace h := ite_f hc3 h
    refine WC.exit (WQ.thenExit ?_)
    cases h
    have he := he2 _ hf2
    subst he
    replace h := hk2
    try dsimp only at h
    refine WQ.thenExit (WQ.blockExit ?_)
    exact WQ.cut [] c3_16 ⟨(by exact ⟨rfl, rfl, trivial⟩), (by exact ⟨rfl, rfl, rfl, trivial⟩), rfl, rfl, rfl, rfl⟩ h
  ·intro c3_1 h
   replace h : nomFormat_j1 b c3_1 = some _ := h
   unfold nomFormat_j1 at h
   show WC _ _ _ ⟨[(3, .p 3 0), (1, .p 1 0)], [(1, .blk 28 [.v (.sl 5 (b.Entries.map eApiCodeEntry)), .v (.sl 3 (b.Notes.map eApiCodeNote))]), (2151, .row 5 1 (c3_1.map eInt_u8)), (3, .blk 126 [.sp 3, .r 2151])]⟩ _ _
   refine WC.seq (WC.seq (WC.region ?_))
   refine lr 2 rfl trivial ?_
   refine WL.q [] rfl rfl rfl (q_ev tbOk (.v (.int .i64 (b.Notes.length : Int))) rfl (by exact trivial) (by exact lenT)) ?_
   refine lr 1 rfl trivial ?_
   refine WL.nil (WQ.thenNormal ?_)
   refine WC.thenCut (X := (List Int)) (fun gG => ⟨[(3, .p 3 0)], [(2151, .row 5 1 (gG.map eInt_u8)), (3, .blk 126 [.sp 3, .r 2151])]⟩) (fun gG => nomFormat_j2 gG = some r) ?_ ?_
   ·refine WC.block ?_
    obtain ⟨eQ1, hl1, hk1⟩ := bnd h
    clear h
    refine WC.loop (σ := Int × (List Int)) (τ := ((List Int))) (fun sS => ⟨[(26, .v (.int .i64 sS.1)), (25, .v (.int .i64 (b.Notes.length : Int))), (24, .v (.sl 3 (b.Notes.map eApiCodeNote))), (3, .p 3 0)], [(2151, .row 5 1 (sS.2.map eInt_u8)), (3, .blk 126 [.sp 3, .r 2151])]⟩) (nomFormat_b1 b) [] ((0 : Int), c3_1) hl1 ⟨(by exact ⟨rfl, rfl, rfl, rfl, trivial⟩), (by exact ⟨rfl, rfl, trivial⟩), rfl, rfl, rfl, rfl⟩ ?_
    rintro ⟨t26, c3_13⟩ m hn1 he1 hx1
    obtain ⟨o1, hf1⟩ := some_of hx1
    have h := hf1
    unfold nomFormat_b1 at h
    show WC _ _ _ ⟨[(26, .v (.int .i64 t26)), (25, .v (.int .i64 (b.Notes.length : Int))), (24, .v (.sl 3 (b.Notes.map eApiCodeNote))), (3, .p 3 0)], [(2151, .row 5 1 (c3_13.map eInt_u8)), (3, .blk 126 [.sp 3, .r 2151])]⟩ _ _
    refine WC.seq (WC.region ?_)
    refine lr 1 rfl trivial ?_
    refine WL.nil (WQ.thenNormal (WC.seq ?_))
    refine WC.cond rfl (fun hc2 => ?_) (fun hc2 => ?_)
    ·replace h := ite_t hc2 h
     refine WC.skip (WQ.thenNormal (WC.seq (WC.block (WC.seq (WC.region ?_)))))
     obtain ⟨g1, h⟩ := grd h
     replace h := bnd h; obtain ⟨x2, hxx2, h⟩ := h
     refine WL.q [] rfl rfl rfl (q_idx tbOk rfl (by exact trivial) g1 (map_get (f := eApiCodeNote) hxx2)) ?_
     refine lr 3 rfl trivial ?_
     refine WL.nil (WQ.thenNormal (WC.region ?_))
     refine lr 1 rfl trivial ?_
     replace h := bnd h; obtain ⟨v5, hvv5, h⟩ := h
     refine WL.call0 fn93 rfl rfl rfl rfl (by exact trivial) rfl (noteLine_con hw hvv5) ?_
     obtain ⟨g2, h⟩ := grd h
     refine lr 1 rfl (by repeat' (first | exact trivial | assumption | intro _ | exact g2 (by assumption) | apply And.intro | exact sideT | (refine and_i ?_ ?_))) ?_
     replace h := bnd h; obtain ⟨v6, hvv6, h⟩ := h
     refine WL.callO [(0, 3), (601, 2151)] [(0, 3), (601, 2151), (651, 7651)] [3, 2151, 7651] fn91 rfl rfl rfl rfl (by exact trivial) (bWriteString_con hw hvv6) rfl rfl (by exact ⟨rfl, rfl, trivial⟩) rfl rfl rfl rfl rfl rfl ?_
     refine WL.nil (WQ.blockNormal (WQ.thenNormal (WC.region ?_)))
     refine lr 2 rfl trivial ?_
     refine WL.nil ?_
     cases h
     exact WQ.next [(2151, 7651)] ((IntKind.i64.wrap (t26 + (1 : Int))), v6.2.2.buf) ⟨(by exact ⟨rfl, rfl, rfl, rfl, trivial⟩), (by exact ⟨rfl, rfl, trivial⟩), rfl, rfl, rfl, rfl⟩ (hn1 _ hf1)
    ·replace h := ite_f hc2 h
     refine WC.exit (WQ.thenExit ?_)
     cases h
     have he := he1 _ hf1
     subst he
     replace h := hk1
     try dsimp only at h
     refine WQ.thenExit (WQ.blockExit ?_)
     exact WQ.cut [] c3_13 ⟨(by exact ⟨rfl, trivial⟩), (by exact ⟨rfl, rfl, trivial⟩), rfl, rfl, rfl, rfl⟩ h
   ·intro c3_12 h
    replace h : nomFormat_j2 c3_12 = some _ := h
    unfold nomFormat_j2 at h
    show WC _ _ _ ⟨[(3, .p 3 0)], [(2151, .row 5 1 (c3_12.map eInt_u8)), (3, .blk 126 [.sp 3, .r 2151])]⟩ _ _
    refine WC.seq (WC.region ?_)
    replace h := bnd h; obtain ⟨v2, hvv2, h⟩ := h
    refine WL.callO [(0, 3), (601, 2151)] [(0, 3), (601, 2151)] [3, 2151] fn94 rfl rfl rfl rfl (by exact trivial) (bString_con hw hvv2) rfl rfl (by exact ⟨rfl, rfl, trivial⟩) rfl rfl rfl rfl rfl rfl ?_
    refine lr 1 rfl trivial ?_
    refine WL.nil (WQ.thenNormal (WC.ret ?_))
    cases h
    exact WQ.rets tbOk hR [] (.inl rfl) rfl rfl (Le.refl _) (by exact trivial) rfl rfl rfl rfl

theorem lawNFormat_con {wg : World} (hw : WG wg) {l : (List Int)} {raw : ApiNomenclature} {r : Bool} (h : lawNFormat l raw = some r) : Con Tryz.prog wg gl 10 [.v (.sl 1 (l.map eInt_i64)), .v (.agg [.sl 5 (raw.Entries.map eApiCodeEntry), .sl 3 (raw.Notes.map eApiCodeNote)])] [] (.v (.bool r)) [] := by
 unfold lawNFormat at h
 refine con_of_WC (S := slotsOf 0 _) Tryz.func10 rfl Tryz.ntmps10 rfl (fun t x hx => (slotsOf_get hx).2) ?_
 intro F L w ρ0 R hR
 show WC _ _ _ ⟨[(0, .v (.sl 1 (l.map eInt_i64))), (1, .v (.agg [.sl 5 (raw.Entries.map eApiCodeEntry), .sl 3 (raw.Notes.map eApiCodeNote)]))], []⟩ _ _
 refine WC.seq (WC.region ?_)
 refine lr 2 rfl trivial ?_
 refine WL.nil (WQ.thenNormal (WC.seq (WC.region ?_)))
 refine lr 1 rfl trivial ?_
 replace h := bnd h; obtain ⟨v, hvv, h⟩ := h
 refine WL.call0 fn13 rfl rfl rfl rfl (by exact trivial) rfl (madeNom_con hw hvv) ?_
 refine lr 2 rfl trivial ?_
 refine WL.nil (WQ.thenNormal (WC.seq (WC.region ?_)))
 refine lr 1 rfl trivial ?_
 replace h := bnd h; obtain ⟨v2, hvv2, h⟩ := h
 refine WL.call0 fn37 rfl rfl rfl rfl (by exact trivial) rfl (nomFormat_con hw hvv2) ?_
 refine lr 1 rfl trivial ?_
 refine WL.nil (WQ.thenNormal (WC.seq (WC.seq (WC.order mixed ?_))))
 refine wr 2 rfl trivial ?_
 replace h := bnd h; obtain ⟨v3, hvv3, h⟩ := h
 refine WR.call0 fn12 rfl rfl rfl rfl (by exact trivial) rfl (refFormatBook_con hw hvv3) ?_
 refine wr 3 rfl (by exact sideR) ?_
 replace h := bnd h; obtain ⟨v4, hvv4, h⟩ := h
 refine WR.gcall0 fn38 rfl rfl rfl rfl rfl (fun _ => (by exact sideR)) rfl (fun hg => (few09_con hw (ite_t hg hvv4))) ?_
 replace h := bnd h; obtain ⟨v5, hvv5, h⟩ := h
 refine WR.gcall0 fn37 rfl rfl rfl rfl rfl (fun _ => (by exact sideR)) rfl (fun hg => (nomFormat_con hw (ite_t hg hvv5))) ?_
 refine wr 1 rfl (by exact sideR) ?_
 replace h := bnd h; obtain ⟨v6, hvv6, h⟩ := h
 refine WR.gcall0 fn38 rfl rfl rfl rfl rfl (fun _ => (by exact sideR)) rfl (fun hg => (few09_con hw (ite_t hg hvv6))) ?_
 replace h := bnd h; obtain ⟨v7, hvv7, h⟩ := h
 refine WR.gcall0 fn12 rfl rfl rfl rfl rfl (fun _ => (by exact sideR)) rfl (fun hg => (refFormatBook_con hw (ite_t hg hvv7))) ?_
 refine wr 2 rfl (by exact sideR) ?_
 refine WR.nil (by kernel_rfl) (WQ.thenNormal ?_)
 refine WC.cond rfl (fun hc1 => ?_) (fun hc1 => ?_)
 ·replace h := ite_t hc1 h
  refine WC.seq (WC.region ?_)
  refine lr 1 rfl trivial ?_
  refine WL.nil (WQ.thenNormal (WC.ret (WQ.thenRet ?_)))
  cases h
  exact WQ.rets tbOk hR [] (.inl rfl) rfl rfl (Le.refl _) (by exact trivial) rfl rfl rfl rfl
 ·replace h := ite_f hc1 h
  refine WC.skip (WQ.thenNormal (WC.seq (WC.region ?_)))
  refine lr 1 rfl trivial ?_
  replace h := bnd h; obtain ⟨v8, hvv8, h⟩ := h
  refine WL.call0 fn17 rfl rfl rfl rfl (by exact trivial) rfl (nomParse_con hw hvv8) ?_
  refine lr 8 rfl trivial ?_
  refine WL.nil (WQ.thenNormal (WC.seq (WC.region ?_)))
  refine lr 6 rfl (by exact sideR) ?_
  refine WL.gq [] rfl rfl rfl rfl (fun hg => q_ev tbOk (.v (.int .i64 (v.Entries.length : Int))) rfl (by exact sideR) (by exact lenT)) ?_
  refine lr 2 rfl (by exact sideR) ?_
  refine WL.gq [] rfl rfl rfl rfl (fun hg => q_ev tbOk (.v (.int .i64 (v.Notes.length : Int))) rfl (by exact sideR) (by exact lenT)) ?_
  refine lr 6 rfl (by exact sideR) ?_
  replace h := bnd h; obtain ⟨v9, hvv9, h⟩ := h
  refine WL.gcall0 fn19 rfl rfl rfl rfl rfl (fun _ => (by exact sideR)) rfl (fun hg => (sameBook_con hw (ite_t hg hvv9))) ?_
  refine lr 2 rfl (by exact sideR) ?_
  replace h := bnd h; obtain ⟨v10, hvv10, h⟩ := h
  refine WL.gcall0 fn20 rfl rfl rfl rfl rfl (fun _ => (by exact sideR)) rfl (fun hg => (awake09_con hw (ite_t hg hvv10))) ?_
  refine lr 2 rfl (by exact sideR) ?_
  refine WL.nil (WQ.thenNormal (WC.ret ?_))
  cases h
  exact WQ.rets tbOk hR [] (.inl rfl) rfl rfl (Le.refl _) (by exact trivial) rfl rfl rfl rfl

end Go.Proofs.YtfkefolbabniaaaGreatDoor
