/- Contracts: the program's functions compute the plain ones; by program (gen.py). -/
import Derived.Test.YtbilobjddflpeaaGreatDoorLib
import Derived.Test.YtbilobjddflpeaaGreatDoorPk
import Derived.Test.YtbilobjddflpeaaGreatDoorBl
import Derived.Test.YtbilobjddflpeaaGreatDoorCa
import Derived.Test.YtbilobjddflpeaaGreatDoorCb
import Derived.Test.YtbilobjddflpeaaGreatDoorCc
import Derived.Test.YtbilobjddflpeaaGreatDoorCd
import Derived.Test.YtbilobjddflpeaaGreatDoorCe
import Derived.Test.YtbilobjddflpeaaGreatDoorCf
import Derived.Test.YtbilobjddflpeaaGreatDoorCg
import Derived.Test.YtbilobjddflpeaaGreatDoorCj
set_option linter.unusedVariables false
set_option linter.unusedSimpArgs false
set_option maxHeartbeats 4000000
set_option maxRecDepth 20000
namespace Go.Proofs.YtbilobjddflpeaaGreatDoor
open Go.V Go.C

theorem bWriteString_con {wg : World} (hw : WG wg) {b : StringsBuilder} {s : Str} {r : Int × Bool × StringsBuilder} (h : bWriteString b s = some r) : Con Tryz.prog wg gl 53 [.p 0 0, .v (.str s)] [(601, .row 5 1 (b.buf.map eInt_u8)), (0, .blk 82 [.sp 0, .r 601])] (.tup [.v (.int .i64 r.1), .v (.err r.2.1)]) [(0, .blk 82 [.sp 0, .r 651]), (601, .dead), (651, .row 5 1 (r.2.2.buf.map eInt_u8))] := by
 unfold bWriteString at h
 refine con_of_WC (S := slotsOf 0 _) Tryz.func53 rfl Tryz.ntmps53 rfl (fun t x hx => (slotsOf_get hx).2) ?_
 intro F L w ρ0 R hR
 show WC _ _ _ ⟨[(0, .p 0 0), (1, .v (.str s))], [(601, .row 5 1 (b.buf.map eInt_u8)), (0, .blk 82 [.sp 0, .r 601])]⟩ _ _
 refine WC.seq (WC.region ?_)
 refine lr 2 rfl trivial ?_
 refine WL.nil (WQ.thenNormal (WC.seq (WC.region ?_)))
 refine lr 1 rfl trivial ?_
 replace h := bnd h; obtain ⟨v, hvv, h⟩ := h
 refine WL.callO [(0, 0), (601, 601)] [(0, 0), (601, 601)] [0, 601] fn74 rfl rfl rfl rfl (by exact trivial) (bCheck_con hw hvv) rfl rfl (by exact ⟨rfl, rfl, trivial⟩) rfl rfl rfl rfl rfl rfl ?_
 refine WL.nil (WQ.thenNormal (WC.seq (WC.region ?_)))
 refine lr 6 rfl trivial ?_
 obtain ⟨g1, h⟩ := grd h
 refine WL.appendS tbOk ((b.buf ++ (intsB s)).map eInt_u8) [14, 601] apB37 rfl rfl rfl rfl rfl (by exact trivial) (by have := g1; simp only [List.length_map, List.length_nil] at this ⊢; omega) rfl rfl (by simp only [intsB, List.map_append, List.map_map, List.map_nil, List.nil_append]; rfl) rfl ?_
 refine lr 3 rfl trivial ?_
 refine WL.nil (WQ.thenNormal (WC.seq (WC.region ?_)))
 refine lr 4 rfl trivial ?_
 refine WL.nil (WQ.thenNormal (WC.ret ?_))
 cases h
 exact WQ.rets tbOk (r := .tup [.v (.int .i64 (s.length : Int)), .v (.err true)]) hR [(651, 14)] (.inl rfl) rfl rfl (Le.tup (.cons (Le.refl _) (.cons Le.nerr .nil))) (by exact ⟨rfl, rfl, rfl, trivial⟩) rfl rfl rfl rfl

theorem bWriteByte_con {wg : World} (hw : WG wg) {b : StringsBuilder} {c : Int} {r : Bool × StringsBuilder} (h : bWriteByte b c = some r) : Con Tryz.prog wg gl 55 [.p 0 0, .v (.int .u8 c)] [(601, .row 5 1 (b.buf.map eInt_u8)), (0, .blk 82 [.sp 0, .r 601])] (.v (.err r.1)) [(0, .blk 82 [.sp 0, .r 651]), (601, .dead), (651, .row 5 1 (r.2.buf.map eInt_u8))] := by
 unfold bWriteByte at h
 refine con_of_WC (S := slotsOf 0 _) Tryz.func55 rfl Tryz.ntmps55 rfl (fun t x hx => (slotsOf_get hx).2) ?_
 intro F L w ρ0 R hR
 show WC _ _ _ ⟨[(0, .p 0 0), (1, .v (.int .u8 c))], [(601, .row 5 1 (b.buf.map eInt_u8)), (0, .blk 82 [.sp 0, .r 601])]⟩ _ _
 refine WC.seq (WC.region ?_)
 refine lr 1 rfl trivial ?_
 refine WL.nil (WQ.thenNormal (WC.seq (WC.region ?_)))
 refine lr 1 rfl trivial ?_
 replace h := bnd h; obtain ⟨v, hvv, h⟩ := h
 refine WL.callO [(0, 0), (601, 601)] [(0, 0), (601, 601)] [0, 601] fn74 rfl rfl rfl rfl (by exact trivial) (bCheck_con hw hvv) rfl rfl (by exact ⟨rfl, rfl, trivial⟩) rfl rfl rfl rfl rfl rfl ?_
 refine WL.nil (WQ.thenNormal (WC.seq (WC.region ?_)))
 refine lr 7 rfl trivial ?_
 obtain ⟨g1, h⟩ := grd h
 refine WL.append tbOk ((b.buf ++ [c]).map eInt_u8) [14, 601] ap37 rfl rfl rfl rfl (fun _ e => by cases e; rfl) (by exact trivial) (map_cells (f := eInt_u8) (xs := [c]) fun _ => rfl) (by have := g1; simp only [List.length_map, List.length_nil, List.length_cons] at this ⊢; omega) rfl rfl (by simp only [List.map_append]; try rfl) rfl ?_
 refine lr 3 rfl trivial ?_
 refine WL.nil (WQ.thenNormal (WC.seq (WC.region ?_)))
 refine lr 1 rfl trivial ?_
 refine WL.nil (WQ.thenNormal (WC.ret ?_))
 cases h
 exact WQ.rets tbOk (r := .v (.err true)) hR [(651, 14)] (.inl rfl) rfl rfl Le.nerr (by exact ⟨rfl, rfl, rfl, trivial⟩) rfl rfl rfl rfl

theorem meFormat_con {wg : World} (hw : WG wg) {l : (List ApiMeasure)} {r : Str} (h : meFormat l = some r) : Con Tryz.prog wg gl 30 [.v (.sl 15 (l.map eApiMeasure))] [] (.v (.str r)) [] := by
 unfold meFormat at h
 refine con_of_WC (S := slotsOf 0 _) Tryz.func30 rfl Tryz.ntmps30 rfl (fun t x hx => (slotsOf_get hx).2) ?_
 intro F L w ρ0 R hR
 show WC _ _ _ ⟨[(0, .v (.sl 15 (l.map eApiMeasure)))], []⟩ _ _
 refine WC.seq (WC.region ?_)
 refine lr 1 rfl trivial ?_
 refine WL.nil (WQ.thenNormal (WC.seq (WC.seq (WC.region ?_))))
 refine lr 1 rfl trivial ?_
 replace h := bnd h; obtain ⟨v, hvv, h⟩ := h
 refine WL.call0 fn12 rfl rfl rfl rfl (by exact trivial) rfl (meValidate_con hw hvv) ?_
 refine lr 1 rfl trivial ?_
 refine WL.nil (WQ.thenNormal ?_)
 refine WC.cond rfl (fun hc1 => ?_) (fun hc1 => ?_)
 ·replace h := ite_t hc1 h
  refine WC.seq (WC.region ?_)
  refine lr 1 rfl trivial ?_
  refine WL.nil (WQ.thenNormal (WC.ret (WQ.thenRet ?_)))
  cases h
  exact WQ.rets tbOk hR [] (.inl rfl) rfl rfl (Le.refl _) (by exact trivial) rfl rfl rfl rfl
 ·replace h := ite_f hc1 h
  refine WC.skip (WQ.thenNormal (WC.seq (WC.region ?_)))
  refine lr 1 rfl trivial ?_
  refine WL.spNil 3 0 rfl rfl (cs2 := [.sp 3, .v (.raw (.slice none 0 0))]) rfl ?_
  refine WL.rowNilB 3 1 7151 5 1 rfl rfl rfl (cs2 := [.sp 3, .r 7151]) rfl ?_
  refine WL.nil (WQ.thenNormal (WC.seq (WC.seq (WC.region ?_))))
  refine lr 1 rfl trivial ?_
  refine WL.q [] rfl rfl rfl (q_ev tbOk (.v (.int .i64 (l.length : Int))) rfl (by exact trivial) (by exact lenT)) ?_
  refine lr 1 rfl trivial ?_
  refine WL.nil (WQ.thenNormal ?_)
  refine WC.thenCut (X := (List Int)) (fun gG => ⟨[(3, .p 3 0)], [(2151, .row 5 1 (gG.map eInt_u8)), (3, .blk 82 [.sp 3, .r 2151])]⟩) (fun gG => meFormat_j1 gG = some r) ?_ ?_
  ·refine WC.block ?_
   obtain ⟨eQ1, hl1, hk1⟩ := bnd h
   clear h
   refine WC.loop (σ := Int × (List Int)) (τ := ((List Int))) (fun sS => ⟨[(11, .v (.int .i64 sS.1)), (10, .v (.int .i64 (l.length : Int))), (9, .v (.sl 15 (l.map eApiMeasure))), (3, .p 3 0)], [(2151, .row 5 1 (sS.2.map eInt_u8)), (3, .blk 82 [.sp 3, .r 2151])]⟩) (meFormat_b1 l) [(2151, 7151)] ((0 : Int), []) hl1 ⟨(by exact ⟨rfl, rfl, rfl, rfl, trivial⟩), (by exact ⟨rfl, rfl, trivial⟩), rfl, rfl, rfl, rfl⟩ ?_
   rintro ⟨t11, c3_12⟩ m hn1 he1 hx1
   obtain ⟨o1, hf1⟩ := some_of hx1
   have h := hf1
   unfold meFormat_b1 at h
   show WC _ _ _ ⟨[(11, .v (.int .i64 t11)), (10, .v (.int .i64 (l.length : Int))), (9, .v (.sl 15 (l.map eApiMeasure))), (3, .p 3 0)], [(2151, .row 5 1 (c3_12.map eInt_u8)), (3, .blk 82 [.sp 3, .r 2151])]⟩ _ _
   refine WC.seq (WC.region ?_)
   refine lr 1 rfl trivial ?_
   refine WL.nil (WQ.thenNormal (WC.seq ?_))
   refine WC.cond rfl (fun hc2 => ?_) (fun hc2 => ?_)
   ·replace h := ite_t hc2 h
    refine WC.skip (WQ.thenNormal (WC.seq (WC.block (WC.seq (WC.region ?_)))))
    obtain ⟨g1, h⟩ := grd h
    replace h := bnd h; obtain ⟨x2, hxx2, h⟩ := h
    refine WL.q [] rfl rfl rfl (q_idx tbOk rfl (by exact trivial) g1 (map_get (f := eApiMeasure) hxx2)) ?_
    refine lr 3 rfl trivial ?_
    refine WL.nil (WQ.thenNormal (WC.seq (WC.region ?_)))
    refine lr 1 rfl trivial ?_
    replace h := bnd h; obtain ⟨v6, hvv6, h⟩ := h
    refine WL.call0 fn54 rfl rfl rfl rfl (by exact trivial) rfl (formatMeasure_con hw hvv6) ?_
    replace h := bnd h; obtain ⟨v7, hvv7, h⟩ := h
    refine WL.callO [(0, 3), (601, 2151)] [(0, 3), (601, 2151), (651, 6851)] [3, 2151, 6851] fn53 rfl rfl rfl rfl (by exact trivial) (bWriteString_con hw hvv7) rfl rfl (by exact ⟨rfl, rfl, trivial⟩) rfl rfl rfl rfl rfl rfl ?_
    refine WL.nil (WQ.thenNormal (WC.region ?_))
    replace h := bnd h; obtain ⟨v8, hvv8, h⟩ := h
    refine WL.callO [(0, 3), (601, 6851)] [(0, 3), (601, 6851), (651, 6901)] [3, 6851, 6901] fn55 rfl rfl rfl rfl (by exact trivial) (bWriteByte_con hw hvv8) rfl rfl (by exact ⟨rfl, rfl, trivial⟩) rfl rfl rfl rfl rfl rfl ?_
    refine WL.nil (WQ.blockNormal (WQ.thenNormal (WC.region ?_)))
    refine lr 2 rfl trivial ?_
    refine WL.nil ?_
    cases h
    exact WQ.next [(2151, 6901)] ((IntKind.i64.wrap (t11 + (1 : Int))), v8.2.buf) ⟨(by exact ⟨rfl, rfl, rfl, rfl, trivial⟩), (by exact ⟨rfl, rfl, trivial⟩), rfl, rfl, rfl, rfl⟩ (hn1 _ hf1)
   ·replace h := ite_f hc2 h
    refine WC.exit (WQ.thenExit ?_)
    cases h
    have he := he1 _ hf1
    subst he
    replace h := hk1
    try dsimp only at h
    refine WQ.thenExit (WQ.blockExit ?_)
    exact WQ.cut [] c3_12 ⟨(by exact ⟨rfl, trivial⟩), (by exact ⟨rfl, rfl, trivial⟩), rfl, rfl, rfl, rfl⟩ h
  ·intro c3_1 h
   replace h : meFormat_j1 c3_1 = some _ := h
   unfold meFormat_j1 at h
   show WC _ _ _ ⟨[(3, .p 3 0)], [(2151, .row 5 1 (c3_1.map eInt_u8)), (3, .blk 82 [.sp 3, .r 2151])]⟩ _ _
   refine WC.seq (WC.region ?_)
   replace h := bnd h; obtain ⟨v2, hvv2, h⟩ := h
   refine WL.callO [(0, 3), (601, 2151)] [(0, 3), (601, 2151)] [3, 2151] fn56 rfl rfl rfl rfl (by exact trivial) (bString_con hw hvv2) rfl rfl (by exact ⟨rfl, rfl, trivial⟩) rfl rfl rfl rfl rfl rfl ?_
   refine lr 1 rfl trivial ?_
   refine WL.nil (WQ.thenNormal (WC.ret ?_))
   cases h
   exact WQ.rets tbOk hR [] (.inl rfl) rfl rfl (Le.refl _) (by exact trivial) rfl rfl rfl rfl

theorem lawFormat_con {wg : World} (hw : WG wg) {l : (List Int)} {raw : (List ApiMeasure)} {r : Bool} (h : lawFormat l raw = some r) : Con Tryz.prog wg gl 10 [.v (.sl 1 (l.map eInt_i64)), .v (.sl 15 (raw.map eApiMeasure))] [] (.v (.bool r)) [] := by
 unfold lawFormat at h
 refine con_of_WC (S := slotsOf 0 _) Tryz.func10 rfl Tryz.ntmps10 rfl (fun t x hx => (slotsOf_get hx).2) ?_
 intro F L w ρ0 R hR
 show WC _ _ _ ⟨[(0, .v (.sl 1 (l.map eInt_i64))), (1, .v (.sl 15 (raw.map eApiMeasure)))], []⟩ _ _
 refine WC.seq (WC.region ?_)
 refine lr 1 rfl trivial ?_
 refine WL.nil (WQ.thenNormal (WC.seq (WC.region ?_)))
 refine lr 1 rfl trivial ?_
 replace h := bnd h; obtain ⟨v, hvv, h⟩ := h
 refine WL.call0 fn14 rfl rfl rfl rfl (by exact trivial) rfl (madeMeasures_con hw hvv) ?_
 refine lr 1 rfl trivial ?_
 refine WL.nil (WQ.thenNormal (WC.seq (WC.region ?_)))
 refine lr 1 rfl trivial ?_
 replace h := bnd h; obtain ⟨v2, hvv2, h⟩ := h
 refine WL.call0 fn30 rfl rfl rfl rfl (by exact trivial) rfl (meFormat_con hw hvv2) ?_
 refine lr 1 rfl trivial ?_
 refine WL.nil (WQ.thenNormal (WC.seq (WC.seq (WC.region ?_))))
 refine lr 2 rfl trivial ?_
 replace h := bnd h; obtain ⟨v3, hvv3, h⟩ := h
 refine WL.call0 fn17 rfl rfl rfl rfl (by exact trivial) rfl (refFormat_con hw hvv3) ?_
 refine lr 3 rfl (by exact sideR) ?_
 replace h := bnd h; obtain ⟨v4, hvv4, h⟩ := h
 refine WL.gcall0 fn11 rfl rfl rfl rfl rfl (fun _ => (by exact sideR)) rfl (fun hg => (few19_con hw (ite_t hg hvv4))) ?_
 replace h := bnd h; obtain ⟨v5, hvv5, h⟩ := h
 refine WL.gcall0 fn30 rfl rfl rfl rfl rfl (fun _ => (by exact sideR)) rfl (fun hg => (meFormat_con hw (ite_t hg hvv5))) ?_
 refine lr 1 rfl (by exact sideR) ?_
 replace h := bnd h; obtain ⟨v6, hvv6, h⟩ := h
 refine WL.gcall0 fn11 rfl rfl rfl rfl rfl (fun _ => (by exact sideR)) rfl (fun hg => (few19_con hw (ite_t hg hvv6))) ?_
 replace h := bnd h; obtain ⟨v7, hvv7, h⟩ := h
 refine WL.gcall0 fn17 rfl rfl rfl rfl rfl (fun _ => (by exact sideR)) rfl (fun hg => (refFormat_con hw (ite_t hg hvv7))) ?_
 refine lr 2 rfl (by exact sideR) ?_
 refine WL.nil (WQ.thenNormal ?_)
 refine WC.cond rfl (fun hc1 => ?_) (fun hc1 => ?_)
 ·replace h := ite_t hc1 h
  refine WC.seq (WC.region ?_)
  refine lr 1 rfl trivial ?_
  refine WL.nil (WQ.thenNormal (WC.ret (WQ.thenRet ?_)))
  cases h
  exact WQ.rets tbOk hR [] (.inl rfl) rfl rfl (Le.refl _) (by exact trivial) rfl rfl rfl rfl
 ·replace h := ite_f hc1 h
  refine WC.skip (WQ.thenNormal (WC.seq (WC.region ?_)))
  refine lr 1 rfl trivial ?_
  replace h := bnd h; obtain ⟨v8, hvv8, h⟩ := h
  refine WL.call0 fn20 rfl rfl rfl rfl (by exact trivial) rfl (meParse_con hw hvv8) ?_
  refine lr 7 rfl trivial ?_
  refine WL.nil (WQ.thenNormal (WC.seq (WC.region ?_)))
  refine lr 5 rfl (by exact sideR) ?_
  refine WL.gq [] rfl rfl rfl rfl (fun hg => q_ev tbOk (.v (.int .i64 (v.length : Int))) rfl (by exact sideR) (by exact lenT)) ?_
  refine lr 5 rfl (by exact sideR) ?_
  replace h := bnd h; obtain ⟨v9, hvv9, h⟩ := h
  refine WL.gcall0 fn22 rfl rfl rfl rfl rfl (fun _ => (by exact sideR)) rfl (fun hg => (sameMeasures_con hw (ite_t hg hvv9))) ?_
  refine lr 2 rfl (by exact sideR) ?_
  replace h := bnd h; obtain ⟨v10, hvv10, h⟩ := h
  refine WL.gcall0 fn15 rfl rfl rfl rfl rfl (fun _ => (by exact sideR)) rfl (fun hg => (awake19_con hw (ite_t hg hvv10))) ?_
  refine lr 2 rfl (by exact sideR) ?_
  refine WL.nil (WQ.thenNormal (WC.ret ?_))
  cases h
  exact WQ.rets tbOk hR [] (.inl rfl) rfl rfl (Le.refl _) (by exact trivial) rfl rfl rfl rfl

end Go.Proofs.YtbilobjddflpeaaGreatDoor
