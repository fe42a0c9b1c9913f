/- Contracts: the program's functions compute the plain ones; by program (gen.py). -/
import Derived.Test.YtfeleiepnifbcaaGreatDoorLib
import Derived.Test.YtfeleiepnifbcaaGreatDoorPa
set_option linter.unusedVariables false
set_option linter.unusedSimpArgs false
set_option maxHeartbeats 4000000
set_option maxRecDepth 20000
namespace Go.Proofs.YtfeleiepnifbcaaGreatDoor
open Go.V Go.C

theorem within_con {wg : World} (hw : WG wg) {x : Int} {n1 : Int} {r : Int} (h : within x n1 = some r) : Con Tryz.prog wg gl 12 [.v (.int .i64 x), .v (.int .i64 n1)] [] (.v (.int .i64 r)) [] := by
 unfold within at h
 refine con_of_WC (S := slotsOf 0 _) Tryz.func12 rfl Tryz.ntmps12 rfl (fun t x hx => (slotsOf_get hx).2) ?_
 intro F L w ρ0 R hR
 show WC _ _ _ ⟨[(0, .v (.int .i64 x)), (1, .v (.int .i64 n1))], []⟩ _ _
 refine WC.seq (WC.region ?_)
 refine lr 1 rfl trivial ?_
 refine WL.nil (WQ.thenNormal (WC.seq (WC.region ?_)))
 obtain ⟨g1, h⟩ := grd h
 obtain ⟨g2, h⟩ := grd h
 refine lr 8 rfl (by repeat' (first | exact trivial | assumption | intro _ | exact g1 (by assumption) | exact g2 (by assumption) | apply And.intro | exact sideT | (refine and_i ?_ ?_))) ?_
 refine WL.nil (WQ.thenNormal (WC.ret ?_))
 cases h
 exact WQ.rets tbOk hR [] (.inl rfl) rfl rfl (Le.refl _) (by exact trivial) rfl rfl rfl rfl

theorem srcNext_con {wg : World} (hw : WG wg) {s : CustomsmadeSource} {n1 : Int} {r : Int × CustomsmadeSource} (h : srcNext s n1 = some r) : Con Tryz.prog wg gl 25 [.p 0 0, .v (.int .i64 n1)] [(0, .blk 52 [.v (.sl 1 (s.L.map eInt_i64)), .v (.int .i64 s.I)])] (.v (.int .i64 r.1)) [(0, .blk 52 [.v (.sl 1 (r.2.L.map eInt_i64)), .v (.int .i64 r.2.I)])] := by
 unfold srcNext at h
 refine con_of_WC (S := slotsOf 0 _) Tryz.func25 rfl Tryz.ntmps25 rfl (fun t x hx => (slotsOf_get hx).2) ?_
 intro F L w ρ0 R hR
 show WC _ _ _ ⟨[(0, .p 0 0), (1, .v (.int .i64 n1))], [(0, .blk 52 [.v (.sl 1 (s.L.map eInt_i64)), .v (.int .i64 s.I)])]⟩ _ _
 refine WC.seq (WC.region ?_)
 refine lr 1 rfl trivial ?_
 refine WL.nil (WQ.thenNormal (WC.seq (WC.seq (WC.order mixed ?_))))
 refine wr 8 rfl trivial ?_
 refine WR.q [] rfl rfl rfl (q_ev tbOk (.v (.int .i64 (s.L.length : Int))) rfl (by exact trivial) (by exact lenT)) ?_
 refine wr 1 rfl trivial ?_
 refine WR.nil (by kernel_rfl) (WQ.thenNormal ?_)
 refine WC.cond rfl (fun hc1 => ?_) (fun hc1 => ?_)
 ·replace h := ite_t hc1 h
  refine WC.seq (WC.region ?_)
  refine lr 1 rfl trivial ?_
  refine WL.nil (WQ.thenNormal (WC.ret (WQ.thenRet ?_)))
  cases h
  exact WQ.rets tbOk hR [] (.inl rfl) rfl rfl (Le.refl _) (by exact ⟨rfl, trivial⟩) rfl rfl rfl rfl
 ·replace h := ite_f hc1 h
  refine WC.skip (WQ.thenNormal (WC.seq (WC.region ?_)))
  refine lr 8 rfl trivial ?_
  refine WL.nil (WQ.thenNormal (WC.seq (WC.order mixed ?_)))
  refine wr 9 rfl trivial ?_
  obtain ⟨g1, h⟩ := grd h
  replace h := bnd h; obtain ⟨x, hxx, h⟩ := h
  refine WR.q [] rfl rfl rfl (q_idx tbOk rfl (by exact trivial) g1 (map_get (f := eInt_i64) hxx)) ?_
  refine wr 2 rfl trivial ?_
  replace h := bnd h; obtain ⟨v, hvv, h⟩ := h
  refine WR.call0 fn12 rfl rfl rfl rfl (by exact trivial) rfl (within_con hw hvv) ?_
  refine wr 1 rfl trivial ?_
  refine WR.nil (by kernel_rfl) (WQ.thenNormal (WC.ret ?_))
  cases h
  exact WQ.rets tbOk hR [] (.inl rfl) rfl rfl (Le.refl _) (by exact ⟨rfl, trivial⟩) rfl rfl rfl rfl

theorem madeCut_con {wg : World} (hw : WG wg) {l : (List Int)} {n1 : Int} {r : (List Int)} (h : madeCut l n1 = some r) : Con Tryz.prog wg gl 21 [.v (.sl 1 (l.map eInt_i64)), .v (.int .i64 n1)] [] (.v (.sl 1 (r.map eInt_i64))) [] := by
 unfold madeCut at h
 refine con_of_WC (S := slotsOf 0 _) Tryz.func21 rfl Tryz.ntmps21 rfl (fun t x hx => (slotsOf_get hx).2) ?_
 intro F L w ρ0 R hR
 show WC _ _ _ ⟨[(0, .v (.sl 1 (l.map eInt_i64))), (1, .v (.int .i64 n1))], []⟩ _ _
 refine WC.seq (WC.region ?_)
 refine lr 1 rfl trivial ?_
 refine WL.nil (WQ.thenNormal (WC.seq (WC.seq (WC.region ?_))))
 refine lr 1 rfl trivial ?_
 refine WL.q [] rfl rfl rfl (q_ev tbOk (.v (.int .i64 (l.length : Int))) rfl (by exact trivial) (by exact lenT)) ?_
 refine lr 2 rfl trivial ?_
 refine WL.nil (WQ.thenNormal ?_)
 refine WC.cond rfl (fun hc1 => ?_) (fun hc1 => ?_)
 ·replace h := ite_t hc1 h
  refine WC.seq (WC.region ?_)
  refine lr 2 rfl trivial ?_
  obtain ⟨g1, h⟩ := grd h
  refine WL.q [] rfl rfl rfl (q_ev tbOk (.v (.sl 1 (((l.take n1.toNat).drop (0 : Int).toNat).map eInt_i64))) rfl (by exact sideR) (by exact tdT)) ?_
  refine lr 1 rfl trivial ?_
  refine WL.nil (WQ.thenNormal (WC.ret (WQ.thenRet ?_)))
  cases h
  exact WQ.rets tbOk hR [] (.inl rfl) rfl rfl (Le.refl _) (by exact trivial) rfl rfl rfl rfl
 ·replace h := ite_f hc1 h
  refine WC.skip (WQ.thenNormal (WC.seq (WC.region ?_)))
  refine lr 2 rfl trivial ?_
  refine WL.nil (WQ.thenNormal (WC.ret ?_))
  cases h
  exact WQ.rets tbOk hR [] (.inl rfl) rfl rfl (Le.refl _) (by exact trivial) rfl rfl rfl rfl

theorem srcRate_con {wg : World} (hw : WG wg) {s : CustomsmadeSource} {r : Int × CustomsmadeSource} (h : srcRate s = some r) : Con Tryz.prog wg gl 49 [.p 0 0] [(0, .blk 52 [.v (.sl 1 (s.L.map eInt_i64)), .v (.int .i64 s.I)])] (.v (.int .i64 r.1)) [(0, .blk 52 [.v (.sl 1 (r.2.L.map eInt_i64)), .v (.int .i64 r.2.I)])] := by
 unfold srcRate at h
 refine con_of_WC (S := slotsOf 0 _) Tryz.func49 rfl Tryz.ntmps49 rfl (fun t x hx => (slotsOf_get hx).2) ?_
 intro F L w ρ0 R hR
 show WC _ _ _ ⟨[(0, .p 0 0)], [(0, .blk 52 [.v (.sl 1 (s.L.map eInt_i64)), .v (.int .i64 s.I)])]⟩ _ _
 refine WC.seq (WC.region ?_)
 refine lr 1 rfl trivial ?_
 refine WL.nil (WQ.thenNormal (WC.seq (WC.seq (WC.region ?_))))
 refine lr 1 rfl trivial ?_
 replace h := bnd h; obtain ⟨v, hvv, h⟩ := h
 refine WL.callO [(0, 0)] [(0, 0)] [0] fn25 rfl rfl rfl rfl (by exact trivial) (srcNext_con hw hvv) rfl rfl (by exact ⟨rfl, trivial⟩) rfl rfl rfl rfl rfl rfl ?_
 refine lr 1 rfl trivial ?_
 refine WL.nil (WQ.thenNormal ?_)
 refine WC.cond rfl (fun hc1 => ?_) (fun hc1 => ?_)
 ·replace h := ite_t hc1 h
  refine WC.seq (WC.region ?_)
  refine lr 1 rfl trivial ?_
  replace h := bnd h; obtain ⟨v2, hvv2, h⟩ := h
  refine WL.callO [(0, 0)] [(0, 0)] [0] fn25 rfl rfl rfl rfl (by exact trivial) (srcNext_con hw hvv2) rfl rfl (by exact ⟨rfl, trivial⟩) rfl rfl rfl rfl rfl rfl ?_
  refine lr 2 rfl trivial ?_
  refine WL.nil (WQ.thenNormal (WC.ret (WQ.thenRet ?_)))
  cases h
  exact WQ.rets tbOk hR [] (.inl rfl) rfl rfl (Le.refl _) (by exact ⟨rfl, trivial⟩) rfl rfl rfl rfl
 ·replace h := ite_f hc1 h
  refine WC.skip (WQ.thenNormal (WC.seq (WC.region ?_)))
  refine lr 1 rfl trivial ?_
  replace h := bnd h; obtain ⟨v3, hvv3, h⟩ := h
  refine WL.callO [(0, 0)] [(0, 0)] [0] fn25 rfl rfl rfl rfl (by exact trivial) (srcNext_con hw hvv3) rfl rfl (by exact ⟨rfl, trivial⟩) rfl rfl rfl rfl rfl rfl ?_
  refine lr 1 rfl trivial ?_
  refine WL.nil (WQ.thenNormal (WC.ret ?_))
  cases h
  exact WQ.rets tbOk hR [] (.inl rfl) rfl rfl (Le.refl _) (by exact ⟨rfl, trivial⟩) rfl rfl rfl rfl

theorem srcCode_con {wg : World} (hw : WG wg) {s : CustomsmadeSource} {n1 : Int} {r : Str × CustomsmadeSource} (h : srcCode s n1 = some r) : Con Tryz.prog wg gl 24 [.p 0 0, .v (.int .i64 n1)] [(0, .blk 52 [.v (.sl 1 (s.L.map eInt_i64)), .v (.int .i64 s.I)])] (.v (.str r.1)) [(0, .blk 52 [.v (.sl 1 (r.2.L.map eInt_i64)), .v (.int .i64 r.2.I)])] := by
 unfold srcCode at h
 refine con_of_WC (S := slotsOf 0 _) Tryz.func24 rfl Tryz.ntmps24 rfl (fun t x hx => (slotsOf_get hx).2) ?_
 intro F L w ρ0 R hR
 show WC _ _ _ ⟨[(0, .p 0 0), (1, .v (.int .i64 n1))], [(0, .blk 52 [.v (.sl 1 (s.L.map eInt_i64)), .v (.int .i64 s.I)])]⟩ _ _
 refine WC.seq (WC.region ?_)
 refine lr 1 rfl trivial ?_
 refine WL.nil (WQ.thenNormal (WC.seq (WC.region ?_)))
 refine lr 1 rfl trivial ?_
 replace h := bnd h; obtain ⟨v, hvv, h⟩ := h
 refine WL.callO [(0, 0)] [(0, 0)] [0] fn25 rfl rfl rfl rfl (by exact trivial) (srcNext_con hw hvv) rfl rfl (by exact ⟨rfl, trivial⟩) rfl rfl rfl rfl rfl rfl ?_
 refine lr 2 rfl trivial ?_
 refine WL.buildRow tbOk ([(57 : Int), (IntKind.u8.wrap (IntKind.i64.wrap ((52 : Int) + v.1)))].map eInt_u8) rfl rfl rfl rfl (by exact trivial) rfl rfl ?_
 refine lr 1 rfl trivial ?_
 refine WL.nil (WQ.thenNormal (WC.seq ?_))
 refine WC.thenCut (X := (List Int) × (List Int) × Int) (fun gG => ⟨[(5, .r 1005), (0, .p 0 0)], [(1005, .row 5 1 (gG.1.map eInt_u8)), (0, .blk 52 [.v (.sl 1 (gG.2.1.map eInt_i64)), .v (.int .i64 gG.2.2)])]⟩) (fun gG => srcCode_j1 gG.1 gG.2.1 gG.2.2 = some r) ?_ ?_
 ·refine WC.block ?_
  obtain ⟨eQ1, hl1, hk1⟩ := bnd h
  clear h
  refine WC.loop (σ := (List Int) × (List Int) × Int) (τ := ((List Int) × (List Int) × Int)) (fun sS => ⟨[(5, .r 1005), (0, .p 0 0), (1, .v (.int .i64 n1))], [(1005, .row 5 1 (sS.1.map eInt_u8)), (0, .blk 52 [.v (.sl 1 (sS.2.1.map eInt_i64)), .v (.int .i64 sS.2.2)])]⟩) (srcCode_b1 n1) [(1005, 10)] ([(57 : Int), (IntKind.u8.wrap (IntKind.i64.wrap ((52 : Int) + v.1)))], v.2.L, v.2.I) hl1 ⟨(by exact ⟨rfl, rfl, rfl, trivial⟩), (by exact ⟨rfl, rfl, trivial⟩), rfl, rfl, rfl, rfl⟩ ?_
  rintro ⟨b2, c0_02, c0_12⟩ m hn1 he1 hx1
  obtain ⟨o1, hf1⟩ := some_of hx1
  have h := hf1
  unfold srcCode_b1 at h
  show WC _ _ _ ⟨[(5, .r 1005), (0, .p 0 0), (1, .v (.int .i64 n1))], [(1005, .row 5 1 (b2.map eInt_u8)), (0, .blk 52 [.v (.sl 1 (c0_02.map eInt_i64)), .v (.int .i64 c0_12)])]⟩ _ _
  refine WC.seq (WC.seq (WC.region ?_))
  refine lr 1 rfl trivial ?_
  refine WL.q [1005] rfl rfl rfl (q_ev tbOk (.v (.int .i64 (b2.length : Int))) rfl (by exact trivial) (by exact lenT)) ?_
  refine lr 2 rfl trivial ?_
  refine WL.nil (WQ.thenNormal ?_)
  refine WC.cond rfl (fun hc1 => ?_) (fun hc1 => ?_)
  ·replace h := ite_t hc1 h
   refine WC.skip (WQ.thenNormal (WC.block (WC.region ?_)))
   refine lr 2 rfl trivial ?_
   replace h := bnd h; obtain ⟨v3, hvv3, h⟩ := h
   refine WL.callO [(0, 0)] [(0, 0)] [0] fn25 rfl rfl rfl rfl (by exact trivial) (srcNext_con hw hvv3) rfl rfl (by exact ⟨rfl, trivial⟩) rfl rfl rfl rfl rfl rfl ?_
   refine lr 3 rfl trivial ?_
   obtain ⟨g1, h⟩ := grd h
   refine WL.append tbOk ((b2 ++ [(48 : Int), (IntKind.u8.wrap (IntKind.i64.wrap ((49 : Int) + v3.1)))]).map eInt_u8) [21, 1005] ap73 rfl rfl rfl rfl (fun _ e => by cases e; rfl) (by exact trivial) (map_cells (f := eInt_u8) (xs := [(48 : Int), (IntKind.u8.wrap (IntKind.i64.wrap ((49 : Int) + v3.1)))]) fun _ => rfl) (by have := g1; simp only [List.length_map, List.length_nil, List.length_cons] at this ⊢; omega) rfl rfl (by simp only [List.map_append]; try rfl) rfl ?_
   refine lr 1 rfl trivial ?_
   refine WL.nil (WQ.blockNormal ?_)
   cases h
   exact WQ.next [(1005, 21)] ((b2 ++ [(48 : Int), (IntKind.u8.wrap (IntKind.i64.wrap ((49 : Int) + v3.1)))]), v3.2.L, v3.2.I) ⟨(by exact ⟨rfl, rfl, rfl, trivial⟩), (by exact ⟨rfl, rfl, trivial⟩), rfl, rfl, rfl, rfl⟩ (hn1 _ hf1)
  ·replace h := ite_f hc1 h
   refine WC.exit (WQ.thenExit ?_)
   cases h
   have he := he1 _ hf1
   subst he
   replace h := hk1
   try dsimp only at h
   refine WQ.thenExit (WQ.blockExit ?_)
   exact WQ.cut [] (b2, c0_02, c0_12) ⟨(by exact ⟨rfl, rfl, trivial⟩), (by exact ⟨rfl, rfl, trivial⟩), rfl, rfl, rfl, rfl⟩ h
 ·rintro ⟨b, c0_0, c0_1⟩ h
  replace h : srcCode_j1 b c0_0 c0_1 = some _ := h
  unfold srcCode_j1 at h
  show WC _ _ _ ⟨[(5, .r 1005), (0, .p 0 0)], [(1005, .row 5 1 (b.map eInt_u8)), (0, .blk 52 [.v (.sl 1 (c0_0.map eInt_i64)), .v (.int .i64 c0_1)])]⟩ _ _
  refine WC.seq ?_
  refine WC.publish 1005 rfl rfl ?_
  refine WC.region ?_
  refine lr 1 rfl trivial ?_
  refine WL.q [] rfl rfl rfl (q_b2s tbOk (xs := b) by73 rfl (by exact trivial)) ?_
  refine lr 1 rfl trivial ?_
  refine WL.nil (WQ.thenNormal (WC.ret ?_))
  cases h
  exact WQ.rets tbOk hR [] (.inl rfl) rfl rfl (Le.refl _) (by exact ⟨rfl, trivial⟩) rfl rfl rfl rfl

theorem srcProcesses_con {wg : World} (hw : WG wg) {s : CustomsmadeSource} {r : (List Str) × CustomsmadeSource} (h : srcProcesses s = some r) : Con Tryz.prog wg gl 26 [.p 0 0] [(0, .blk 52 [.v (.sl 1 (s.L.map eInt_i64)), .v (.int .i64 s.I)])] (.v (.sl 1 (r.1.map eStr))) [(0, .blk 52 [.v (.sl 1 (r.2.L.map eInt_i64)), .v (.int .i64 r.2.I)])] := by
 unfold srcProcesses at h
 refine con_of_WC (S := slotsOf 0 _) Tryz.func26 rfl Tryz.ntmps26 rfl (fun t x hx => (slotsOf_get hx).2) ?_
 intro F L w ρ0 R hR
 show WC _ _ _ ⟨[(0, .p 0 0)], [(0, .blk 52 [.v (.sl 1 (s.L.map eInt_i64)), .v (.int .i64 s.I)])]⟩ _ _
 refine WC.seq (WC.region ?_)
 refine lr 1 rfl trivial ?_
 refine WL.nil (WQ.thenNormal (WC.seq (WC.region ?_)))
 refine lr 1 rfl trivial ?_
 refine WL.nil (WQ.thenNormal (WC.seq (WC.region ?_)))
 refine lr 1 rfl trivial ?_
 replace h := bnd h; obtain ⟨v, hvv, h⟩ := h
 refine WL.callO [(0, 0)] [(0, 0)] [0] fn25 rfl rfl rfl rfl (by exact trivial) (srcNext_con hw hvv) rfl rfl (by exact ⟨rfl, trivial⟩) rfl rfl rfl rfl rfl rfl ?_
 refine lr 1 rfl trivial ?_
 refine WL.nil (WQ.thenNormal (WC.seq (WC.seq (WC.region ?_))))
 refine lr 1 rfl trivial ?_
 refine WL.nil (WQ.thenNormal ?_)
 refine WC.thenCut (X := (List Str)) (fun gG => ⟨[(3, .r 1003), (0, .p 0 0)], [(1003, .row 9 1 (gG.map eStr)), (0, .blk 52 [.v (.sl 1 (v.2.L.map eInt_i64)), .v (.int .i64 v.2.I)])]⟩) (fun gG => srcProcesses_j1 v gG = some r) ?_ ?_
 ·refine WC.block ?_
  obtain ⟨eQ1, hl1, hk1⟩ := bnd h
  clear h
  refine WC.rowNil 3 1003 9 1 rfl rfl ?_
  refine WC.loop (σ := Int × (List Str)) (τ := ((List Str))) (fun sS => ⟨[(5, .v (.int .i64 sS.1)), (4, .v (.int .i64 v.1)), (3, .r 1003), (0, .p 0 0)], [(1003, .row 9 1 (sS.2.map eStr)), (0, .blk 52 [.v (.sl 1 (v.2.L.map eInt_i64)), .v (.int .i64 v.2.I)])]⟩) (srcProcesses_b1 v) [] ((0 : Int), []) hl1 ⟨(by exact ⟨rfl, rfl, rfl, rfl, trivial⟩), (by exact ⟨rfl, rfl, trivial⟩), rfl, rfl, rfl, rfl⟩ ?_
  rintro ⟨i2, out3⟩ m hn1 he1 hx1
  obtain ⟨o1, hf1⟩ := some_of hx1
  have h := hf1
  unfold srcProcesses_b1 at h
  show WC _ _ _ ⟨[(5, .v (.int .i64 i2)), (4, .v (.int .i64 v.1)), (3, .r 1003), (0, .p 0 0)], [(1003, .row 9 1 (out3.map eStr)), (0, .blk 52 [.v (.sl 1 (v.2.L.map eInt_i64)), .v (.int .i64 v.2.I)])]⟩ _ _
  refine WC.seq (WC.seq (WC.region ?_))
  refine lr 2 rfl trivial ?_
  refine WL.nil (WQ.thenNormal ?_)
  refine WC.cond rfl (fun hc1 => ?_) (fun hc1 => ?_)
  ·replace h := ite_t hc1 h
   refine WC.skip (WQ.thenNormal (WC.seq ?_))
   refine WC.thenCut (X := (List Str)) (fun gG => ⟨[(3, .r 1003), (5, .v (.int .i64 i2)), (4, .v (.int .i64 v.1)), (0, .p 0 0)], [(1003, .row 9 1 (gG.map eStr)), (0, .blk 52 [.v (.sl 1 (v.2.L.map eInt_i64)), .v (.int .i64 v.2.I)])]⟩) (fun gG => srcProcesses_j2 v i2 gG = some o1) ?_ ?_
   ·refine WC.block (WC.seq (WC.region ?_))
    obtain ⟨g1, h⟩ := grd h
    refine lr 5 rfl (by repeat' (first | exact trivial | assumption | intro _ | exact g1 (by assumption) | apply And.intro | exact sideT | (refine and_i ?_ ?_))) ?_
    refine WL.nil (WQ.thenNormal ?_)
    refine WC.cond rfl (fun hc2 => ?_) (fun hc2 => ?_)
    ·replace h := ite_t hc2 h
     refine WC.region ?_
     refine lr 3 rfl trivial ?_
     obtain ⟨g2, h⟩ := grd h
     replace h := bnd h; obtain ⟨x3, hxx3, h⟩ := h
     refine WL.q [] rfl rfl rfl (q_idx tbOk rfl (by exact trivial) g2 (map_get (f := eStr) hxx3)) ?_
     refine lr 2 rfl trivial ?_
     obtain ⟨g3, h⟩ := grd h
     refine WL.append tbOk ((out3 ++ [x3]).map eStr) [23, 1003] ap22 rfl rfl rfl rfl (fun _ e => by cases e; rfl) (by exact trivial) (map_cells (f := eStr) (xs := [x3]) fun _ => rfl) (by have := g3; simp only [List.length_map, List.length_nil, List.length_cons] at this ⊢; omega) rfl rfl (by simp only [List.map_append]; try rfl) rfl ?_
     refine lr 1 rfl trivial ?_
     refine WL.nil (WQ.blockNormal ?_)
     exact WQ.cut [(1003, 23)] (out3 ++ [x3]) ⟨(by exact ⟨rfl, rfl, rfl, rfl, trivial⟩), (by exact ⟨rfl, rfl, trivial⟩), rfl, rfl, rfl, rfl⟩ h
    ·replace h := ite_f hc2 h
     refine WC.skip (WQ.blockNormal ?_)
     exact WQ.cut [] out3 ⟨(by exact ⟨rfl, rfl, rfl, rfl, trivial⟩), (by exact ⟨rfl, rfl, trivial⟩), rfl, rfl, rfl, rfl⟩ h
   ·intro out6 h
    replace h : srcProcesses_j2 v i2 out6 = some _ := h
    unfold srcProcesses_j2 at h
    show WC _ _ _ ⟨[(3, .r 1003), (5, .v (.int .i64 i2)), (4, .v (.int .i64 v.1)), (0, .p 0 0)], [(1003, .row 9 1 (out6.map eStr)), (0, .blk 52 [.v (.sl 1 (v.2.L.map eInt_i64)), .v (.int .i64 v.2.I)])]⟩ _ _
    refine WC.region ?_
    refine lr 3 rfl trivial ?_
    refine WL.nil ?_
    cases h
    exact WQ.next [] ((IntKind.i64.wrap (i2 + (1 : Int))), out6) ⟨(by exact ⟨rfl, rfl, rfl, rfl, trivial⟩), (by exact ⟨rfl, rfl, trivial⟩), rfl, rfl, rfl, rfl⟩ (hn1 _ hf1)
  ·replace h := ite_f hc1 h
   refine WC.exit (WQ.thenExit ?_)
   cases h
   have he := he1 _ hf1
   subst he
   replace h := hk1
   try dsimp only at h
   refine WQ.thenExit (WQ.blockExit ?_)
   exact WQ.cut [] out3 ⟨(by exact ⟨rfl, rfl, trivial⟩), (by exact ⟨rfl, rfl, trivial⟩), rfl, rfl, rfl, rfl⟩ h
 ·intro out h
  replace h : srcProcesses_j1 v out = some _ := h
  unfold srcProcesses_j1 at h
  show WC _ _ _ ⟨[(3, .r 1003), (0, .p 0 0)], [(1003, .row 9 1 (out.map eStr)), (0, .blk 52 [.v (.sl 1 (v.2.L.map eInt_i64)), .v (.int .i64 v.2.I)])]⟩ _ _
  refine WC.seq (WC.region ?_)
  refine lr 2 rfl trivial ?_
  refine WL.nil (WQ.thenNormal (WC.ret ?_))
  refine WQ.publish 1003 rfl rfl ?_
  cases h
  exact WQ.rets tbOk hR [] (.inl rfl) rfl rfl (Le.refl _) (by exact ⟨rfl, trivial⟩) rfl rfl rfl rfl

theorem srcRule_n_con {wg : World} (hw : WG wg) (n : Nat) : ∀ {s : CustomsmadeSource} {but : Int} {deep : Int} {r : ApiRule × CustomsmadeSource} (h : srcRule_n n s but deep = some r), Con Tryz.prog wg gl 33 [.p 0 0, .v (.int .i64 but), .v (.int .i64 deep)] [(0, .blk 52 [.v (.sl 1 (s.L.map eInt_i64)), .v (.int .i64 s.I)])] (.v (.agg [.int .i64 r.1.Kind, .int .i64 r.1.Digits, .sl 1 (r.1.Except.map eStr), .int .i64 r.1.Tolerance, .int .i64 r.1.Limit, .str r.1.Name, .sl 7 (r.1.Args.map eApiRule)])) [(0, .blk 52 [.v (.sl 1 (r.2.L.map eInt_i64)), .v (.int .i64 r.2.I)])] := by
 induction n with
 | zero => intros; rename_i h; cases h
 | succ n ih =>
 intro s but deep r h
 replace h : srcRule_F (srcRule_n n) s but deep = some r := h
 unfold srcRule_F at h
 refine con_of_WC (S := slotsOf 0 _) Tryz.func33 rfl Tryz.ntmps33 rfl (fun t x hx => (slotsOf_get hx).2) ?_
 intro F L w ρ0 R hR
 show WC _ _ _ ⟨[(0, .p 0 0), (1, .v (.int .i64 but)), (2, .v (.int .i64 deep))], [(0, .blk 52 [.v (.sl 1 (s.L.map eInt_i64)), .v (.int .i64 s.I)])]⟩ _ _
 refine WC.seq (WC.region ?_)
 refine lr 1 rfl trivial ?_
 refine WL.nil (WQ.thenNormal (WC.seq (WC.region ?_)))
 refine lr 1 rfl trivial ?_
 replace h := bnd h; obtain ⟨v, hvv, h⟩ := h
 refine WL.callO [(0, 0)] [(0, 0)] [0] fn25 rfl rfl rfl rfl (by exact trivial) (srcNext_con hw hvv) rfl rfl (by exact ⟨rfl, trivial⟩) rfl rfl rfl rfl rfl rfl ?_
 refine lr 1 rfl trivial ?_
 refine WL.nil (WQ.thenNormal (WC.seq (WC.seq (WC.region ?_))))
 refine lr 6 rfl (by exact sideR) ?_
 refine WL.nil (WQ.thenNormal ?_)
 refine WC.thenCut (X := Unit) (fun gG => ⟨[(7, .v (.int .i64 v.1)), (6, .p 6 0), (0, .p 0 0)], [(0, .blk 52 [.v (.sl 1 (v.2.L.map eInt_i64)), .v (.int .i64 v.2.I)]), (6, .blk 37 [.v (.int .i64 0), .v (.int .i64 0), .v (.raw (.slice none 0 0)), .v (.int .i64 0), .v (.int .i64 0), .v (.str []), .v (.raw (.slice none 0 0))])]⟩) (fun gG => srcRule_j1 (srcRule_n n) v = some r) ?_ ?_
 ·refine WC.cond rfl (fun hc7 => ?_) (fun hc7 => ?_)
  ·replace h := ite_t hc7 h
   refine WC.seq (WC.region ?_)
   refine lr 6 rfl (by exact sideR) ?_
   refine WL.nil (WQ.thenNormal (WC.seq (WC.seq (WC.region ?_))))
   refine lr 4 rfl trivial ?_
   refine WL.nil (WQ.thenNormal ?_)
   refine WC.thenCut (X := Int) (fun gG => ⟨[(8, .p 8 0), (6, .p 6 0), (0, .p 0 0), (2, .v (.int .i64 deep))], [(0, .blk 52 [.v (.sl 1 (v.2.L.map eInt_i64)), .v (.int .i64 v.2.I)]), (8, .blk 37 [.v (.int .i64 gG), .v (.int .i64 0), .v (.raw (.slice none 0 0)), .v (.int .i64 0), .v (.int .i64 0), .v (.str []), .v (.raw (.slice none 0 0))]), (6, .blk 37 [.v (.int .i64 0), .v (.int .i64 0), .v (.raw (.slice none 0 0)), .v (.int .i64 0), .v (.int .i64 0), .v (.str []), .v (.raw (.slice none 0 0))])]⟩) (fun gG => srcRule_j5 (srcRule_n n) deep v gG = some r) ?_ ?_
   ·refine WC.cond rfl (fun hc9 => ?_) (fun hc9 => ?_)
    ·replace h := ite_t hc9 h
     refine WC.region ?_
     refine lr 4 rfl trivial ?_
     refine WL.nil ?_
     exact WQ.cut [] (IntKind.i64.wrap ((11 : Int) - but)) ⟨(by exact ⟨rfl, rfl, rfl, rfl, trivial⟩), (by exact ⟨rfl, rfl, rfl, trivial⟩), rfl, rfl, rfl, rfl⟩ h
    ·replace h := ite_f hc9 h
     refine WC.skip ?_
     exact WQ.cut [] (IntKind.i64.wrap ((5 : Int) + (v.1.tmod (2 : Int)))) ⟨(by exact ⟨rfl, rfl, rfl, rfl, trivial⟩), (by exact ⟨rfl, rfl, rfl, trivial⟩), rfl, rfl, rfl, rfl⟩ h
   ·intro c8_0 h
    replace h : srcRule_j5 (srcRule_n n) deep v c8_0 = some _ := h
    unfold srcRule_j5 at h
    show WC _ _ _ ⟨[(8, .p 8 0), (6, .p 6 0), (0, .p 0 0), (2, .v (.int .i64 deep))], [(0, .blk 52 [.v (.sl 1 (v.2.L.map eInt_i64)), .v (.int .i64 v.2.I)]), (8, .blk 37 [.v (.int .i64 c8_0), .v (.int .i64 0), .v (.raw (.slice none 0 0)), .v (.int .i64 0), .v (.int .i64 0), .v (.str []), .v (.raw (.slice none 0 0))]), (6, .blk 37 [.v (.int .i64 0), .v (.int .i64 0), .v (.raw (.slice none 0 0)), .v (.int .i64 0), .v (.int .i64 0), .v (.str []), .v (.raw (.slice none 0 0))])]⟩ _ _
    refine WC.seq (WC.seq (WC.region ?_))
    refine lr 1 rfl trivial ?_
    replace h := bnd h; obtain ⟨v10, hvv10, h⟩ := h
    refine WL.callO [(0, 0)] [(0, 0)] [0] fn25 rfl rfl rfl rfl (by exact trivial) (srcNext_con hw hvv10) rfl rfl (by exact ⟨rfl, trivial⟩) rfl rfl rfl rfl rfl rfl ?_
    refine lr 2 rfl trivial ?_
    refine WL.nil (WQ.thenNormal ?_)
    refine WC.thenCut (X := (List Int) × Int × (List ApiRule)) (fun gG => ⟨[(8, .p 8 0), (6, .p 6 0), (0, .p 0 0)], [(0, .blk 52 [.v (.sl 1 (gG.1.map eInt_i64)), .v (.int .i64 gG.2.1)]), (2406, .row 37 7 (gG.2.2.map eApiRule)), (8, .blk 37 [.v (.int .i64 c8_0), .v (.int .i64 0), .v (.raw (.slice none 0 0)), .v (.int .i64 0), .v (.int .i64 0), .v (.str []), .r 2406]), (6, .blk 37 [.v (.int .i64 0), .v (.int .i64 0), .v (.raw (.slice none 0 0)), .v (.int .i64 0), .v (.int .i64 0), .v (.str []), .v (.raw (.slice none 0 0))])]⟩) (fun gG => srcRule_j6 (srcRule_n n) v c8_0 gG.1 gG.2.1 gG.2.2 = some r) ?_ ?_
    ·refine WC.block ?_
     obtain ⟨eQ1, hl1, hk1⟩ := bnd h
     clear h
     refine WC.rowNilB 8 6 2406 37 7 rfl rfl rfl (cs2 := [.v (.int .i64 c8_0), .v (.int .i64 0), .v (.raw (.slice none 0 0)), .v (.int .i64 0), .v (.int .i64 0), .v (.str []), .r 2406]) rfl ?_
     refine WC.loop (σ := Int × (List Int) × Int × (List ApiRule)) (τ := ((List Int) × Int × (List ApiRule))) (fun sS => ⟨[(9, .v (.int .i64 sS.1)), (8, .p 8 0), (6, .p 6 0), (0, .p 0 0), (2, .v (.int .i64 deep))], [(0, .blk 52 [.v (.sl 1 (sS.2.1.map eInt_i64)), .v (.int .i64 sS.2.2.1)]), (2406, .row 37 7 (sS.2.2.2.map eApiRule)), (8, .blk 37 [.v (.int .i64 c8_0), .v (.int .i64 0), .v (.raw (.slice none 0 0)), .v (.int .i64 0), .v (.int .i64 0), .v (.str []), .r 2406]), (6, .blk 37 [.v (.int .i64 0), .v (.int .i64 0), .v (.raw (.slice none 0 0)), .v (.int .i64 0), .v (.int .i64 0), .v (.str []), .v (.raw (.slice none 0 0))])]⟩) (srcRule_b1 (srcRule_n n) deep v c8_0) [] ((IntKind.i64.wrap ((2 : Int) + v10.1)), v10.2.L, v10.2.I, []) hl1 ⟨(by exact ⟨rfl, rfl, rfl, rfl, rfl, trivial⟩), (by exact ⟨rfl, rfl, rfl, rfl, trivial⟩), rfl, rfl, rfl, rfl⟩ ?_
     rintro ⟨n12, c0_06, c0_16, c8_62⟩ m hn1 he1 hx1
     obtain ⟨o1, hf1⟩ := some_of hx1
     have h := hf1
     unfold srcRule_b1 at h
     show WC _ _ _ ⟨[(9, .v (.int .i64 n12)), (8, .p 8 0), (6, .p 6 0), (0, .p 0 0), (2, .v (.int .i64 deep))], [(0, .blk 52 [.v (.sl 1 (c0_06.map eInt_i64)), .v (.int .i64 c0_16)]), (2406, .row 37 7 (c8_62.map eApiRule)), (8, .blk 37 [.v (.int .i64 c8_0), .v (.int .i64 0), .v (.raw (.slice none 0 0)), .v (.int .i64 0), .v (.int .i64 0), .v (.str []), .r 2406]), (6, .blk 37 [.v (.int .i64 0), .v (.int .i64 0), .v (.raw (.slice none 0 0)), .v (.int .i64 0), .v (.int .i64 0), .v (.str []), .v (.raw (.slice none 0 0))])]⟩ _ _
     refine WC.seq (WC.seq (WC.region ?_))
     refine lr 2 rfl trivial ?_
     refine WL.nil (WQ.thenNormal ?_)
     refine WC.cond rfl (fun hc8 => ?_) (fun hc8 => ?_)
     ·replace h := ite_t hc8 h
      refine WC.skip (WQ.thenNormal (WC.seq (WC.block (WC.order mixed ?_))))
      refine wr 7 rfl trivial ?_
      replace h := bnd h; obtain ⟨v13, hvv13, h⟩ := h
      refine WR.callO [(0, 0)] [(0, 0)] [0] fn33 rfl rfl rfl rfl (by exact trivial) (ih hvv13) rfl rfl (by exact ⟨rfl, trivial⟩) rfl rfl rfl rfl rfl rfl ?_
      refine WR.mkLe tbOk (.v (.sl 7 ([v13.1].map eApiRule))) rfl (by exact trivial) (Le.of_eq (by simp only [List.map_cons, List.map_nil, eApiRule_eq])) ?_
      obtain ⟨g3, h⟩ := grd h
      refine WR.append tbOk ((c8_62 ++ [v13.1]).map eApiRule) [46, 2406] ap35 rfl rfl rfl rfl (fun _ e => by cases e; rfl) (by exact trivial) (map_cells (f := eApiRule) (xs := [v13.1]) fun _ => by rw [eApiRule_eq]; rfl) (by have := g3; simp only [List.length_map, List.length_nil, List.length_cons] at this ⊢; omega) rfl rfl (by simp only [List.map_append]; try rfl) rfl rfl ?_
      refine wr 2 rfl trivial ?_
      refine WR.nil (by kernel_rfl) (WQ.blockNormal (WQ.thenNormal (WC.region ?_)))
      refine lr 3 rfl trivial ?_
      refine WL.nil ?_
      cases h
      exact WQ.next [(2406, 46)] ((IntKind.i64.wrap (n12 - (1 : Int))), v13.2.L, v13.2.I, (c8_62 ++ [v13.1])) ⟨(by exact ⟨rfl, rfl, rfl, rfl, rfl, trivial⟩), (by exact ⟨rfl, rfl, rfl, rfl, trivial⟩), rfl, rfl, rfl, rfl⟩ (hn1 _ hf1)
     ·replace h := ite_f hc8 h
      refine WC.exit (WQ.thenExit ?_)
      cases h
      have he := he1 _ hf1
      subst he
      replace h := hk1
      try dsimp only at h
      refine WQ.thenExit (WQ.blockExit ?_)
      exact WQ.cut [] (c0_06, c0_16, c8_62) ⟨(by exact ⟨rfl, rfl, rfl, trivial⟩), (by exact ⟨rfl, rfl, rfl, rfl, trivial⟩), rfl, rfl, rfl, rfl⟩ h
    ·rintro ⟨c0_04, c0_14, c8_6⟩ h
     replace h : srcRule_j6 (srcRule_n n) v c8_0 c0_04 c0_14 c8_6 = some _ := h
     unfold srcRule_j6 at h
     show WC _ _ _ ⟨[(8, .p 8 0), (6, .p 6 0), (0, .p 0 0)], [(0, .blk 52 [.v (.sl 1 (c0_04.map eInt_i64)), .v (.int .i64 c0_14)]), (2406, .row 37 7 (c8_6.map eApiRule)), (8, .blk 37 [.v (.int .i64 c8_0), .v (.int .i64 0), .v (.raw (.slice none 0 0)), .v (.int .i64 0), .v (.int .i64 0), .v (.str []), .r 2406]), (6, .blk 37 [.v (.int .i64 0), .v (.int .i64 0), .v (.raw (.slice none 0 0)), .v (.int .i64 0), .v (.int .i64 0), .v (.str []), .v (.raw (.slice none 0 0))])]⟩ _ _
     refine WC.seq ?_
     refine WC.publish 2406 rfl rfl ?_
     refine WC.region ?_
     refine lr 2 rfl trivial ?_
     refine WL.nil (WQ.thenNormal (WC.ret (WQ.thenRet ?_)))
     cases h
     exact WQ.rets tbOk (r := .v (.agg [.int .i64 ((⟨c8_0, 0, [], 0, 0, [], c8_6⟩ : ApiRule).Kind), .int .i64 ((⟨c8_0, 0, [], 0, 0, [], c8_6⟩ : ApiRule).Digits), .sl 1 (((⟨c8_0, 0, [], 0, 0, [], c8_6⟩ : ApiRule).Except).map eStr), .int .i64 ((⟨c8_0, 0, [], 0, 0, [], c8_6⟩ : ApiRule).Tolerance), .int .i64 ((⟨c8_0, 0, [], 0, 0, [], c8_6⟩ : ApiRule).Limit), .str ((⟨c8_0, 0, [], 0, 0, [], c8_6⟩ : ApiRule).Name), .sl 7 (((⟨c8_0, 0, [], 0, 0, [], c8_6⟩ : ApiRule).Args).map eApiRule)])) hR [] (.inl rfl) rfl rfl (Le.agg (.same (.same (.sl 1 (.same (.same (.same (.same .nil)))))))) (by exact ⟨rfl, trivial⟩) rfl rfl rfl rfl
  ·replace h := ite_f hc7 h
   refine WC.skip ?_
   exact WQ.cut [] () ⟨(by exact ⟨rfl, rfl, rfl, trivial⟩), (by exact ⟨rfl, rfl, trivial⟩), rfl, rfl, rfl, rfl⟩ h
 ·intro _ h
  replace h : srcRule_j1 (srcRule_n n) v = some _ := h
  unfold srcRule_j1 at h
  show WC _ _ _ ⟨[(7, .v (.int .i64 v.1)), (6, .p 6 0), (0, .p 0 0)], [(0, .blk 52 [.v (.sl 1 (v.2.L.map eInt_i64)), .v (.int .i64 v.2.I)]), (6, .blk 37 [.v (.int .i64 0), .v (.int .i64 0), .v (.raw (.slice none 0 0)), .v (.int .i64 0), .v (.int .i64 0), .v (.str []), .v (.raw (.slice none 0 0))])]⟩ _ _
  refine WC.seq (WC.seq (WC.region ?_))
  refine lr 2 rfl (by exact sideR) ?_
  refine WL.nil (WQ.thenNormal ?_)
  refine WC.thenCut (X := (List Int) × Int) (fun gG => ⟨[(6, .p 6 0), (0, .p 0 0)], [(0, .blk 52 [.v (.sl 1 (gG.1.map eInt_i64)), .v (.int .i64 gG.2)]), (6, .blk 37 [.v (.int .i64 0), .v (.int .i64 0), .v (.raw (.slice none 0 0)), .v (.int .i64 0), .v (.int .i64 0), .v (.str []), .v (.raw (.slice none 0 0))])]⟩) (fun gG => srcRule_j2 (srcRule_n n) gG.1 gG.2 = some r) ?_ ?_
  ·refine WC.block (WC.seq (WC.region ?_))
   refine lr 2 rfl trivial ?_
   refine WL.nil (WQ.thenNormal ?_)
   refine WC.cond rfl (fun hc3 => ?_) (fun hc3 => ?_)
   ·replace h := ite_t hc3 h
    refine WC.seq (WC.region ?_)
    refine lr 1 rfl trivial ?_
    replace h := bnd h; obtain ⟨v7, hvv7, h⟩ := h
    refine WL.callO [(0, 0)] [(0, 0)] [0] fn49 rfl rfl rfl rfl (by exact trivial) (srcRate_con hw hvv7) rfl rfl (by exact ⟨rfl, trivial⟩) rfl rfl rfl rfl rfl rfl ?_
    refine lr 2 rfl trivial ?_
    refine WL.nil (WQ.thenNormal (WC.ret (WQ.blockRet (WQ.thenRet ?_))))
    cases h
    exact WQ.rets tbOk (r := .v (.agg [.int .i64 ((⟨(3 : Int), 0, [], 0, v7.1, [], []⟩ : ApiRule).Kind), .int .i64 ((⟨(3 : Int), 0, [], 0, v7.1, [], []⟩ : ApiRule).Digits), .sl 1 (((⟨(3 : Int), 0, [], 0, v7.1, [], []⟩ : ApiRule).Except).map eStr), .int .i64 ((⟨(3 : Int), 0, [], 0, v7.1, [], []⟩ : ApiRule).Tolerance), .int .i64 ((⟨(3 : Int), 0, [], 0, v7.1, [], []⟩ : ApiRule).Limit), .str ((⟨(3 : Int), 0, [], 0, v7.1, [], []⟩ : ApiRule).Name), .sl 7 (((⟨(3 : Int), 0, [], 0, v7.1, [], []⟩ : ApiRule).Args).map eApiRule)])) hR [] (.inl rfl) rfl rfl (Le.agg (.same (.same (.sl 1 (.same (.same (.same (.sl 7 .nil)))))))) (by exact ⟨rfl, trivial⟩) rfl rfl rfl rfl
   ·replace h := ite_f hc3 h
    refine WC.seq (WC.region ?_)
    refine lr 2 rfl trivial ?_
    refine WL.nil (WQ.thenNormal ?_)
    refine WC.cond rfl (fun hc4 => ?_) (fun hc4 => ?_)
    ·replace h := ite_t hc4 h
     refine WC.seq (WC.region ?_)
     refine lr 2 rfl trivial ?_
     replace h := bnd h; obtain ⟨v8, hvv8, h⟩ := h
     refine WL.callO [(0, 0)] [(0, 0)] [0] fn25 rfl rfl rfl rfl (by exact trivial) (srcNext_con hw hvv8) rfl rfl (by exact ⟨rfl, trivial⟩) rfl rfl rfl rfl rfl rfl ?_
     obtain ⟨g2, h⟩ := grd h
     replace h := bnd h; obtain ⟨x, hxx, h⟩ := h
     refine WL.q [] rfl rfl rfl (q_idx tbOk rfl (by exact trivial) g2 (map_get (f := eStr) hxx)) ?_
     refine lr 3 rfl trivial ?_
     refine WL.nil (WQ.thenNormal (WC.ret (WQ.blockRet (WQ.thenRet ?_))))
     cases h
     exact WQ.rets tbOk (r := .v (.agg [.int .i64 ((⟨(4 : Int), 0, [], 0, 0, x, []⟩ : ApiRule).Kind), .int .i64 ((⟨(4 : Int), 0, [], 0, 0, x, []⟩ : ApiRule).Digits), .sl 1 (((⟨(4 : Int), 0, [], 0, 0, x, []⟩ : ApiRule).Except).map eStr), .int .i64 ((⟨(4 : Int), 0, [], 0, 0, x, []⟩ : ApiRule).Tolerance), .int .i64 ((⟨(4 : Int), 0, [], 0, 0, x, []⟩ : ApiRule).Limit), .str ((⟨(4 : Int), 0, [], 0, 0, x, []⟩ : ApiRule).Name), .sl 7 (((⟨(4 : Int), 0, [], 0, 0, x, []⟩ : ApiRule).Args).map eApiRule)])) hR [] (.inl rfl) rfl rfl (Le.agg (.same (.same (.sl 1 (.same (.same (.same (.sl 7 .nil)))))))) (by exact ⟨rfl, trivial⟩) rfl rfl rfl rfl
    ·replace h := ite_f hc4 h
     refine WC.seq (WC.region ?_)
     refine lr 2 rfl trivial ?_
     refine WL.nil (WQ.thenNormal ?_)
     refine WC.cond rfl (fun hc5 => ?_) (fun hc5 => ?_)
     ·replace h := ite_t hc5 h
      refine WC.seq (WC.region ?_)
      refine lr 1 rfl trivial ?_
      replace h := bnd h; obtain ⟨v9, hvv9, h⟩ := h
      refine WL.callO [(0, 0)] [(0, 0)] [0] fn25 rfl rfl rfl rfl (by exact trivial) (srcNext_con hw hvv9) rfl rfl (by exact ⟨rfl, trivial⟩) rfl rfl rfl rfl rfl rfl ?_
      refine lr 1 rfl trivial ?_
      refine WL.nil (WQ.thenNormal ?_)
      refine WC.cond rfl (fun hc6 => ?_) (fun hc6 => ?_)
      ·replace h := ite_t hc6 h
       refine WC.seq (WC.region ?_)
       refine lr 2 rfl trivial ?_
       refine WL.nil (WQ.thenNormal (WC.ret (WQ.blockRet (WQ.thenRet ?_))))
       cases h
       exact WQ.rets tbOk (r := .v (.agg [.int .i64 ((⟨(1 : Int), 0, [], 0, 0, [], []⟩ : ApiRule).Kind), .int .i64 ((⟨(1 : Int), 0, [], 0, 0, [], []⟩ : ApiRule).Digits), .sl 1 (((⟨(1 : Int), 0, [], 0, 0, [], []⟩ : ApiRule).Except).map eStr), .int .i64 ((⟨(1 : Int), 0, [], 0, 0, [], []⟩ : ApiRule).Tolerance), .int .i64 ((⟨(1 : Int), 0, [], 0, 0, [], []⟩ : ApiRule).Limit), .str ((⟨(1 : Int), 0, [], 0, 0, [], []⟩ : ApiRule).Name), .sl 7 (((⟨(1 : Int), 0, [], 0, 0, [], []⟩ : ApiRule).Args).map eApiRule)])) hR [] (.inl rfl) rfl rfl (Le.agg (.same (.same (.sl 1 (.same (.same (.same (.sl 7 .nil)))))))) (by exact ⟨rfl, trivial⟩) rfl rfl rfl rfl
      ·replace h := ite_f hc6 h
       refine WC.skip (WQ.blockNormal ?_)
       exact WQ.cut [] (v9.2.L, v9.2.I) ⟨(by exact ⟨rfl, rfl, trivial⟩), (by exact ⟨rfl, rfl, trivial⟩), rfl, rfl, rfl, rfl⟩ h
     ·replace h := ite_f hc5 h
      refine WC.skip (WQ.blockNormal ?_)
      exact WQ.cut [] (v.2.L, v.2.I) ⟨(by exact ⟨rfl, rfl, trivial⟩), (by exact ⟨rfl, rfl, trivial⟩), rfl, rfl, rfl, rfl⟩ h
  ·rintro ⟨c0_0, c0_1⟩ h
   replace h : srcRule_j2 (srcRule_n n) c0_0 c0_1 = some _ := h
   unfold srcRule_j2 at h
   show WC _ _ _ ⟨[(6, .p 6 0), (0, .p 0 0)], [(0, .blk 52 [.v (.sl 1 (c0_0.map eInt_i64)), .v (.int .i64 c0_1)]), (6, .blk 37 [.v (.int .i64 0), .v (.int .i64 0), .v (.raw (.slice none 0 0)), .v (.int .i64 0), .v (.int .i64 0), .v (.str []), .v (.raw (.slice none 0 0))])]⟩ _ _
   refine WC.seq (WC.region ?_)
   refine lr 1 rfl trivial ?_
   replace h := bnd h; obtain ⟨v2, hvv2, h⟩ := h
   refine WL.callO [(0, 0)] [(0, 0)] [0] fn25 rfl rfl rfl rfl (by exact trivial) (srcNext_con hw hvv2) rfl rfl (by exact ⟨rfl, trivial⟩) rfl rfl rfl rfl rfl rfl ?_
   refine lr 5 rfl trivial ?_
   refine WL.nil (WQ.thenNormal (WC.seq (WC.seq (WC.region ?_))))
   refine lr 1 rfl trivial ?_
   replace h := bnd h; obtain ⟨v3, hvv3, h⟩ := h
   refine WL.callO [(0, 0)] [(0, 0)] [0] fn25 rfl rfl rfl rfl (by exact trivial) (srcNext_con hw hvv3) rfl rfl (by exact ⟨rfl, trivial⟩) rfl rfl rfl rfl rfl rfl ?_
   refine lr 1 rfl trivial ?_
   refine WL.nil (WQ.thenNormal ?_)
   refine WC.thenCut (X := (List Int) × Int × (List Str)) (fun gG => ⟨[(10, .p 10 0), (6, .p 6 0), (0, .p 0 0)], [(0, .blk 52 [.v (.sl 1 (gG.1.map eInt_i64)), .v (.int .i64 gG.2.1)]), (10, .blk 37 [.v (.int .i64 (2 : Int)), .v (.int .i64 (IntKind.i64.wrap ((2 : Int) + (IntKind.i64.wrap ((2 : Int) * v2.1))))), .v (.sl 1 (gG.2.2.map eStr)), .v (.int .i64 0), .v (.int .i64 0), .v (.str []), .v (.raw (.slice none 0 0))]), (6, .blk 37 [.v (.int .i64 0), .v (.int .i64 0), .v (.raw (.slice none 0 0)), .v (.int .i64 0), .v (.int .i64 0), .v (.str []), .v (.raw (.slice none 0 0))])]⟩) (fun gG => srcRule_j3 (srcRule_n n) v2 gG.1 gG.2.1 gG.2.2 = some r) ?_ ?_
   ·refine WC.cond rfl (fun hc2 => ?_) (fun hc2 => ?_)
    ·replace h := ite_t hc2 h
     refine WC.region ?_
     refine lr 2 rfl trivial ?_
     replace h := bnd h; obtain ⟨v6, hvv6, h⟩ := h
     refine WL.callO [(0, 0)] [(0, 0)] [0] fn25 rfl rfl rfl rfl (by exact trivial) (srcNext_con hw hvv6) rfl rfl (by exact ⟨rfl, trivial⟩) rfl rfl rfl rfl rfl rfl ?_
     obtain ⟨g1, h⟩ := grd h
     refine WL.q [] rfl rfl rfl (q_ev tbOk (.v (.sl 1 (([([57, 52, 48, 49] : Str), ([57, 53, 48, 50] : Str)].drop v6.1.toNat).map eStr))) rfl (by exact sideR) (by exact tdT)) ?_
     refine lr 2 rfl trivial ?_
     refine WL.nil ?_
     exact WQ.cut [] (v6.2.L, v6.2.I, ([([57, 52, 48, 49] : Str), ([57, 53, 48, 50] : Str)].drop v6.1.toNat)) ⟨(by exact ⟨rfl, rfl, rfl, trivial⟩), (by exact ⟨rfl, rfl, rfl, trivial⟩), rfl, rfl, rfl, rfl⟩ h
    ·replace h := ite_f hc2 h
     refine WC.skip ?_
     refine WQ.weakenO 10 (.blk 37 [.v (.int .i64 (2 : Int)), .v (.int .i64 (IntKind.i64.wrap ((2 : Int) + (IntKind.i64.wrap ((2 : Int) * v2.1))))), .v (.sl 1 ([].map eStr)), .v (.int .i64 0), .v (.int .i64 0), .v (.str []), .v (.raw (.slice none 0 0))]) rfl (LeO.blk (.cons (Le.refl _) (.cons (Le.refl _) (.cons (Le.nil 1) (.cons (Le.refl _) (.cons (Le.refl _) (.cons (Le.refl _) (.cons (Le.refl _) .nil)))))))) rfl ?_
     exact WQ.cut [] (v3.2.L, v3.2.I, []) ⟨(by exact ⟨rfl, rfl, rfl, trivial⟩), (by exact ⟨rfl, rfl, rfl, trivial⟩), rfl, rfl, rfl, rfl⟩ h
   ·rintro ⟨c0_02, c0_12, c10_2⟩ h
    replace h : srcRule_j3 (srcRule_n n) v2 c0_02 c0_12 c10_2 = some _ := h
    unfold srcRule_j3 at h
    show WC _ _ _ ⟨[(10, .p 10 0), (6, .p 6 0), (0, .p 0 0)], [(0, .blk 52 [.v (.sl 1 (c0_02.map eInt_i64)), .v (.int .i64 c0_12)]), (10, .blk 37 [.v (.int .i64 (2 : Int)), .v (.int .i64 (IntKind.i64.wrap ((2 : Int) + (IntKind.i64.wrap ((2 : Int) * v2.1))))), .v (.sl 1 (c10_2.map eStr)), .v (.int .i64 0), .v (.int .i64 0), .v (.str []), .v (.raw (.slice none 0 0))]), (6, .blk 37 [.v (.int .i64 0), .v (.int .i64 0), .v (.raw (.slice none 0 0)), .v (.int .i64 0), .v (.int .i64 0), .v (.str []), .v (.raw (.slice none 0 0))])]⟩ _ _
    refine WC.seq (WC.seq (WC.region ?_))
    refine lr 1 rfl trivial ?_
    replace h := bnd h; obtain ⟨v4, hvv4, h⟩ := h
    refine WL.callO [(0, 0)] [(0, 0)] [0] fn25 rfl rfl rfl rfl (by exact trivial) (srcNext_con hw hvv4) rfl rfl (by exact ⟨rfl, trivial⟩) rfl rfl rfl rfl rfl rfl ?_
    refine lr 1 rfl trivial ?_
    refine WL.nil (WQ.thenNormal ?_)
    refine WC.thenCut (X := (List Int) × Int × Int) (fun gG => ⟨[(10, .p 10 0), (6, .p 6 0), (0, .p 0 0)], [(0, .blk 52 [.v (.sl 1 (gG.1.map eInt_i64)), .v (.int .i64 gG.2.1)]), (10, .blk 37 [.v (.int .i64 (2 : Int)), .v (.int .i64 (IntKind.i64.wrap ((2 : Int) + (IntKind.i64.wrap ((2 : Int) * v2.1))))), .v (.sl 1 (c10_2.map eStr)), .v (.int .i64 gG.2.2), .v (.int .i64 0), .v (.str []), .v (.raw (.slice none 0 0))]), (6, .blk 37 [.v (.int .i64 0), .v (.int .i64 0), .v (.raw (.slice none 0 0)), .v (.int .i64 0), .v (.int .i64 0), .v (.str []), .v (.raw (.slice none 0 0))])]⟩) (fun gG => srcRule_j4 (srcRule_n n) v2 c10_2 gG.1 gG.2.1 gG.2.2 = some r) ?_ ?_
    ·refine WC.cond rfl (fun hc1 => ?_) (fun hc1 => ?_)
     ·replace h := ite_t hc1 h
      refine WC.region ?_
      refine lr 1 rfl trivial ?_
      replace h := bnd h; obtain ⟨v5, hvv5, h⟩ := h
      refine WL.callO [(0, 0)] [(0, 0)] [0] fn49 rfl rfl rfl rfl (by exact trivial) (srcRate_con hw hvv5) rfl rfl (by exact ⟨rfl, trivial⟩) rfl rfl rfl rfl rfl rfl ?_
      refine lr 2 rfl trivial ?_
      refine WL.nil ?_
      exact WQ.cut [] (v5.2.L, v5.2.I, v5.1) ⟨(by exact ⟨rfl, rfl, rfl, trivial⟩), (by exact ⟨rfl, rfl, rfl, trivial⟩), rfl, rfl, rfl, rfl⟩ h
     ·replace h := ite_f hc1 h
      refine WC.skip ?_
      exact WQ.cut [] (v4.2.L, v4.2.I, 0) ⟨(by exact ⟨rfl, rfl, rfl, trivial⟩), (by exact ⟨rfl, rfl, rfl, trivial⟩), rfl, rfl, rfl, rfl⟩ h
    ·rintro ⟨c0_03, c0_13, c10_3⟩ h
     replace h : srcRule_j4 (srcRule_n n) v2 c10_2 c0_03 c0_13 c10_3 = some _ := h
     unfold srcRule_j4 at h
     show WC _ _ _ ⟨[(10, .p 10 0), (6, .p 6 0), (0, .p 0 0)], [(0, .blk 52 [.v (.sl 1 (c0_03.map eInt_i64)), .v (.int .i64 c0_13)]), (10, .blk 37 [.v (.int .i64 (2 : Int)), .v (.int .i64 (IntKind.i64.wrap ((2 : Int) + (IntKind.i64.wrap ((2 : Int) * v2.1))))), .v (.sl 1 (c10_2.map eStr)), .v (.int .i64 c10_3), .v (.int .i64 0), .v (.str []), .v (.raw (.slice none 0 0))]), (6, .blk 37 [.v (.int .i64 0), .v (.int .i64 0), .v (.raw (.slice none 0 0)), .v (.int .i64 0), .v (.int .i64 0), .v (.str []), .v (.raw (.slice none 0 0))])]⟩ _ _
     refine WC.seq (WC.region ?_)
     refine lr 2 rfl trivial ?_
     refine WL.nil (WQ.thenNormal (WC.ret ?_))
     cases h
     exact WQ.rets tbOk (r := .v (.agg [.int .i64 ((⟨(2 : Int), (IntKind.i64.wrap ((2 : Int) + (IntKind.i64.wrap ((2 : Int) * v2.1)))), c10_2, c10_3, 0, [], []⟩ : ApiRule).Kind), .int .i64 ((⟨(2 : Int), (IntKind.i64.wrap ((2 : Int) + (IntKind.i64.wrap ((2 : Int) * v2.1)))), c10_2, c10_3, 0, [], []⟩ : ApiRule).Digits), .sl 1 (((⟨(2 : Int), (IntKind.i64.wrap ((2 : Int) + (IntKind.i64.wrap ((2 : Int) * v2.1)))), c10_2, c10_3, 0, [], []⟩ : ApiRule).Except).map eStr), .int .i64 ((⟨(2 : Int), (IntKind.i64.wrap ((2 : Int) + (IntKind.i64.wrap ((2 : Int) * v2.1)))), c10_2, c10_3, 0, [], []⟩ : ApiRule).Tolerance), .int .i64 ((⟨(2 : Int), (IntKind.i64.wrap ((2 : Int) + (IntKind.i64.wrap ((2 : Int) * v2.1)))), c10_2, c10_3, 0, [], []⟩ : ApiRule).Limit), .str ((⟨(2 : Int), (IntKind.i64.wrap ((2 : Int) + (IntKind.i64.wrap ((2 : Int) * v2.1)))), c10_2, c10_3, 0, [], []⟩ : ApiRule).Name), .sl 7 (((⟨(2 : Int), (IntKind.i64.wrap ((2 : Int) + (IntKind.i64.wrap ((2 : Int) * v2.1)))), c10_2, c10_3, 0, [], []⟩ : ApiRule).Args).map eApiRule)])) hR [] (.inl rfl) rfl rfl (Le.agg (.same (.same (.same (.same (.same (.same (.sl 7 .nil)))))))) (by exact ⟨rfl, trivial⟩) rfl rfl rfl rfl
theorem srcRule_con {wg : World} (hw : WG wg) {s : CustomsmadeSource} {but : Int} {deep : Int} {r : ApiRule × CustomsmadeSource} (h : srcRule s but deep = some r) : Con Tryz.prog wg gl 33 [.p 0 0, .v (.int .i64 but), .v (.int .i64 deep)] [(0, .blk 52 [.v (.sl 1 (s.L.map eInt_i64)), .v (.int .i64 s.I)])] (.v (.agg [.int .i64 r.1.Kind, .int .i64 r.1.Digits, .sl 1 (r.1.Except.map eStr), .int .i64 r.1.Tolerance, .int .i64 r.1.Limit, .str r.1.Name, .sl 7 (r.1.Args.map eApiRule)])) [(0, .blk 52 [.v (.sl 1 (r.2.L.map eInt_i64)), .v (.int .i64 r.2.I)])] := srcRule_n_con hw _ h

theorem madeRule_con {wg : World} (hw : WG wg) {l : (List Int)} {r : ApiRule} (h : madeRule l = some r) : Con Tryz.prog wg gl 14 [.v (.sl 1 (l.map eInt_i64))] [] (.v (.agg [.int .i64 r.Kind, .int .i64 r.Digits, .sl 1 (r.Except.map eStr), .int .i64 r.Tolerance, .int .i64 r.Limit, .str r.Name, .sl 7 (r.Args.map eApiRule)])) [] := by
 unfold madeRule at h
 refine con_of_WC (S := slotsOf 0 _) Tryz.func14 rfl Tryz.ntmps14 rfl (fun t x hx => (slotsOf_get hx).2) ?_
 intro F L w ρ0 R hR
 show WC _ _ _ ⟨[(0, .v (.sl 1 (l.map eInt_i64)))], []⟩ _ _
 refine WC.seq (WC.region ?_)
 refine lr 1 rfl trivial ?_
 refine WL.nil (WQ.thenNormal (WC.seq (WC.region ?_)))
 refine lr 1 rfl trivial ?_
 replace h := bnd h; obtain ⟨v, hvv, h⟩ := h
 refine WL.call0 fn21 rfl rfl rfl rfl (by exact trivial) rfl (madeCut_con hw hvv) ?_
 refine lr 3 rfl trivial ?_
 refine WL.nil (WQ.thenNormal (WC.seq (WC.region ?_)))
 refine lr 1 rfl trivial ?_
 replace h := bnd h; obtain ⟨v2, hvv2, h⟩ := h
 refine WL.callO [(0, 7)] [(0, 7)] [7] fn33 rfl rfl rfl rfl (by exact trivial) (srcRule_con hw hvv2) rfl rfl (by exact ⟨rfl, trivial⟩) rfl rfl rfl rfl rfl rfl ?_
 refine lr 1 rfl trivial ?_
 refine WL.nil (WQ.thenNormal (WC.ret ?_))
 cases h
 exact WQ.rets tbOk hR [] (.inl rfl) rfl rfl (Le.refl _) (by exact trivial) rfl rfl rfl rfl

theorem madeCase_con {wg : World} (hw : WG wg) {l : (List Int)} {r : ApiCase} (h : madeCase l = some r) : Con Tryz.prog wg gl 9 [.v (.sl 1 (l.map eInt_i64))] [] (.v (.agg [.str r.Code, .int .i64 r.Price, .bool r.Obtained, .sl 1 (r.Processes.map eStr), .sl 3 (r.Inputs.map eApiInput)])) [] := by
 unfold madeCase at h
 refine con_of_WC (S := slotsOf 0 _) Tryz.func9 rfl Tryz.ntmps9 rfl (fun t x hx => (slotsOf_get hx).2) ?_
 intro F L w ρ0 R hR
 show WC _ _ _ ⟨[(0, .v (.sl 1 (l.map eInt_i64)))], []⟩ _ _
 refine WC.seq (WC.region ?_)
 refine lr 1 rfl trivial ?_
 refine WL.nil (WQ.thenNormal (WC.seq (WC.region ?_)))
 refine lr 1 rfl trivial ?_
 replace h := bnd h; obtain ⟨v, hvv, h⟩ := h
 refine WL.call0 fn21 rfl rfl rfl rfl (by exact trivial) rfl (madeCut_con hw hvv) ?_
 refine lr 3 rfl trivial ?_
 refine WL.nil (WQ.thenNormal (WC.seq (WC.region ?_)))
 refine lr 2 rfl trivial ?_
 replace h := bnd h; obtain ⟨v2, hvv2, h⟩ := h
 refine WL.callO [(0, 10)] [(0, 10)] [10] fn25 rfl rfl rfl rfl (by exact trivial) (srcNext_con hw hvv2) rfl rfl (by exact ⟨rfl, trivial⟩) rfl rfl rfl rfl rfl rfl ?_
 refine lr 2 rfl trivial ?_
 replace h := bnd h; obtain ⟨v3, hvv3, h⟩ := h
 refine WL.callO [(0, 10)] [(0, 10)] [10] fn24 rfl rfl rfl rfl (by exact trivial) (srcCode_con hw hvv3) rfl rfl (by exact ⟨rfl, trivial⟩) rfl rfl rfl rfl rfl rfl ?_
 refine lr 1 rfl trivial ?_
 replace h := bnd h; obtain ⟨v4, hvv4, h⟩ := h
 refine WL.callO [(0, 10)] [(0, 10)] [10] fn25 rfl rfl rfl rfl (by exact trivial) (srcNext_con hw hvv4) rfl rfl (by exact ⟨rfl, trivial⟩) rfl rfl rfl rfl rfl rfl ?_
 refine lr 2 rfl trivial ?_
 replace h := bnd h; obtain ⟨v5, hvv5, h⟩ := h
 refine WL.callO [(0, 10)] [(0, 10)] [10] fn25 rfl rfl rfl rfl (by exact trivial) (srcNext_con hw hvv5) rfl rfl (by exact ⟨rfl, trivial⟩) rfl rfl rfl rfl rfl rfl ?_
 refine lr 2 rfl trivial ?_
 replace h := bnd h; obtain ⟨v6, hvv6, h⟩ := h
 refine WL.callO [(0, 10)] [(0, 10)] [10] fn26 rfl rfl rfl rfl (by exact trivial) (srcProcesses_con hw hvv6) rfl rfl (by exact ⟨rfl, trivial⟩) rfl rfl rfl rfl rfl rfl ?_
 refine lr 3 rfl trivial ?_
 refine WL.nil (WQ.thenNormal (WC.seq (WC.seq (WC.region ?_))))
 refine lr 1 rfl trivial ?_
 replace h := bnd h; obtain ⟨v7, hvv7, h⟩ := h
 refine WL.callO [(0, 10)] [(0, 10)] [10] fn25 rfl rfl rfl rfl (by exact trivial) (srcNext_con hw hvv7) rfl rfl (by exact ⟨rfl, trivial⟩) rfl rfl rfl rfl rfl rfl ?_
 refine lr 1 rfl trivial ?_
 refine WL.nil (WQ.thenNormal ?_)
 refine WC.thenCut (X := (List Int) × Int × (List ApiInput)) (fun gG => ⟨[(4, .p 4 0), (3, .p 10 0), (2, .p 2 0)], [(10, .blk 52 [.v (.sl 1 (gG.1.map eInt_i64)), .v (.int .i64 gG.2.1)]), (2, .blk 25 [.v (.str []), .v (.int .i64 0), .v (.bool false), .v (.raw (.slice none 0 0)), .v (.raw (.slice none 0 0))]), (2204, .row 28 3 (gG.2.2.map eApiInput)), (4, .blk 25 [.v (.str v3.1), .v (.int .i64 (IntKind.i64.wrap ((1 : Int) + v4.1))), .v (.bool (v5.1 == (1 : Int))), .v (.sl 1 (v6.1.map eStr)), .r 2204])]⟩) (fun gG => madeCase_j1 v3 v4 v5 v6 gG.1 gG.2.1 gG.2.2 = some r) ?_ ?_
 ·refine WC.block ?_
  obtain ⟨eQ2, hl2, hk2⟩ := bnd h
  clear h
  refine WC.rowNilB 4 4 2204 28 3 rfl rfl rfl (cs2 := [.v (.str v3.1), .v (.int .i64 (IntKind.i64.wrap ((1 : Int) + v4.1))), .v (.bool (v5.1 == (1 : Int))), .v (.sl 1 (v6.1.map eStr)), .r 2204]) rfl ?_
  refine WC.loop (σ := Int × (List Int) × Int × (List ApiInput)) (τ := ((List Int) × Int × (List ApiInput))) (fun sS => ⟨[(5, .v (.int .i64 sS.1)), (4, .p 4 0), (3, .p 10 0), (2, .p 2 0)], [(10, .blk 52 [.v (.sl 1 (sS.2.1.map eInt_i64)), .v (.int .i64 sS.2.2.1)]), (2, .blk 25 [.v (.str []), .v (.int .i64 0), .v (.bool false), .v (.raw (.slice none 0 0)), .v (.raw (.slice none 0 0))]), (2204, .row 28 3 (sS.2.2.2.map eApiInput)), (4, .blk 25 [.v (.str v3.1), .v (.int .i64 (IntKind.i64.wrap ((1 : Int) + v4.1))), .v (.bool (v5.1 == (1 : Int))), .v (.sl 1 (v6.1.map eStr)), .r 2204])]⟩) (madeCase_b2 v3 v4 v5 v6) [] (v7.1, v7.2.L, v7.2.I, []) hl2 ⟨(by exact ⟨rfl, rfl, rfl, rfl, trivial⟩), (by exact ⟨rfl, rfl, rfl, rfl, trivial⟩), rfl, rfl, rfl, rfl⟩ ?_
  rintro ⟨n12, c10_05, c10_15, c4_46⟩ m hn2 he2 hx2
  obtain ⟨o2, hf2⟩ := some_of hx2
  have h := hf2
  unfold madeCase_b2 at h
  show WC _ _ _ ⟨[(5, .v (.int .i64 n12)), (4, .p 4 0), (3, .p 10 0), (2, .p 2 0)], [(10, .blk 52 [.v (.sl 1 (c10_05.map eInt_i64)), .v (.int .i64 c10_15)]), (2, .blk 25 [.v (.str []), .v (.int .i64 0), .v (.bool false), .v (.raw (.slice none 0 0)), .v (.raw (.slice none 0 0))]), (2204, .row 28 3 (c4_46.map eApiInput)), (4, .blk 25 [.v (.str v3.1), .v (.int .i64 (IntKind.i64.wrap ((1 : Int) + v4.1))), .v (.bool (v5.1 == (1 : Int))), .v (.sl 1 (v6.1.map eStr)), .r 2204])]⟩ _ _
  refine WC.seq (WC.seq (WC.region ?_))
  refine lr 2 rfl trivial ?_
  refine WL.nil (WQ.thenNormal ?_)
  refine WC.cond rfl (fun hc3 => ?_) (fun hc3 => ?_)
  ·replace h := ite_t hc3 h
   refine WC.skip (WQ.thenNormal (WC.seq (WC.block (WC.order mixed ?_))))
   refine wr 4 rfl trivial ?_
   replace h := bnd h; obtain ⟨v20, hvv20, h⟩ := h
   refine WR.callO [(0, 10)] [(0, 10)] [10] fn25 rfl rfl rfl rfl (by exact trivial) (srcNext_con hw hvv20) rfl rfl (by exact ⟨rfl, trivial⟩) rfl rfl rfl rfl rfl rfl ?_
   refine wr 2 rfl trivial ?_
   replace h := bnd h; obtain ⟨v21, hvv21, h⟩ := h
   refine WR.callO [(0, 10)] [(0, 10)] [10] fn24 rfl rfl rfl rfl (by exact trivial) (srcCode_con hw hvv21) rfl rfl (by exact ⟨rfl, trivial⟩) rfl rfl rfl rfl rfl rfl ?_
   refine wr 1 rfl trivial ?_
   replace h := bnd h; obtain ⟨v22, hvv22, h⟩ := h
   refine WR.callO [(0, 10)] [(0, 10)] [10] fn25 rfl rfl rfl rfl (by exact trivial) (srcNext_con hw hvv22) rfl rfl (by exact ⟨rfl, trivial⟩) rfl rfl rfl rfl rfl rfl ?_
   refine wr 1 rfl trivial ?_
   replace h := bnd h; obtain ⟨v23, hvv23, h⟩ := h
   refine WR.callO [(0, 10)] [(0, 10)] [10] fn25 rfl rfl rfl rfl (by exact trivial) (srcNext_con hw hvv23) rfl rfl (by exact ⟨rfl, trivial⟩) rfl rfl rfl rfl rfl rfl ?_
   refine wr 3 rfl trivial ?_
   obtain ⟨g2, h⟩ := grd h
   refine WR.append tbOk ((c4_46 ++ [(⟨v21.1, v22.1, (v23.1 == (1 : Int))⟩ : ApiInput)]).map eApiInput) [47, 2204] ap23 rfl rfl rfl rfl (fun _ e => by cases e; rfl) (by exact trivial) (map_cells (f := eApiInput) (xs := [(⟨v21.1, v22.1, (v23.1 == (1 : Int))⟩ : ApiInput)]) fun _ => rfl) (by have := g2; simp only [List.length_map, List.length_nil, List.length_cons] at this ⊢; omega) rfl rfl (by simp only [List.map_append]; try rfl) rfl rfl ?_
   refine wr 2 rfl trivial ?_
   refine WR.nil (by kernel_rfl) (WQ.blockNormal (WQ.thenNormal (WC.region ?_)))
   refine lr 3 rfl trivial ?_
   refine WL.nil ?_
   cases h
   exact WQ.next [(2204, 47)] ((IntKind.i64.wrap (n12 - (1 : Int))), v23.2.L, v23.2.I, (c4_46 ++ [(⟨v21.1, v22.1, (v23.1 == (1 : Int))⟩ : ApiInput)])) ⟨(by exact ⟨rfl, rfl, rfl, rfl, trivial⟩), (by exact ⟨rfl, rfl, rfl, rfl, trivial⟩), rfl, rfl, rfl, rfl⟩ (hn2 _ hf2)
  ·replace h := ite_f hc3 h
   refine WC.exit (WQ.thenExit ?_)
   cases h
   have he := he2 _ hf2
   subst he
   replace h := hk2
   try dsimp only at h
   refine WQ.thenExit (WQ.blockExit ?_)
   exact WQ.cut [] (c10_05, c10_15, c4_46) ⟨(by exact ⟨rfl, rfl, rfl, trivial⟩), (by exact ⟨rfl, rfl, rfl, rfl, trivial⟩), rfl, rfl, rfl, rfl⟩ h
 ·rintro ⟨c10_0, c10_1, c4_4⟩ h
  replace h : madeCase_j1 v3 v4 v5 v6 c10_0 c10_1 c4_4 = some _ := h
  unfold madeCase_j1 at h
  show WC _ _ _ ⟨[(4, .p 4 0), (3, .p 10 0), (2, .p 2 0)], [(10, .blk 52 [.v (.sl 1 (c10_0.map eInt_i64)), .v (.int .i64 c10_1)]), (2, .blk 25 [.v (.str []), .v (.int .i64 0), .v (.bool false), .v (.raw (.slice none 0 0)), .v (.raw (.slice none 0 0))]), (2204, .row 28 3 (c4_4.map eApiInput)), (4, .blk 25 [.v (.str v3.1), .v (.int .i64 (IntKind.i64.wrap ((1 : Int) + v4.1))), .v (.bool (v5.1 == (1 : Int))), .v (.sl 1 (v6.1.map eStr)), .r 2204])]⟩ _ _
  refine WC.seq (WC.seq (WC.region ?_))
  refine lr 1 rfl trivial ?_
  replace h := bnd h; obtain ⟨v8, hvv8, h⟩ := h
  refine WL.callO [(0, 10)] [(0, 10)] [10] fn25 rfl rfl rfl rfl (by exact trivial) (srcNext_con hw hvv8) rfl rfl (by exact ⟨rfl, trivial⟩) rfl rfl rfl rfl rfl rfl ?_
  refine lr 1 rfl trivial ?_
  refine WL.nil (WQ.thenNormal ?_)
  refine WC.thenCut (X := Int × (List ApiInput)) (fun gG => ⟨[(4, .p 4 0), (2, .p 2 0)], [(2, .blk 25 [.v (.str []), .v (.int .i64 0), .v (.bool false), .v (.raw (.slice none 0 0)), .v (.raw (.slice none 0 0))]), (2204, .row 28 3 (gG.2.map eApiInput)), (4, .blk 25 [.v (.str v3.1), .v (.int .i64 gG.1), .v (.bool (v5.1 == (1 : Int))), .v (.sl 1 (v6.1.map eStr)), .r 2204])]⟩) (fun gG => madeCase_j2 v3 v5 v6 gG.1 gG.2 = some r) ?_ ?_
  ·refine WC.cond rfl (fun hc1 => ?_) (fun hc1 => ?_)
   ·replace h := ite_t hc1 h
    refine WC.seq (WC.region ?_)
    refine lr 1 rfl trivial ?_
    replace h := bnd h; obtain ⟨v9, hvv9, h⟩ := h
    refine WL.callO [(0, 10)] [(0, 10)] [10] fn25 rfl rfl rfl rfl (by exact trivial) (srcNext_con hw hvv9) rfl rfl (by exact ⟨rfl, trivial⟩) rfl rfl rfl rfl rfl rfl ?_
    refine lr 3 rfl trivial ?_
    refine WL.nil (WQ.thenNormal (WC.seq (WC.region ?_)))
    refine lr 1 rfl trivial ?_
    refine WL.nil (WQ.thenNormal (WC.block ?_))
    obtain ⟨eQ1, hl1, hk1⟩ := bnd h
    clear h
    refine WC.loop (σ := Int × (List Int) × Int × (List ApiInput)) (τ := ((List ApiInput))) (fun sS => ⟨[(6, .v (.int .i64 sS.1)), (4, .p 4 0), (3, .p 10 0), (2, .p 2 0)], [(10, .blk 52 [.v (.sl 1 (sS.2.1.map eInt_i64)), .v (.int .i64 sS.2.2.1)]), (2, .blk 25 [.v (.str []), .v (.int .i64 0), .v (.bool false), .v (.raw (.slice none 0 0)), .v (.raw (.slice none 0 0))]), (2204, .row 28 3 (sS.2.2.2.map eApiInput)), (4, .blk 25 [.v (.str v3.1), .v (.int .i64 (IntKind.i64.wrap ((1 : Int) + v9.1))), .v (.bool (v5.1 == (1 : Int))), .v (.sl 1 (v6.1.map eStr)), .r 2204])]⟩) (madeCase_b1 v3 v5 v6 v9) [] ((0 : Int), v9.2.L, v9.2.I, c4_4) hl1 ⟨(by exact ⟨rfl, rfl, rfl, rfl, trivial⟩), (by exact ⟨rfl, rfl, rfl, rfl, trivial⟩), rfl, rfl, rfl, rfl⟩ ?_
    rintro ⟨i, c10_02, c10_12, c4_43⟩ m hn1 he1 hx1
    obtain ⟨o1, hf1⟩ := some_of hx1
    have h := hf1
    unfold madeCase_b1 at h
    show WC _ _ _ ⟨[(6, .v (.int .i64 i)), (4, .p 4 0), (3, .p 10 0), (2, .p 2 0)], [(10, .blk 52 [.v (.sl 1 (c10_02.map eInt_i64)), .v (.int .i64 c10_12)]), (2, .blk 25 [.v (.str []), .v (.int .i64 0), .v (.bool false), .v (.raw (.slice none 0 0)), .v (.raw (.slice none 0 0))]), (2204, .row 28 3 (c4_43.map eApiInput)), (4, .blk 25 [.v (.str v3.1), .v (.int .i64 (IntKind.i64.wrap ((1 : Int) + v9.1))), .v (.bool (v5.1 == (1 : Int))), .v (.sl 1 (v6.1.map eStr)), .r 2204])]⟩ _ _
    refine WC.seq (WC.seq (WC.region ?_))
    refine lr 3 rfl trivial ?_
    refine WL.q [2204] rfl rfl rfl (q_ev tbOk (.v (.int .i64 (c4_43.length : Int))) rfl (by exact trivial) (by exact lenT)) ?_
    refine lr 1 rfl trivial ?_
    refine WL.nil (WQ.thenNormal ?_)
    refine WC.cond rfl (fun hc2 => ?_) (fun hc2 => ?_)
    ·replace h := ite_t hc2 h
     refine WC.skip (WQ.thenNormal (WC.seq (WC.block (WC.order mixed ?_))))
     refine wr 4 rfl trivial ?_
     replace h := bnd h; obtain ⟨v11, hvv11, h⟩ := h
     refine WR.callO [(0, 10)] [(0, 10)] [10] fn25 rfl rfl rfl rfl (by exact trivial) (srcNext_con hw hvv11) rfl rfl (by exact ⟨rfl, trivial⟩) rfl rfl rfl rfl rfl rfl ?_
     obtain ⟨g1, h⟩ := grd h
     refine WR.q [2204] rfl rfl rfl (q_ridx tbOk rfl (by exact trivial) rfl (by simpa only [List.length_map] using g1)) ?_
     refine wr 1 rfl trivial ?_
     refine WR.rstore tbOk ((c4_43.set i.toNat (⟨(c4_43.getD i.toNat default).Code, v11.1, (c4_43.getD i.toNat default).Originating⟩ : ApiInput)).map eApiInput) rfl rfl rfl (by exact trivial) rfl (map_getD (f := eApiInput) g1.2 g1.1) rfl (mapset (f := eApiInput) (x := (⟨(c4_43.getD i.toNat default).Code, v11.1, (c4_43.getD i.toNat default).Originating⟩ : ApiInput)) (by rfl)) ?_
     refine WR.nil (by kernel_rfl) (WQ.blockNormal (WQ.thenNormal (WC.region ?_)))
     refine lr 3 rfl trivial ?_
     refine WL.nil ?_
     cases h
     exact WQ.next [] ((IntKind.i64.wrap (i + (1 : Int))), v11.2.L, v11.2.I, (c4_43.set i.toNat (⟨(c4_43.getD i.toNat default).Code, v11.1, (c4_43.getD i.toNat default).Originating⟩ : ApiInput))) ⟨(by exact ⟨rfl, rfl, rfl, rfl, trivial⟩), (by exact ⟨rfl, rfl, rfl, rfl, trivial⟩), rfl, rfl, rfl, rfl⟩ (hn1 _ hf1)
    ·replace h := ite_f hc2 h
     refine WC.exit (WQ.thenExit ?_)
     cases h
     have he := he1 _ hf1
     subst he
     replace h := hk1
     try dsimp only at h
     refine WQ.thenExit (WQ.blockExit ?_)
     exact WQ.cut [] ((IntKind.i64.wrap ((1 : Int) + v9.1)), c4_43) ⟨(by exact ⟨rfl, rfl, trivial⟩), (by exact ⟨rfl, rfl, rfl, trivial⟩), rfl, rfl, rfl, rfl⟩ h
   ·replace h := ite_f hc1 h
    refine WC.skip ?_
    exact WQ.cut [] ((IntKind.i64.wrap ((1 : Int) + v4.1)), c4_4) ⟨(by exact ⟨rfl, rfl, trivial⟩), (by exact ⟨rfl, rfl, rfl, trivial⟩), rfl, rfl, rfl, rfl⟩ h
  ·rintro ⟨c4_1, c4_42⟩ h
   replace h : madeCase_j2 v3 v5 v6 c4_1 c4_42 = some _ := h
   unfold madeCase_j2 at h
   show WC _ _ _ ⟨[(4, .p 4 0), (2, .p 2 0)], [(2, .blk 25 [.v (.str []), .v (.int .i64 0), .v (.bool false), .v (.raw (.slice none 0 0)), .v (.raw (.slice none 0 0))]), (2204, .row 28 3 (c4_42.map eApiInput)), (4, .blk 25 [.v (.str v3.1), .v (.int .i64 c4_1), .v (.bool (v5.1 == (1 : Int))), .v (.sl 1 (v6.1.map eStr)), .r 2204])]⟩ _ _
   refine WC.seq ?_
   refine WC.publish 2204 rfl rfl ?_
   refine WC.region ?_
   refine lr 2 rfl trivial ?_
   refine WL.nil (WQ.thenNormal (WC.ret ?_))
   cases h
   exact WQ.rets tbOk hR [] (.inl rfl) rfl rfl (Le.refl _) (by exact trivial) rfl rfl rfl rfl

end Go.Proofs.YtfeleiepnifbcaaGreatDoor
