/- Contracts: the program's functions compute the plain ones; by program (gen.py). -/
import Derived.Test.YtfkefolbabniaaaGreatDoorLib
import Derived.Test.YtfkefolbabniaaaGreatDoorPu
set_option linter.unusedVariables false
set_option linter.unusedSimpArgs false
set_option maxHeartbeats 4000000
set_option maxRecDepth 20000
namespace Go.Proofs.YtfkefolbabniaaaGreatDoor
open Go.V Go.C

theorem r02Digits_con {wg : World} (hw : WG wg) {n1 : Int} {r : Str} (h : r02Digits n1 = some r) : Con Tryz.prog wg gl 143 [.v (.int .i64 n1)] [] (.v (.str r)) [] := by
 unfold r02Digits at h
 refine con_of_WC (S := slotsOf 0 _) Tryz.func143 rfl Tryz.ntmps143 rfl (fun t x hx => (slotsOf_get hx).2) ?_
 intro F L w ρ0 R hR
 show WC _ _ _ ⟨[(0, .v (.int .i64 n1))], []⟩ _ _
 refine WC.seq (WC.region ?_)
 refine lr 1 rfl trivial ?_
 refine WL.nil (WQ.thenNormal (WC.seq (WC.region ?_)))
 refine lr 1 rfl trivial ?_
 refine WL.nil (WQ.thenNormal (WC.block ?_))
 obtain ⟨eQ1, hl1, hk1⟩ := bnd h
 clear h
 refine WC.loop (σ := Str × Int) (τ := (Str)) (fun sS => ⟨[(3, .v (.str sS.1)), (0, .v (.int .i64 sS.2))], []⟩) (r02Digits_b1) [] (([] : Str), n1) hl1 ⟨(by exact ⟨rfl, rfl, trivial⟩), (by exact trivial), rfl, rfl, rfl, rfl⟩ ?_
 rintro ⟨s, n12⟩ m hn1 he1 hx1
 obtain ⟨o1, hf1⟩ := some_of hx1
 have h := hf1
 unfold r02Digits_b1 at h
 show WC _ _ _ ⟨[(3, .v (.str s)), (0, .v (.int .i64 n12))], []⟩ _ _
 refine WC.block (WC.seq (WC.region ?_))
 refine lr 5 rfl (by exact sideR) ?_
 refine WL.q [] rfl rfl rfl (q_b2s tbOk (xs := [(IntKind.u8.wrap (IntKind.i64.wrap ((48 : Int) + (n12.tmod (10 : Int)))))]) by23 rfl (by exact trivial)) ?_
 obtain ⟨g1, h⟩ := grd h
 refine lr 3 rfl (by repeat' (first | exact trivial | assumption | intro _ | exact g1 (by assumption) | apply And.intro | exact sideT | (refine and_i ?_ ?_))) ?_
 refine WL.nil (WQ.thenNormal (WC.seq (WC.region ?_)))
 refine lr 3 rfl (by exact sideR) ?_
 refine WL.nil (WQ.thenNormal (WC.seq (WC.region ?_)))
 refine lr 2 rfl trivial ?_
 refine WL.nil (WQ.thenNormal ?_)
 refine WC.cond rfl (fun hc1 => ?_) (fun hc1 => ?_)
 ·replace h := ite_t hc1 h
  refine WC.seq (WC.region ?_)
  refine lr 2 rfl trivial ?_
  refine WL.nil (WQ.thenNormal (WC.ret (WQ.blockRet ?_)))
  cases h
  have he := he1 _ hf1
  subst he
  have h : some ((bytesI [(IntKind.u8.wrap (IntKind.i64.wrap ((48 : Int) + (n12.tmod (10 : Int)))))]) ++ s) = some _ := hk1
  refine WQ.thenRet (WQ.blockRet ?_)
  cases h
  exact WQ.rets tbOk hR [] (.inl rfl) rfl rfl (Le.refl _) (by exact trivial) rfl rfl rfl rfl
 ·replace h := ite_f hc1 h
  refine WC.skip (WQ.blockNormal ?_)
  cases h
  exact WQ.next [] (((bytesI [(IntKind.u8.wrap (IntKind.i64.wrap ((48 : Int) + (n12.tmod (10 : Int)))))]) ++ s), (IntKind.i64.wrap (n12.tdiv (10 : Int)))) ⟨(by exact ⟨rfl, rfl, trivial⟩), (by exact trivial), rfl, rfl, rfl, rfl⟩ (hn1 _ hf1)

theorem r02Number_con {wg : World} (hw : WG wg) {n1 : Int} {r : Str} (h : r02Number n1 = some r) : Con Tryz.prog wg gl 97 [.v (.int .i64 n1)] [] (.v (.str r)) [] := by
 unfold r02Number at h
 refine con_of_WC (S := slotsOf 0 _) Tryz.func97 rfl Tryz.ntmps97 rfl (fun t x hx => (slotsOf_get hx).2) ?_
 intro F L w ρ0 R hR
 show WC _ _ _ ⟨[(0, .v (.int .i64 n1))], []⟩ _ _
 refine WC.seq (WC.region ?_)
 refine lr 1 rfl trivial ?_
 refine WL.nil (WQ.thenNormal (WC.seq (WC.seq (WC.region ?_))))
 refine lr 2 rfl trivial ?_
 refine WL.nil (WQ.thenNormal ?_)
 refine WC.cond rfl (fun hc1 => ?_) (fun hc1 => ?_)
 ·replace h := ite_t hc1 h
  refine WC.seq (WC.region ?_)
  refine lr 2 rfl trivial ?_
  replace h := bnd h; obtain ⟨v, hvv, h⟩ := h
  refine WL.call0 fn143 rfl rfl rfl rfl (by exact trivial) rfl (r02Digits_con hw hvv) ?_
  obtain ⟨g1, h⟩ := grd h
  refine lr 2 rfl (by repeat' (first | exact trivial | assumption | intro _ | exact g1 (by assumption) | apply And.intro | exact sideT | (refine and_i ?_ ?_))) ?_
  refine WL.nil (WQ.thenNormal (WC.ret (WQ.thenRet ?_)))
  cases h
  exact WQ.rets tbOk hR [] (.inl rfl) rfl rfl (Le.refl _) (by exact trivial) rfl rfl rfl rfl
 ·replace h := ite_f hc1 h
  refine WC.skip (WQ.thenNormal (WC.seq (WC.region ?_)))
  refine lr 1 rfl trivial ?_
  replace h := bnd h; obtain ⟨v2, hvv2, h⟩ := h
  refine WL.call0 fn143 rfl rfl rfl rfl (by exact trivial) rfl (r02Digits_con hw hvv2) ?_
  refine lr 1 rfl trivial ?_
  refine WL.nil (WQ.thenNormal (WC.ret ?_))
  cases h
  exact WQ.rets tbOk hR [] (.inl rfl) rfl rfl (Le.refl _) (by exact trivial) rfl rfl rfl rfl

theorem refJoined_con {wg : World} (hw : WG wg) {l : (List Str)} {by_ : Str} {r : Str} (h : refJoined l by_ = some r) : Con Tryz.prog wg gl 16 [.v (.sl 1 (l.map eStr)), .v (.str by_)] [] (.v (.str r)) [] := by
 unfold refJoined at h
 refine con_of_WC (S := slotsOf 0 _) Tryz.func16 rfl Tryz.ntmps16 rfl (fun t x hx => (slotsOf_get hx).2) ?_
 intro F L w ρ0 R hR
 show WC _ _ _ ⟨[(0, .v (.sl 1 (l.map eStr))), (1, .v (.str by_))], []⟩ _ _
 refine WC.seq (WC.region ?_)
 refine lr 1 rfl trivial ?_
 refine WL.nil (WQ.thenNormal (WC.seq (WC.region ?_)))
 refine lr 1 rfl trivial ?_
 refine WL.nil (WQ.thenNormal (WC.seq (WC.seq (WC.region ?_))))
 refine lr 1 rfl trivial ?_
 refine WL.nil (WQ.thenNormal ?_)
 refine WC.thenCut (X := Str) (fun gG => ⟨[(5, .v (.str gG))], []⟩) (fun gG => refJoined_j1 gG = some r) ?_ ?_
 ·refine WC.block ?_
  obtain ⟨eQ1, hl1, hk1⟩ := bnd h
  clear h
  refine WC.loop (σ := Int × Str) (τ := (Str)) (fun sS => ⟨[(6, .v (.int .i64 sS.1)), (5, .v (.str sS.2)), (0, .v (.sl 1 (l.map eStr))), (1, .v (.str by_))], []⟩) (refJoined_b1 l by_) [] ((0 : Int), ([] : Str)) hl1 ⟨(by exact ⟨rfl, rfl, rfl, rfl, trivial⟩), (by exact trivial), rfl, rfl, rfl, rfl⟩ ?_
  rintro ⟨i, s2⟩ m hn1 he1 hx1
  obtain ⟨o1, hf1⟩ := some_of hx1
  have h := hf1
  unfold refJoined_b1 at h
  show WC _ _ _ ⟨[(6, .v (.int .i64 i)), (5, .v (.str s2)), (0, .v (.sl 1 (l.map eStr))), (1, .v (.str by_))], []⟩ _ _
  refine WC.seq (WC.seq (WC.region ?_))
  refine lr 2 rfl trivial ?_
  refine WL.q [] rfl rfl rfl (q_ev tbOk (.v (.int .i64 (l.length : Int))) rfl (by exact trivial) (by exact lenT)) ?_
  refine lr 1 rfl trivial ?_
  refine WL.nil (WQ.thenNormal ?_)
  refine WC.cond rfl (fun hc1 => ?_) (fun hc1 => ?_)
  ·replace h := ite_t hc1 h
   refine WC.skip (WQ.thenNormal (WC.seq (WC.block (WC.seq (WC.seq (WC.region ?_))))))
   refine lr 2 rfl trivial ?_
   refine WL.nil (WQ.thenNormal ?_)
   refine WC.thenCut (X := Str) (fun gG => ⟨[(5, .v (.str gG)), (6, .v (.int .i64 i)), (0, .v (.sl 1 (l.map eStr))), (1, .v (.str by_))], []⟩) (fun gG => refJoined_j2 l by_ i gG = some o1) ?_ ?_
   ·refine WC.cond rfl (fun hc2 => ?_) (fun hc2 => ?_)
    ·replace h := ite_t hc2 h
     refine WC.region ?_
     obtain ⟨g3, h⟩ := grd h
     refine lr 4 rfl (by repeat' (first | exact trivial | assumption | intro _ | exact g3 (by assumption) | apply And.intro | exact sideT | (refine and_i ?_ ?_))) ?_
     refine WL.nil ?_
     exact WQ.cut [] (s2 ++ by_) ⟨(by exact ⟨rfl, rfl, rfl, rfl, trivial⟩), (by exact trivial), rfl, rfl, rfl, rfl⟩ h
    ·replace h := ite_f hc2 h
     refine WC.skip ?_
     exact WQ.cut [] s2 ⟨(by exact ⟨rfl, rfl, rfl, rfl, trivial⟩), (by exact trivial), rfl, rfl, rfl, rfl⟩ h
   ·intro s6 h
    replace h : refJoined_j2 l by_ i s6 = some _ := h
    unfold refJoined_j2 at h
    show WC _ _ _ ⟨[(5, .v (.str s6)), (6, .v (.int .i64 i)), (0, .v (.sl 1 (l.map eStr))), (1, .v (.str by_))], []⟩ _ _
    refine WC.region ?_
    refine lr 3 rfl trivial ?_
    obtain ⟨g1, h⟩ := grd h
    replace h := bnd h; obtain ⟨x2, hxx2, h⟩ := h
    refine WL.q [] rfl rfl rfl (q_idx tbOk rfl (by exact trivial) g1 (map_get (f := eStr) hxx2)) ?_
    obtain ⟨g2, h⟩ := grd h
    refine lr 3 rfl (by repeat' (first | exact trivial | assumption | intro _ | exact g2 (by assumption) | apply And.intro | exact sideT | (refine and_i ?_ ?_))) ?_
    refine WL.nil (WQ.blockNormal (WQ.thenNormal (WC.region ?_)))
    refine lr 3 rfl trivial ?_
    refine WL.nil ?_
    cases h
    exact WQ.next [] ((IntKind.i64.wrap (i + (1 : Int))), (s6 ++ x2)) ⟨(by exact ⟨rfl, rfl, rfl, rfl, trivial⟩), (by exact trivial), rfl, rfl, rfl, rfl⟩ (hn1 _ hf1)
  ·replace h := ite_f hc1 h
   refine WC.exit (WQ.thenExit ?_)
   cases h
   have he := he1 _ hf1
   subst he
   replace h := hk1
   try dsimp only at h
   refine WQ.thenExit (WQ.blockExit ?_)
   exact WQ.cut [] s2 ⟨(by exact ⟨rfl, trivial⟩), (by exact trivial), rfl, rfl, rfl, rfl⟩ h
 ·intro s h
  replace h : refJoined_j1 s = some _ := h
  unfold refJoined_j1 at h
  show WC _ _ _ ⟨[(5, .v (.str s))], []⟩ _ _
  refine WC.seq (WC.region ?_)
  refine lr 2 rfl trivial ?_
  refine WL.nil (WQ.thenNormal (WC.ret ?_))
  cases h
  exact WQ.rets tbOk hR [] (.inl rfl) rfl rfl (Le.refl _) (by exact trivial) rfl rfl rfl rfl

theorem r08Split_con {wg : World} (hw : WG wg) {s : Str} {by_ : Int} {r : (List Str)} (h : r08Split s by_ = some r) : Con Tryz.prog wg gl 15 [.v (.str s), .v (.int .u8 by_)] [] (.v (.sl 1 (r.map eStr))) [] := by
 unfold r08Split at h
 refine con_of_WC (S := slotsOf 0 _) Tryz.func15 rfl Tryz.ntmps15 rfl (fun t x hx => (slotsOf_get hx).2) ?_
 intro F L w ρ0 R hR
 show WC _ _ _ ⟨[(0, .v (.str s)), (1, .v (.int .u8 by_))], []⟩ _ _
 refine WC.seq (WC.region ?_)
 refine lr 1 rfl trivial ?_
 refine WL.nil (WQ.thenNormal (WC.seq (WC.region ?_)))
 refine lr 1 rfl trivial ?_
 refine WL.nil (WQ.thenNormal (WC.seq (WC.region ?_)))
 refine lr 1 rfl trivial ?_
 refine WL.nil (WQ.thenNormal (WC.seq (WC.seq (WC.region ?_))))
 refine lr 1 rfl trivial ?_
 refine WL.nil (WQ.thenNormal ?_)
 refine WC.thenCut (X := (List Str)) (fun gG => ⟨[(5, .r 1005)], [(1005, .row 9 1 (gG.map eStr))]⟩) (fun gG => r08Split_j1 gG = some r) ?_ ?_
 ·refine WC.block ?_
  obtain ⟨eQ1, hl1, hk1⟩ := bnd h
  clear h
  refine WC.rowNil 5 1005 9 1 rfl rfl ?_
  refine WC.loop (σ := Int × Int × (List Str)) (τ := ((List Str))) (fun sS => ⟨[(7, .v (.int .i64 sS.1)), (6, .v (.int .i64 sS.2.1)), (5, .r 1005), (0, .v (.str s)), (1, .v (.int .u8 by_))], [(1005, .row 9 1 (sS.2.2.map eStr))]⟩) (r08Split_b1 s by_) [] ((0 : Int), (0 : Int), []) hl1 ⟨(by exact ⟨rfl, rfl, rfl, rfl, rfl, trivial⟩), (by exact ⟨rfl, trivial⟩), rfl, rfl, rfl, rfl⟩ ?_
  rintro ⟨i2, from_3, out3⟩ m hn1 he1 hx1
  obtain ⟨o1, hf1⟩ := some_of hx1
  have h := hf1
  unfold r08Split_b1 at h
  show WC _ _ _ ⟨[(7, .v (.int .i64 i2)), (6, .v (.int .i64 from_3)), (5, .r 1005), (0, .v (.str s)), (1, .v (.int .u8 by_))], [(1005, .row 9 1 (out3.map eStr))]⟩ _ _
  refine WC.seq (WC.seq (WC.region ?_))
  refine lr 4 rfl trivial ?_
  refine WL.nil (WQ.thenNormal ?_)
  refine WC.cond rfl (fun hc1 => ?_) (fun hc1 => ?_)
  ·replace h := ite_t hc1 h
   refine WC.skip (WQ.thenNormal (WC.seq ?_))
   refine WC.thenCut (X := Int × (List Str)) (fun gG => ⟨[(6, .v (.int .i64 gG.1)), (5, .r 1005), (7, .v (.int .i64 i2)), (0, .v (.str s)), (1, .v (.int .u8 by_))], [(1005, .row 9 1 (gG.2.map eStr))]⟩) (fun gG => r08Split_j2 s by_ i2 gG.1 gG.2 = some o1) ?_ ?_
   ·refine WC.block (WC.seq (WC.region ?_))
    obtain ⟨g1, h⟩ := grd h
    refine lr 11 rfl (by repeat' (first | exact trivial | assumption | intro _ | exact g1 (by assumption) | apply And.intro | exact sideT | (refine and_i ?_ ?_))) ?_
    refine WL.nil (WQ.thenNormal ?_)
    refine WC.cond rfl (fun hc2 => ?_) (fun hc2 => ?_)
    ·replace h := ite_t hc2 h
     refine WC.seq (WC.region ?_)
     obtain ⟨g2, h⟩ := grd h
     refine lr 6 rfl (by repeat' (first | exact trivial | assumption | intro _ | exact g2 (by assumption) | apply And.intro | exact sideT | (refine and_i ?_ ?_))) ?_
     obtain ⟨g3, h⟩ := grd h
     refine WL.append tbOk ((out3 ++ [((s.take i2.toNat).drop from_3.toNat)]).map eStr) [31, 1005] ap31 rfl rfl rfl rfl (fun _ e => by cases e; rfl) (by exact trivial) (map_cells (f := eStr) (xs := [((s.take i2.toNat).drop from_3.toNat)]) fun _ => rfl) (by have := g3; simp only [List.length_map, List.length_nil, List.length_cons] at this ⊢; omega) rfl rfl (by simp only [List.map_append]; try rfl) rfl ?_
     refine lr 1 rfl trivial ?_
     refine WL.nil (WQ.thenNormal (WC.region ?_))
     refine lr 3 rfl trivial ?_
     refine WL.nil (WQ.blockNormal ?_)
     exact WQ.cut [(1005, 31)] ((IntKind.i64.wrap (i2 + (1 : Int))), (out3 ++ [((s.take i2.toNat).drop from_3.toNat)])) ⟨(by exact ⟨rfl, rfl, rfl, rfl, rfl, trivial⟩), (by exact ⟨rfl, trivial⟩), rfl, rfl, rfl, rfl⟩ h
    ·replace h := ite_f hc2 h
     refine WC.skip (WQ.blockNormal ?_)
     exact WQ.cut [] (from_3, out3) ⟨(by exact ⟨rfl, rfl, rfl, rfl, rfl, trivial⟩), (by exact ⟨rfl, trivial⟩), rfl, rfl, rfl, rfl⟩ h
   ·rintro ⟨from_5, out6⟩ h
    replace h : r08Split_j2 s by_ i2 from_5 out6 = some _ := h
    unfold r08Split_j2 at h
    show WC _ _ _ ⟨[(6, .v (.int .i64 from_5)), (5, .r 1005), (7, .v (.int .i64 i2)), (0, .v (.str s)), (1, .v (.int .u8 by_))], [(1005, .row 9 1 (out6.map eStr))]⟩ _ _
    refine WC.region ?_
    refine lr 3 rfl trivial ?_
    refine WL.nil ?_
    cases h
    exact WQ.next [] ((IntKind.i64.wrap (i2 + (1 : Int))), from_5, out6) ⟨(by exact ⟨rfl, rfl, rfl, rfl, rfl, trivial⟩), (by exact ⟨rfl, trivial⟩), rfl, rfl, rfl, rfl⟩ (hn1 _ hf1)
  ·replace h := ite_f hc1 h
   refine WC.exit (WQ.thenExit ?_)
   cases h
   have he := he1 _ hf1
   subst he
   replace h := hk1
   try dsimp only at h
   refine WQ.thenExit (WQ.blockExit ?_)
   exact WQ.cut [] out3 ⟨(by exact ⟨rfl, trivial⟩), (by exact ⟨rfl, trivial⟩), rfl, rfl, rfl, rfl⟩ h
 ·intro out h
  replace h : r08Split_j1 out = some _ := h
  unfold r08Split_j1 at h
  show WC _ _ _ ⟨[(5, .r 1005)], [(1005, .row 9 1 (out.map eStr))]⟩ _ _
  refine WC.seq (WC.region ?_)
  refine lr 2 rfl trivial ?_
  refine WL.nil (WQ.thenNormal (WC.ret ?_))
  refine WQ.publish 1005 rfl rfl ?_
  cases h
  exact WQ.rets tbOk hR [] (.inl rfl) rfl rfl (Le.refl _) (by exact trivial) rfl rfl rfl rfl

theorem r08SplitR_con {wg : World} (hw : WG wg) {s : Str} {by_ : Int} {r : (List Str)} (h : r08SplitR s by_ = some r) : Con Tryz.prog wg gl 15 [.v (.str s), .v (.int .u8 by_)] [] (.r 500) [(500, .row 9 1 (r.map eStr))] := by
 unfold r08SplitR at h
 refine con_of_WC (S := slotsOf 0 _) Tryz.func15 rfl Tryz.ntmps15 rfl (fun t x hx => (slotsOf_get hx).2) ?_
 intro F L w ρ0 R hR
 show WC _ _ _ ⟨[(0, .v (.str s)), (1, .v (.int .u8 by_))], []⟩ _ _
 refine WC.seq (WC.region ?_)
 refine lr 1 rfl trivial ?_
 refine WL.nil (WQ.thenNormal (WC.seq (WC.region ?_)))
 refine lr 1 rfl trivial ?_
 refine WL.nil (WQ.thenNormal (WC.seq (WC.region ?_)))
 refine lr 1 rfl trivial ?_
 refine WL.nil (WQ.thenNormal (WC.seq (WC.seq (WC.region ?_))))
 refine lr 1 rfl trivial ?_
 refine WL.nil (WQ.thenNormal ?_)
 refine WC.thenCut (X := (List Str)) (fun gG => ⟨[(5, .r 1005)], [(1005, .row 9 1 (gG.map eStr))]⟩) (fun gG => r08SplitR_j1 gG = some r) ?_ ?_
 ·refine WC.block ?_
  obtain ⟨eQ1, hl1, hk1⟩ := bnd h
  clear h
  refine WC.rowNil 5 1005 9 1 rfl rfl ?_
  refine WC.loop (σ := Int × Int × (List Str)) (τ := ((List Str))) (fun sS => ⟨[(7, .v (.int .i64 sS.1)), (6, .v (.int .i64 sS.2.1)), (5, .r 1005), (0, .v (.str s)), (1, .v (.int .u8 by_))], [(1005, .row 9 1 (sS.2.2.map eStr))]⟩) (r08SplitR_b1 s by_) [] ((0 : Int), (0 : Int), []) hl1 ⟨(by exact ⟨rfl, rfl, rfl, rfl, rfl, trivial⟩), (by exact ⟨rfl, trivial⟩), rfl, rfl, rfl, rfl⟩ ?_
  rintro ⟨i2, from_3, out3⟩ m hn1 he1 hx1
  obtain ⟨o1, hf1⟩ := some_of hx1
  have h := hf1
  unfold r08SplitR_b1 at h
  show WC _ _ _ ⟨[(7, .v (.int .i64 i2)), (6, .v (.int .i64 from_3)), (5, .r 1005), (0, .v (.str s)), (1, .v (.int .u8 by_))], [(1005, .row 9 1 (out3.map eStr))]⟩ _ _
  refine WC.seq (WC.seq (WC.region ?_))
  refine lr 4 rfl trivial ?_
  refine WL.nil (WQ.thenNormal ?_)
  refine WC.cond rfl (fun hc1 => ?_) (fun hc1 => ?_)
  ·replace h := ite_t hc1 h
   refine WC.skip (WQ.thenNormal (WC.seq ?_))
   refine WC.thenCut (X := Int × (List Str)) (fun gG => ⟨[(6, .v (.int .i64 gG.1)), (5, .r 1005), (7, .v (.int .i64 i2)), (0, .v (.str s)), (1, .v (.int .u8 by_))], [(1005, .row 9 1 (gG.2.map eStr))]⟩) (fun gG => r08SplitR_j2 s by_ i2 gG.1 gG.2 = some o1) ?_ ?_
   ·refine WC.block (WC.seq (WC.region ?_))
    obtain ⟨g1, h⟩ := grd h
    refine lr 11 rfl (by repeat' (first | exact trivial | assumption | intro _ | exact g1 (by assumption) | apply And.intro | exact sideT | (refine and_i ?_ ?_))) ?_
    refine WL.nil (WQ.thenNormal ?_)
    refine WC.cond rfl (fun hc2 => ?_) (fun hc2 => ?_)
    ·replace h := ite_t hc2 h
     refine WC.seq (WC.region ?_)
     obtain ⟨g2, h⟩ := grd h
     refine lr 6 rfl (by repeat' (first | exact trivial | assumption | intro _ | exact g2 (by assumption) | apply And.intro | exact sideT | (refine and_i ?_ ?_))) ?_
     obtain ⟨g3, h⟩ := grd h
     refine WL.append tbOk ((out3 ++ [((s.take i2.toNat).drop from_3.toNat)]).map eStr) [31, 1005] ap31 rfl rfl rfl rfl (fun _ e => by cases e; rfl) (by exact trivial) (map_cells (f := eStr) (xs := [((s.take i2.toNat).drop from_3.toNat)]) fun _ => rfl) (by have := g3; simp only [List.length_map, List.length_nil, List.length_cons] at this ⊢; omega) rfl rfl (by simp only [List.map_append]; try rfl) rfl ?_
     refine lr 1 rfl trivial ?_
     refine WL.nil (WQ.thenNormal (WC.region ?_))
     refine lr 3 rfl trivial ?_
     refine WL.nil (WQ.blockNormal ?_)
     exact WQ.cut [(1005, 31)] ((IntKind.i64.wrap (i2 + (1 : Int))), (out3 ++ [((s.take i2.toNat).drop from_3.toNat)])) ⟨(by exact ⟨rfl, rfl, rfl, rfl, rfl, trivial⟩), (by exact ⟨rfl, trivial⟩), rfl, rfl, rfl, rfl⟩ h
    ·replace h := ite_f hc2 h
     refine WC.skip (WQ.blockNormal ?_)
     exact WQ.cut [] (from_3, out3) ⟨(by exact ⟨rfl, rfl, rfl, rfl, rfl, trivial⟩), (by exact ⟨rfl, trivial⟩), rfl, rfl, rfl, rfl⟩ h
   ·rintro ⟨from_5, out6⟩ h
    replace h : r08SplitR_j2 s by_ i2 from_5 out6 = some _ := h
    unfold r08SplitR_j2 at h
    show WC _ _ _ ⟨[(6, .v (.int .i64 from_5)), (5, .r 1005), (7, .v (.int .i64 i2)), (0, .v (.str s)), (1, .v (.int .u8 by_))], [(1005, .row 9 1 (out6.map eStr))]⟩ _ _
    refine WC.region ?_
    refine lr 3 rfl trivial ?_
    refine WL.nil ?_
    cases h
    exact WQ.next [] ((IntKind.i64.wrap (i2 + (1 : Int))), from_5, out6) ⟨(by exact ⟨rfl, rfl, rfl, rfl, rfl, trivial⟩), (by exact ⟨rfl, trivial⟩), rfl, rfl, rfl, rfl⟩ (hn1 _ hf1)
  ·replace h := ite_f hc1 h
   refine WC.exit (WQ.thenExit ?_)
   cases h
   have he := he1 _ hf1
   subst he
   replace h := hk1
   try dsimp only at h
   refine WQ.thenExit (WQ.blockExit ?_)
   exact WQ.cut [] out3 ⟨(by exact ⟨rfl, trivial⟩), (by exact ⟨rfl, trivial⟩), rfl, rfl, rfl, rfl⟩ h
 ·intro out h
  replace h : r08SplitR_j1 out = some _ := h
  unfold r08SplitR_j1 at h
  show WC _ _ _ ⟨[(5, .r 1005)], [(1005, .row 9 1 (out.map eStr))]⟩ _ _
  refine WC.seq (WC.region ?_)
  refine lr 2 rfl trivial ?_
  refine WL.nil (WQ.thenNormal (WC.ret ?_))
  cases h
  exact WQ.rets tbOk hR [(500, 1005)] (.inl rfl) rfl rfl (Le.refl _) (by exact ⟨rfl, trivial⟩) rfl rfl rfl rfl

theorem r08Num_con {wg : World} (hw : WG wg) {s : Str} {r : Int} (h : r08Num s = some r) : Con Tryz.prog wg gl 52 [.v (.str s)] [] (.v (.int .i64 r)) [] := by
 unfold r08Num at h
 refine con_of_WC (S := slotsOf 0 _) Tryz.func52 rfl Tryz.ntmps52 rfl (fun t x hx => (slotsOf_get hx).2) ?_
 intro F L w ρ0 R hR
 show WC _ _ _ ⟨[(0, .v (.str s))], []⟩ _ _
 refine WC.seq (WC.region ?_)
 refine lr 1 rfl trivial ?_
 refine WL.nil (WQ.thenNormal (WC.seq (WC.region ?_)))
 refine lr 1 rfl trivial ?_
 refine WL.nil (WQ.thenNormal (WC.seq (WC.seq (WC.region ?_))))
 refine lr 1 rfl trivial ?_
 refine WL.nil (WQ.thenNormal ?_)
 refine WC.thenCut (X := Int) (fun gG => ⟨[(3, .v (.int .i64 gG))], []⟩) (fun gG => r08Num_j1 gG = some r) ?_ ?_
 ·refine WC.block ?_
  obtain ⟨eQ1, hl1, hk1⟩ := bnd h
  clear h
  refine WC.loop (σ := Int × Int) (τ := ((Int) ⊕ (Int))) (fun sS => ⟨[(4, .v (.int .i64 sS.1)), (3, .v (.int .i64 sS.2)), (0, .v (.str s))], []⟩) (r08Num_b1 s) [] ((0 : Int), (0 : Int)) hl1 ⟨(by exact ⟨rfl, rfl, rfl, trivial⟩), (by exact trivial), rfl, rfl, rfl, rfl⟩ ?_
  rintro ⟨i, n12⟩ m hn1 he1 hx1
  obtain ⟨o1, hf1⟩ := some_of hx1
  have h := hf1
  unfold r08Num_b1 at h
  show WC _ _ _ ⟨[(4, .v (.int .i64 i)), (3, .v (.int .i64 n12)), (0, .v (.str s))], []⟩ _ _
  refine WC.seq (WC.seq (WC.region ?_))
  refine lr 4 rfl trivial ?_
  refine WL.nil (WQ.thenNormal ?_)
  refine WC.cond rfl (fun hc1 => ?_) (fun hc1 => ?_)
  ·replace h := ite_t hc1 h
   refine WC.skip (WQ.thenNormal (WC.seq (WC.block (WC.seq (WC.seq (WC.region ?_))))))
   obtain ⟨g1, h⟩ := grd h
   obtain ⟨g2, h⟩ := grd h
   refine lr 14 rfl (by repeat' (first | exact trivial | assumption | intro _ | exact g1 (by assumption) | exact g2 (by assumption) | apply And.intro | exact sideT | (refine and_i ?_ ?_))) ?_
   refine WL.nil (WQ.thenNormal ?_)
   refine WC.cond rfl (fun hc2 => ?_) (fun hc2 => ?_)
   ·replace h := ite_t hc2 h
    refine WC.seq (WC.region ?_)
    refine lr 1 rfl trivial ?_
    refine WL.nil (WQ.thenNormal (WC.ret (WQ.thenRet (WQ.blockRet (WQ.thenRet ?_)))))
    cases h
    have he := he1 _ hf1
    subst he
    have h : some (-1 : Int) = some _ := hk1
    refine WQ.thenRet (WQ.blockRet (WQ.thenRet ?_))
    cases h
    exact WQ.rets tbOk hR [] (.inl rfl) rfl rfl (Le.refl _) (by exact trivial) rfl rfl rfl rfl
   ·replace h := ite_f hc2 h
    refine WC.skip (WQ.thenNormal (WC.region ?_))
    obtain ⟨g3, h⟩ := grd h
    refine lr 9 rfl (by repeat' (first | exact trivial | assumption | intro _ | exact g3 (by assumption) | apply And.intro | exact sideT | (refine and_i ?_ ?_))) ?_
    refine WL.nil (WQ.blockNormal (WQ.thenNormal (WC.region ?_)))
    refine lr 3 rfl trivial ?_
    refine WL.nil ?_
    cases h
    exact WQ.next [] ((IntKind.i64.wrap (i + (1 : Int))), (IntKind.i64.wrap ((IntKind.i64.wrap ((10 : Int) * n12)) + (IntKind.i64.wrap (IntKind.u8.wrap (((s.getD i.toNat 0).toNat : Int) - (48 : Int))))))) ⟨(by exact ⟨rfl, rfl, rfl, trivial⟩), (by exact trivial), rfl, rfl, rfl, rfl⟩ (hn1 _ hf1)
  ·replace h := ite_f hc1 h
   refine WC.exit (WQ.thenExit ?_)
   cases h
   have he := he1 _ hf1
   subst he
   replace h := hk1
   try dsimp only at h
   refine WQ.thenExit (WQ.blockExit ?_)
   exact WQ.cut [] n12 ⟨(by exact ⟨rfl, trivial⟩), (by exact trivial), rfl, rfl, rfl, rfl⟩ h
 ·intro n1 h
  replace h : r08Num_j1 n1 = some _ := h
  unfold r08Num_j1 at h
  show WC _ _ _ ⟨[(3, .v (.int .i64 n1))], []⟩ _ _
  refine WC.seq (WC.region ?_)
  refine lr 2 rfl trivial ?_
  refine WL.nil (WQ.thenNormal (WC.ret ?_))
  cases h
  exact WQ.rets tbOk hR [] (.inl rfl) rfl rfl (Le.refl _) (by exact trivial) rfl rfl rfl rfl

end Go.Proofs.YtfkefolbabniaaaGreatDoor
