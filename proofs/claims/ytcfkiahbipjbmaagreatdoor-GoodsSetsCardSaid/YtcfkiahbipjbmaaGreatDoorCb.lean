/- Contracts: the program's functions compute the plain ones; by program (gen.py). -/
import Derived.Test.YtcfkiahbipjbmaaGreatDoorLib
import Derived.Test.YtcfkiahbipjbmaaGreatDoorPb
import Derived.Test.YtcfkiahbipjbmaaGreatDoorCa
set_option linter.unusedVariables false
set_option linter.unusedSimpArgs false
set_option maxHeartbeats 4000000
set_option maxRecDepth 20000
namespace Go.Proofs.YtcfkiahbipjbmaaGreatDoor
open Go.V Go.C

theorem isWord_con {wg : World} (hw : WG wg) {s : Str} {r : Bool} (h : isWord s = some r) : Con Tryz.prog wg gl 27 [.v (.str s)] [] (.v (.bool r)) [] := by
 unfold isWord at h
 refine con_of_WC (S := slotsOf 0 _) Tryz.func27 rfl Tryz.ntmps27 rfl (fun t x hx => (slotsOf_get hx).2) ?_
 intro F L w ρ0 R hR
 show WC _ _ _ ⟨[(0, .v (.str s))], []⟩ _ _
 refine WC.seq (WC.region ?_)
 refine lr 1 rfl trivial ?_
 refine WL.nil (WQ.thenNormal (WC.seq (WC.seq (WC.region ?_))))
 refine lr 8 rfl (by exact sideR) ?_
 refine WL.nil (WQ.thenNormal ?_)
 refine WC.cond rfl (fun hc1 => ?_) (fun hc1 => ?_)
 ·replace h := ite_t hc1 h
  refine WC.seq (WC.region ?_)
  refine lr 1 rfl trivial ?_
  refine WL.nil (WQ.thenNormal (WC.ret (WQ.thenRet ?_)))
  cases h
  exact WQ.rets tbOk hR [] (.inl rfl) rfl rfl (Le.refl _) (by exact trivial) rfl rfl rfl rfl
 ·replace h := ite_f hc1 h
  refine WC.skip (WQ.thenNormal (WC.seq (WC.seq (WC.region ?_))))
  refine lr 1 rfl trivial ?_
  refine WL.range tbOk rfl rfl rfl rfl (by exact trivial) rfl ?_
  refine WL.nil (WQ.thenNormal ?_)
  refine WC.thenCut (X := Unit) (fun gG => ⟨[], []⟩) (fun gG => isWord_j1  = some r) ?_ ?_
  ·refine WC.block ?_
   obtain ⟨eQ1, hl1, hk1⟩ := bnd h
   clear h
   refine WC.loop (σ := Nat) (τ := ((Bool) ⊕ (Unit))) (fun sS => ⟨[(14, .r 14)], [(14, .it s sS)]⟩) (isWord_b1 s) [] 0 hl1 ⟨(by exact ⟨rfl, trivial⟩), (by exact ⟨rfl, trivial⟩), rfl, rfl, rfl, rfl⟩ ?_
   intro pos m hn1 he1 hx1
   obtain ⟨o1, hf1⟩ := some_of hx1
   have h := hf1
   unfold isWord_b1 at h
   show WC _ _ _ ⟨[(14, .r 14)], [(14, .it s pos)]⟩ _ _
   refine WC.seq (WC.region ?_)
   refine WL.next rfl rfl rfl rfl (by exact sideR) rfl (fun hx1 => ?_) (fun hx1 => ?_)
   ·replace h := ifp hx1 h
    refine lr 1 rfl trivial ?_
    refine WL.nil (WQ.thenNormal (WC.seq ?_))
    refine WC.cond (b := true) rfl (fun hc2 => ?_) (fun hc2 => by cases hc2)
    refine WC.skip (WQ.thenNormal (WC.block (WC.seq (WC.region ?_))))
    refine lr 2 rfl trivial ?_
    refine WL.nil (WQ.thenNormal (WC.seq (WC.region ?_)))
    refine lr 6 rfl (by exact sideR) ?_
    refine WL.nil (WQ.thenNormal ?_)
    refine WC.cond rfl (fun hc3 => ?_) (fun hc3 => ?_)
    ·replace h := ite_t hc3 h
     refine WC.seq (WC.region ?_)
     refine lr 1 rfl trivial ?_
     refine WL.nil (WQ.thenNormal (WC.ret (WQ.blockRet ?_)))
     cases h
     have he := he1 _ hf1
     subst he
     have h : some false = some _ := hk1
     refine WQ.thenRet (WQ.blockRet (WQ.thenRet ?_))
     cases h
     exact WQ.rets tbOk hR [] (.inl rfl) rfl rfl (Le.refl _) (by exact trivial) rfl rfl rfl rfl
    ·replace h := ite_f hc3 h
     refine WC.skip (WQ.blockNormal ?_)
     cases h
     exact WQ.next [] (pos + runeW s pos) ⟨(by exact ⟨rfl, trivial⟩), (by exact ⟨rfl, trivial⟩), rfl, rfl, rfl, rfl⟩ (hn1 _ hf1)
   ·replace h := ifn hx1 h
    refine lr 1 rfl trivial ?_
    refine WL.nil (WQ.thenNormal (WC.seq ?_))
    refine WC.cond (b := false) rfl (fun hc4 => by cases hc4) (fun hc4 => ?_)
    refine WC.exit (WQ.thenExit ?_)
    cases h
    have he := he1 _ hf1
    subst he
    replace h := hk1
    try dsimp only at h
    refine WQ.thenExit (WQ.blockExit ?_)
    exact WQ.cut [] () ⟨(by exact trivial), (by exact trivial), rfl, rfl, rfl, rfl⟩ h
  ·intro _ h
   replace h : isWord_j1 = some _ := h
   unfold isWord_j1 at h
   show WC _ _ _ ⟨[], []⟩ _ _
   refine WC.seq (WC.region ?_)
   refine lr 1 rfl trivial ?_
   refine WL.nil (WQ.thenNormal (WC.ret ?_))
   cases h
   exact WQ.rets tbOk hR [] (.inl rfl) rfl rfl (Le.refl _) (by exact trivial) rfl rfl rfl rfl

theorem validWords_con {wg : World} (hw : WG wg) {l : (List Str)} {r : Bool} (h : validWords l = some r) : Con Tryz.prog wg gl 13 [.v (.sl 1 (l.map eStr))] [] (.v (.bool r)) [] := by
 unfold validWords at h
 refine con_of_WC (S := slotsOf 0 _) Tryz.func13 rfl Tryz.ntmps13 rfl (fun t x hx => (slotsOf_get hx).2) ?_
 intro F L w ρ0 R hR
 show WC _ _ _ ⟨[(0, .v (.sl 1 (l.map eStr)))], []⟩ _ _
 refine WC.seq (WC.region ?_)
 refine lr 1 rfl trivial ?_
 refine WL.nil (WQ.thenNormal (WC.seq (WC.seq (WC.region ?_))))
 refine lr 1 rfl trivial ?_
 refine WL.q [] rfl rfl rfl (q_ev tbOk (.v (.int .i64 (l.length : Int))) rfl (by exact trivial) (by exact lenT)) ?_
 refine lr 1 rfl trivial ?_
 refine WL.nil (WQ.thenNormal ?_)
 refine WC.cond rfl (fun hc1 => ?_) (fun hc1 => ?_)
 ·replace h := ite_t hc1 h
  refine WC.seq (WC.region ?_)
  refine lr 1 rfl trivial ?_
  refine WL.nil (WQ.thenNormal (WC.ret (WQ.thenRet ?_)))
  cases h
  exact WQ.rets tbOk hR [] (.inl rfl) rfl rfl (Le.refl _) (by exact trivial) rfl rfl rfl rfl
 ·replace h := ite_f hc1 h
  refine WC.skip (WQ.thenNormal (WC.seq (WC.seq (WC.region ?_))))
  refine lr 1 rfl trivial ?_
  refine WL.q [] rfl rfl rfl (q_ev tbOk (.v (.int .i64 (l.length : Int))) rfl (by exact trivial) (by exact lenT)) ?_
  refine lr 1 rfl trivial ?_
  refine WL.nil (WQ.thenNormal ?_)
  refine WC.thenCut (X := Unit) (fun gG => ⟨[], []⟩) (fun gG => validWords_j1  = some r) ?_ ?_
  ·refine WC.block ?_
   obtain ⟨eQ1, hl1, hk1⟩ := bnd h
   clear h
   refine WC.loop (σ := Int) (τ := ((Bool) ⊕ (Unit))) (fun sS => ⟨[(10, .v (.int .i64 sS)), (9, .v (.int .i64 (l.length : Int))), (8, .v (.sl 1 (l.map eStr))), (0, .v (.sl 1 (l.map eStr)))], []⟩) (validWords_b1 l) [] (0 : Int) hl1 ⟨(by exact ⟨rfl, rfl, rfl, rfl, trivial⟩), (by exact trivial), rfl, rfl, rfl, rfl⟩ ?_
   intro t10 m hn1 he1 hx1
   obtain ⟨o1, hf1⟩ := some_of hx1
   have h := hf1
   unfold validWords_b1 at h
   show WC _ _ _ ⟨[(10, .v (.int .i64 t10)), (9, .v (.int .i64 (l.length : Int))), (8, .v (.sl 1 (l.map eStr))), (0, .v (.sl 1 (l.map eStr)))], []⟩ _ _
   refine WC.seq (WC.region ?_)
   refine lr 1 rfl trivial ?_
   refine WL.nil (WQ.thenNormal (WC.seq ?_))
   refine WC.cond rfl (fun hc2 => ?_) (fun hc2 => ?_)
   ·replace h := ite_t hc2 h
    refine WC.skip (WQ.thenNormal (WC.seq (WC.block (WC.seq (WC.region ?_)))))
    refine lr 1 rfl trivial ?_
    obtain ⟨g1, h⟩ := grd h
    replace h := bnd h; obtain ⟨x2, hxx2, h⟩ := h
    refine WL.q [] rfl rfl rfl (q_idx tbOk rfl (by exact trivial) g1 (map_get (f := eStr) hxx2)) ?_
    refine lr 3 rfl trivial ?_
    refine WL.nil (WQ.thenNormal (WC.seq (WC.region ?_)))
    refine lr 1 rfl trivial ?_
    replace h := bnd h; obtain ⟨v2, hvv2, h⟩ := h
    refine WL.call0 fn27 rfl rfl rfl rfl (by exact trivial) rfl (isWord_con hw hvv2) ?_
    refine lr 9 rfl (by exact sideR) ?_
    obtain ⟨g2, h⟩ := grd h
    refine WL.gq [] rfl rfl rfl rfl (fun hg => q_idx tbOk rfl (by exact sideR) (g2 hg).1 (map_getD (f := eStr) (g2 hg).2 (g2 hg).1)) ?_
    refine lr 4 rfl (by exact sideR) ?_
    refine WL.nil (WQ.thenNormal ?_)
    refine WC.cond rfl (fun hc3 => ?_) (fun hc3 => ?_)
    ·replace h := ite_t hc3 h
     refine WC.seq (WC.region ?_)
     refine lr 1 rfl trivial ?_
     refine WL.nil (WQ.thenNormal (WC.ret (WQ.blockRet (WQ.thenRet ?_))))
     cases h
     have he := he1 _ hf1
     subst he
     have h : some false = some _ := hk1
     refine WQ.thenRet (WQ.blockRet (WQ.thenRet ?_))
     cases h
     exact WQ.rets tbOk hR [] (.inl rfl) rfl rfl (Le.refl _) (by exact trivial) rfl rfl rfl rfl
    ·replace h := ite_f hc3 h
     refine WC.skip (WQ.blockNormal (WQ.thenNormal (WC.region ?_)))
     refine lr 2 rfl trivial ?_
     refine WL.nil ?_
     cases h
     exact WQ.next [] (IntKind.i64.wrap (t10 + (1 : Int))) ⟨(by exact ⟨rfl, rfl, rfl, rfl, trivial⟩), (by exact trivial), rfl, rfl, rfl, rfl⟩ (hn1 _ hf1)
   ·replace h := ite_f hc2 h
    refine WC.exit (WQ.thenExit ?_)
    cases h
    have he := he1 _ hf1
    subst he
    replace h := hk1
    try dsimp only at h
    refine WQ.thenExit (WQ.blockExit ?_)
    exact WQ.cut [] () ⟨(by exact trivial), (by exact trivial), rfl, rfl, rfl, rfl⟩ h
  ·intro _ h
   replace h : validWords_j1 = some _ := h
   unfold validWords_j1 at h
   show WC _ _ _ ⟨[], []⟩ _ _
   refine WC.seq (WC.region ?_)
   refine lr 1 rfl trivial ?_
   refine WL.nil (WQ.thenNormal (WC.ret ?_))
   cases h
   exact WQ.rets tbOk hR [] (.inl rfl) rfl rfl (Le.refl _) (by exact trivial) rfl rfl rfl rfl

theorem described_con {wg : World} (hw : WG wg) {l : (List Str)} {r : Bool} (h : described l = some r) : Con Tryz.prog wg gl 48 [.v (.sl 1 (l.map eStr))] [] (.v (.bool r)) [] := by
 unfold described at h
 refine con_of_WC (S := slotsOf 0 _) Tryz.func48 rfl Tryz.ntmps48 rfl (fun t x hx => (slotsOf_get hx).2) ?_
 intro F L w ρ0 R hR
 show WC _ _ _ ⟨[(0, .v (.sl 1 (l.map eStr)))], []⟩ _ _
 refine WC.seq (WC.region ?_)
 refine lr 1 rfl trivial ?_
 refine WL.nil (WQ.thenNormal (WC.seq (WC.region ?_)))
 refine lr 1 rfl trivial ?_
 refine WL.q [] rfl rfl rfl (q_ev tbOk (.v (.int .i64 (l.length : Int))) rfl (by exact trivial) (by exact lenT)) ?_
 refine lr 3 rfl (by exact sideR) ?_
 replace h := bnd h; obtain ⟨v, hvv, h⟩ := h
 refine WL.gcall0 fn13 rfl rfl rfl rfl rfl (fun _ => (by exact sideR)) rfl (fun hg => (validWords_con hw (ite_t hg hvv))) ?_
 refine lr 2 rfl (by exact sideR) ?_
 refine WL.nil (WQ.thenNormal (WC.ret ?_))
 cases h
 exact WQ.rets tbOk hR [] (.inl rfl) rfl rfl (Le.refl _) (by exact trivial) rfl rfl rfl rfl

theorem growInt_con {wg : World} (hw : WG wg) {n1 : Int} {r : (List Int)} (h : growInt n1 = some r) : Con Tryz.prog wg gl 71 [.v (.raw (.slice none 0 0)), .v (.int .i64 n1)] [] (.r 500) [(500, .row 3 1 (r.map eInt_i64))] := by
 unfold growInt at h
 refine con_of_WC (S := slotsOf 0 _) Tryz.func71 rfl Tryz.ntmps71 rfl (fun t x hx => (slotsOf_get hx).2) ?_
 intro F L w ρ0 R hR
 show WC _ _ _ ⟨[(0, .v (.raw (.slice none 0 0))), (1, .v (.int .i64 n1))], []⟩ _ _
 refine WC.seq (WC.region ?_)
 refine lr 1 rfl trivial ?_
 refine WL.nil (WQ.thenNormal (WC.seq (WC.seq (WC.region ?_))))
 refine lr 2 rfl trivial ?_
 refine WL.nil (WQ.thenNormal ?_)
 refine WC.cond rfl (fun hc1 => ?_) (fun hc1 => ?_)
 ·replace h := ite_t hc1 h
  cases h
 ·replace h := ite_f hc1 h
  refine WC.skip (WQ.thenNormal (WC.seq (WC.seq (WC.region ?_))))
  refine lr 2 rfl trivial ?_
  refine WL.q [] rfl rfl rfl (q_nil ap23 rfl (by exact trivial)) ?_
  refine lr 5 rfl trivial ?_
  refine WL.nil (WQ.thenNormal (WC.seq (WC.region ?_)))
  refine lr 2 rfl trivial ?_
  refine WL.nil (WQ.thenNormal ?_)
  refine WC.thenCut (X := (List Int)) (fun gG => ⟨[(0, .r 1000)], [(1000, .row 3 1 (gG.map eInt_i64))]⟩) (fun gG => growInt_j1 gG = some r) ?_ ?_
  ·refine WC.cond rfl (fun hc2 => ?_) (fun hc2 => ?_)
   ·replace h := ite_t hc2 h
    refine WC.region ?_
    refine lr 2 rfl trivial ?_
    refine WL.q [] rfl rfl rfl (q_nil ap23 rfl (by exact trivial)) ?_
    refine WL.q [] rfl rfl rfl (q_nil ap23 rfl (by exact sideR)) ?_
    refine lr 1 rfl trivial ?_
    obtain ⟨g1, h⟩ := grd h
    refine WL.growRow tbOk (List.replicate (IntKind.i64.wrap (n1 - (IntKind.i64.wrap ((0 : Int) - (0 : Int))))).toNat [.raw (.int .i64 0)]) ap23 rfl rfl rfl rfl rfl (by exact sideR) g1 rfl rfl ?_
    refine lr 2 rfl trivial ?_
    refine WL.rcut tbOk (([] : (List Int)).map eInt_i64) rfl rfl rfl rfl (by exact sideR) rfl ⟨Int.le_refl 0, Int.natCast_nonneg _⟩ rfl rfl ?_
    refine lr 1 rfl trivial ?_
    refine WL.nil ?_
    exact WQ.cut [(1000, 25)] [] ⟨(by exact ⟨rfl, trivial⟩), (by exact ⟨rfl, trivial⟩), rfl, rfl, rfl, rfl⟩ h
   ·replace h := ite_f hc2 h
    refine WC.skip ?_
    refine WQ.rowNil 0 1000 3 1 rfl rfl ?_
    exact WQ.cut [] [] ⟨(by exact ⟨rfl, trivial⟩), (by exact ⟨rfl, trivial⟩), rfl, rfl, rfl, rfl⟩ h
  ·intro s h
   replace h : growInt_j1 s = some _ := h
   unfold growInt_j1 at h
   show WC _ _ _ ⟨[(0, .r 1000)], [(1000, .row 3 1 (s.map eInt_i64))]⟩ _ _
   refine WC.seq (WC.region ?_)
   refine lr 2 rfl trivial ?_
   refine WL.nil (WQ.thenNormal (WC.ret ?_))
   cases h
   exact WQ.rets tbOk hR [(500, 1000)] (.inl rfl) rfl rfl (Le.refl _) (by exact ⟨rfl, trivial⟩) rfl rfl rfl rfl

theorem concatInt_con {wg : World} (hw : WG wg) {slices : (List (List Int))} {r : (List Int)} (h : concatInt slices = some r) : Con Tryz.prog wg gl 49 [.v (.sl 1 (slices.map eLInt_i64))] [] (.r 500) [(500, .row 3 1 (r.map eInt_i64))] := by
 unfold concatInt at h
 refine con_of_WC (S := slotsOf 0 _) Tryz.func49 rfl Tryz.ntmps49 rfl (fun t x hx => (slotsOf_get hx).2) ?_
 intro F L w ρ0 R hR
 show WC _ _ _ ⟨[(0, .v (.sl 1 (slices.map eLInt_i64)))], []⟩ _ _
 refine WC.seq (WC.region ?_)
 refine lr 1 rfl trivial ?_
 refine WL.nil (WQ.thenNormal (WC.seq (WC.region ?_)))
 refine lr 1 rfl trivial ?_
 refine WL.nil (WQ.thenNormal (WC.seq (WC.seq (WC.region ?_))))
 refine lr 1 rfl trivial ?_
 refine WL.q [] rfl rfl rfl (q_ev tbOk (.v (.int .i64 (slices.length : Int))) rfl (by exact trivial) (by exact lenT)) ?_
 refine lr 1 rfl trivial ?_
 refine WL.nil (WQ.thenNormal ?_)
 refine WC.thenCut (X := Int) (fun gG => ⟨[(3, .v (.int .i64 gG)), (0, .v (.sl 1 (slices.map eLInt_i64)))], []⟩) (fun gG => concatInt_j1 slices gG = some r) ?_ ?_
 ·refine WC.block ?_
  obtain ⟨eQ2, hl2, hk2⟩ := bnd h
  clear h
  refine WC.loop (σ := Int × Int) (τ := (Int)) (fun sS => ⟨[(11, .v (.int .i64 sS.1)), (10, .v (.int .i64 (slices.length : Int))), (9, .v (.sl 1 (slices.map eLInt_i64))), (3, .v (.int .i64 sS.2)), (0, .v (.sl 1 (slices.map eLInt_i64)))], []⟩) (concatInt_b2 slices) [] ((0 : Int), (0 : Int)) hl2 ⟨(by exact ⟨rfl, rfl, rfl, rfl, rfl, trivial⟩), (by exact trivial), rfl, rfl, rfl, rfl⟩ ?_
  rintro ⟨t11, size2⟩ m hn2 he2 hx2
  obtain ⟨o2, hf2⟩ := some_of hx2
  have h := hf2
  unfold concatInt_b2 at h
  show WC _ _ _ ⟨[(11, .v (.int .i64 t11)), (10, .v (.int .i64 (slices.length : Int))), (9, .v (.sl 1 (slices.map eLInt_i64))), (3, .v (.int .i64 size2)), (0, .v (.sl 1 (slices.map eLInt_i64)))], []⟩ _ _
  refine WC.seq (WC.region ?_)
  refine lr 1 rfl trivial ?_
  refine WL.nil (WQ.thenNormal (WC.seq ?_))
  refine WC.cond rfl (fun hc2 => ?_) (fun hc2 => ?_)
  ·replace h := ite_t hc2 h
   refine WC.skip (WQ.thenNormal (WC.seq (WC.block (WC.seq (WC.region ?_)))))
   obtain ⟨g3, h⟩ := grd h
   replace h := bnd h; obtain ⟨x4, hxx4, h⟩ := h
   refine WL.q [] rfl rfl rfl (q_idx tbOk rfl (by exact trivial) g3 (map_get (f := eLInt_i64) hxx4)) ?_
   refine lr 2 rfl trivial ?_
   refine WL.nil (WQ.thenNormal (WC.seq (WC.region ?_)))
   refine lr 2 rfl trivial ?_
   refine WL.q [] rfl rfl rfl (q_ev tbOk (.v (.int .i64 (x4.length : Int))) rfl (by exact trivial) (by exact lenT)) ?_
   refine lr 2 rfl trivial ?_
   refine WL.nil (WQ.thenNormal (WC.seq (WC.region ?_)))
   refine lr 2 rfl trivial ?_
   refine WL.nil (WQ.thenNormal ?_)
   refine WC.cond rfl (fun hc3 => ?_) (fun hc3 => ?_)
   ·replace h := ite_t hc3 h
    cases h
   ·replace h := ite_f hc3 h
    refine WC.skip (WQ.blockNormal (WQ.thenNormal (WC.region ?_)))
    refine lr 2 rfl trivial ?_
    refine WL.nil ?_
    cases h
    exact WQ.next [] ((IntKind.i64.wrap (t11 + (1 : Int))), (IntKind.i64.wrap (size2 + (x4.length : Int)))) ⟨(by exact ⟨rfl, rfl, rfl, rfl, rfl, trivial⟩), (by exact trivial), rfl, rfl, rfl, rfl⟩ (hn2 _ hf2)
  ·replace h := ite_f hc2 h
   refine WC.exit (WQ.thenExit ?_)
   cases h
   have he := he2 _ hf2
   subst he
   replace h := hk2
   try dsimp only at h
   refine WQ.thenExit (WQ.blockExit ?_)
   exact WQ.cut [] size2 ⟨(by exact ⟨rfl, rfl, trivial⟩), (by exact trivial), rfl, rfl, rfl, rfl⟩ h
 ·intro size h
  replace h : concatInt_j1 slices size = some _ := h
  unfold concatInt_j1 at h
  show WC _ _ _ ⟨[(3, .v (.int .i64 size)), (0, .v (.sl 1 (slices.map eLInt_i64)))], []⟩ _ _
  refine WC.seq (WC.region ?_)
  refine lr 1 rfl trivial ?_
  replace h := bnd h; obtain ⟨v, hvv, h⟩ := h
  refine WL.callO [] [(500, 24)] [24] fn71 rfl rfl rfl rfl (by exact trivial) (growInt_con hw hvv) rfl rfl (by exact trivial) rfl rfl rfl rfl rfl rfl ?_
  refine lr 1 rfl trivial ?_
  refine WL.nil (WQ.thenNormal (WC.seq (WC.seq (WC.region ?_))))
  refine lr 1 rfl trivial ?_
  refine WL.q [] rfl rfl rfl (q_ev tbOk (.v (.int .i64 (slices.length : Int))) rfl (by exact trivial) (by exact lenT)) ?_
  refine lr 1 rfl trivial ?_
  refine WL.nil (WQ.thenNormal ?_)
  refine WC.thenCut (X := (List Int)) (fun gG => ⟨[(6, .r 1006)], [(1006, .row 3 1 (gG.map eInt_i64))]⟩) (fun gG => concatInt_j2 gG = some r) ?_ ?_
  ·refine WC.block ?_
   obtain ⟨eQ1, hl1, hk1⟩ := bnd h
   clear h
   refine WC.loop (σ := Int × (List Int)) (τ := ((List Int))) (fun sS => ⟨[(27, .v (.int .i64 sS.1)), (26, .v (.int .i64 (slices.length : Int))), (25, .v (.sl 1 (slices.map eLInt_i64))), (6, .r 1006)], [(1006, .row 3 1 (sS.2.map eInt_i64))]⟩) (concatInt_b1 slices) [(1006, 24)] ((0 : Int), v) hl1 ⟨(by exact ⟨rfl, rfl, rfl, rfl, trivial⟩), (by exact ⟨rfl, trivial⟩), rfl, rfl, rfl, rfl⟩ ?_
   rintro ⟨t27, newslice2⟩ m hn1 he1 hx1
   obtain ⟨o1, hf1⟩ := some_of hx1
   have h := hf1
   unfold concatInt_b1 at h
   show WC _ _ _ ⟨[(27, .v (.int .i64 t27)), (26, .v (.int .i64 (slices.length : Int))), (25, .v (.sl 1 (slices.map eLInt_i64))), (6, .r 1006)], [(1006, .row 3 1 (newslice2.map eInt_i64))]⟩ _ _
   refine WC.seq (WC.region ?_)
   refine lr 1 rfl trivial ?_
   refine WL.nil (WQ.thenNormal (WC.seq ?_))
   refine WC.cond rfl (fun hc1 => ?_) (fun hc1 => ?_)
   ·replace h := ite_t hc1 h
    refine WC.skip (WQ.thenNormal (WC.seq (WC.block (WC.seq (WC.region ?_)))))
    obtain ⟨g1, h⟩ := grd h
    replace h := bnd h; obtain ⟨x2, hxx2, h⟩ := h
    refine WL.q [] rfl rfl rfl (q_idx tbOk rfl (by exact trivial) g1 (map_get (f := eLInt_i64) hxx2)) ?_
    refine lr 2 rfl trivial ?_
    refine WL.nil (WQ.thenNormal (WC.region ?_))
    refine lr 2 rfl trivial ?_
    obtain ⟨g2, h⟩ := grd h
    refine WL.append tbOk ((newslice2 ++ x2).map eInt_i64) [33, 1006] ap23 rfl rfl rfl rfl (fun _ e => by cases e; rfl) (by exact trivial) (map_cells (f := eInt_i64) (xs := x2) fun _ => rfl) (by have := g2; simp only [List.length_map, List.length_nil, List.length_cons] at this ⊢; omega) rfl rfl (by simp only [List.map_append]; try rfl) rfl ?_
    refine lr 1 rfl trivial ?_
    refine WL.nil (WQ.blockNormal (WQ.thenNormal (WC.region ?_)))
    refine lr 2 rfl trivial ?_
    refine WL.nil ?_
    cases h
    exact WQ.next [(1006, 33)] ((IntKind.i64.wrap (t27 + (1 : Int))), (newslice2 ++ x2)) ⟨(by exact ⟨rfl, rfl, rfl, rfl, trivial⟩), (by exact ⟨rfl, trivial⟩), rfl, rfl, rfl, rfl⟩ (hn1 _ hf1)
   ·replace h := ite_f hc1 h
    refine WC.exit (WQ.thenExit ?_)
    cases h
    have he := he1 _ hf1
    subst he
    replace h := hk1
    try dsimp only at h
    refine WQ.thenExit (WQ.blockExit ?_)
    exact WQ.cut [] newslice2 ⟨(by exact ⟨rfl, trivial⟩), (by exact ⟨rfl, trivial⟩), rfl, rfl, rfl, rfl⟩ h
  ·intro newslice h
   replace h : concatInt_j2 newslice = some _ := h
   unfold concatInt_j2 at h
   show WC _ _ _ ⟨[(6, .r 1006)], [(1006, .row 3 1 (newslice.map eInt_i64))]⟩ _ _
   refine WC.seq (WC.region ?_)
   refine lr 2 rfl trivial ?_
   refine WL.nil (WQ.thenNormal (WC.ret ?_))
   cases h
   exact WQ.rets tbOk hR [(500, 1006)] (.inl rfl) rfl rfl (Le.refl _) (by exact ⟨rfl, trivial⟩) rfl rfl rfl rfl

theorem complete_con {wg : World} (hw : WG wg) {shares : (List Int)} {r : Bool} (h : complete shares = some r) : Con Tryz.prog wg gl 50 [.v (.sl 1 (shares.map eInt_i64))] [] (.v (.bool r)) [] := by
 unfold complete at h
 refine con_of_WC (S := slotsOf 0 _) Tryz.func50 rfl Tryz.ntmps50 rfl (fun t x hx => (slotsOf_get hx).2) ?_
 intro F L w ρ0 R hR
 show WC _ _ _ ⟨[(0, .v (.sl 1 (shares.map eInt_i64)))], []⟩ _ _
 refine WC.seq (WC.region ?_)
 refine lr 1 rfl trivial ?_
 refine WL.nil (WQ.thenNormal (WC.seq (WC.region ?_)))
 refine lr 1 rfl trivial ?_
 refine WL.nil (WQ.thenNormal (WC.seq (WC.seq (WC.region ?_))))
 refine lr 1 rfl trivial ?_
 refine WL.q [] rfl rfl rfl (q_ev tbOk (.v (.int .i64 (shares.length : Int))) rfl (by exact trivial) (by exact lenT)) ?_
 refine lr 1 rfl trivial ?_
 refine WL.nil (WQ.thenNormal ?_)
 refine WC.thenCut (X := Int) (fun gG => ⟨[(3, .v (.int .i64 gG)), (0, .v (.sl 1 (shares.map eInt_i64)))], []⟩) (fun gG => complete_j1 shares gG = some r) ?_ ?_
 ·refine WC.block ?_
  obtain ⟨eQ1, hl1, hk1⟩ := bnd h
  clear h
  refine WC.loop (σ := Int × Int) (τ := (Int)) (fun sS => ⟨[(8, .v (.int .i64 sS.1)), (7, .v (.int .i64 (shares.length : Int))), (6, .v (.sl 1 (shares.map eInt_i64))), (3, .v (.int .i64 sS.2)), (0, .v (.sl 1 (shares.map eInt_i64)))], []⟩) (complete_b1 shares) [] ((0 : Int), (0 : Int)) hl1 ⟨(by exact ⟨rfl, rfl, rfl, rfl, rfl, trivial⟩), (by exact trivial), rfl, rfl, rfl, rfl⟩ ?_
  rintro ⟨t8, sum2⟩ m hn1 he1 hx1
  obtain ⟨o1, hf1⟩ := some_of hx1
  have h := hf1
  unfold complete_b1 at h
  show WC _ _ _ ⟨[(8, .v (.int .i64 t8)), (7, .v (.int .i64 (shares.length : Int))), (6, .v (.sl 1 (shares.map eInt_i64))), (3, .v (.int .i64 sum2)), (0, .v (.sl 1 (shares.map eInt_i64)))], []⟩ _ _
  refine WC.seq (WC.region ?_)
  refine lr 1 rfl trivial ?_
  refine WL.nil (WQ.thenNormal (WC.seq ?_))
  refine WC.cond rfl (fun hc1 => ?_) (fun hc1 => ?_)
  ·replace h := ite_t hc1 h
   refine WC.skip (WQ.thenNormal (WC.seq (WC.block (WC.seq (WC.region ?_)))))
   obtain ⟨g1, h⟩ := grd h
   replace h := bnd h; obtain ⟨x2, hxx2, h⟩ := h
   refine WL.q [] rfl rfl rfl (q_idx tbOk rfl (by exact trivial) g1 (map_get (f := eInt_i64) hxx2)) ?_
   refine lr 2 rfl trivial ?_
   refine WL.nil (WQ.thenNormal (WC.region ?_))
   refine lr 4 rfl trivial ?_
   refine WL.nil (WQ.blockNormal (WQ.thenNormal (WC.region ?_)))
   refine lr 2 rfl trivial ?_
   refine WL.nil ?_
   cases h
   exact WQ.next [] ((IntKind.i64.wrap (t8 + (1 : Int))), (IntKind.i64.wrap (sum2 + x2))) ⟨(by exact ⟨rfl, rfl, rfl, rfl, rfl, trivial⟩), (by exact trivial), rfl, rfl, rfl, rfl⟩ (hn1 _ hf1)
  ·replace h := ite_f hc1 h
   refine WC.exit (WQ.thenExit ?_)
   cases h
   have he := he1 _ hf1
   subst he
   replace h := hk1
   try dsimp only at h
   refine WQ.thenExit (WQ.blockExit ?_)
   exact WQ.cut [] sum2 ⟨(by exact ⟨rfl, rfl, trivial⟩), (by exact trivial), rfl, rfl, rfl, rfl⟩ h
 ·intro sum h
  replace h : complete_j1 shares sum = some _ := h
  unfold complete_j1 at h
  show WC _ _ _ ⟨[(3, .v (.int .i64 sum)), (0, .v (.sl 1 (shares.map eInt_i64)))], []⟩ _ _
  refine WC.seq (WC.region ?_)
  refine lr 1 rfl trivial ?_
  refine WL.q [] rfl rfl rfl (q_ev tbOk (.v (.int .i64 (shares.length : Int))) rfl (by exact trivial) (by exact lenT)) ?_
  refine lr 6 rfl (by exact sideR) ?_
  refine WL.nil (WQ.thenNormal (WC.ret ?_))
  cases h
  exact WQ.rets tbOk hR [] (.inl rfl) rfl rfl (Le.refl _) (by exact trivial) rfl rfl rfl rfl

theorem goodsValidate_con {wg : World} (hw : WG wg) {g : ApiGood} {r : Int} (h : goodsValidate g = some r) : Con Tryz.prog wg gl 31 [.v (.agg [.sl 1 (g.Words.map eStr), .sl 2 (g.Materials.map eApiMaterial), .sl 2 (g.Parts.map eApiComponent), .bool g.Incomplete])] [] (.v (.int .i64 r)) [] := by
 unfold goodsValidate at h
 refine con_of_WC (S := slotsOf 0 _) Tryz.func31 rfl Tryz.ntmps31 rfl (fun t x hx => (slotsOf_get hx).2) ?_
 intro F L w ρ0 R hR
 show WC _ _ _ ⟨[(0, .v (.agg [.sl 1 (g.Words.map eStr), .sl 2 (g.Materials.map eApiMaterial), .sl 2 (g.Parts.map eApiComponent), .bool g.Incomplete]))], []⟩ _ _
 refine WC.seq (WC.region ?_)
 refine lr 2 rfl trivial ?_
 refine WL.nil (WQ.thenNormal (WC.seq (WC.seq (WC.region ?_))))
 refine lr 2 rfl trivial ?_
 replace h := bnd h; obtain ⟨v, hvv, h⟩ := h
 refine WL.call0 fn48 rfl rfl rfl rfl (by exact trivial) rfl (described_con hw hvv) ?_
 refine lr 1 rfl trivial ?_
 refine WL.nil (WQ.thenNormal ?_)
 refine WC.cond rfl (fun hc1 => ?_) (fun hc1 => ?_)
 ·replace h := ite_t hc1 h
  refine WC.seq (WC.region ?_)
  refine lr 1 rfl trivial ?_
  refine WL.nil (WQ.thenNormal (WC.ret (WQ.thenRet ?_)))
  cases h
  exact WQ.rets tbOk hR [] (.inl rfl) rfl rfl (Le.refl _) (by exact trivial) rfl rfl rfl rfl
 ·replace h := ite_f hc1 h
  refine WC.skip (WQ.thenNormal (WC.seq (WC.seq (WC.region ?_))))
  refine lr 2 rfl trivial ?_
  refine WL.q [] rfl rfl rfl (q_ev tbOk (.v (.int .i64 (g.Materials.length : Int))) rfl (by exact trivial) (by exact lenT)) ?_
  refine lr 4 rfl (by exact sideR) ?_
  refine WL.gq [] rfl rfl rfl rfl (fun hg => q_ev tbOk (.v (.int .i64 (g.Parts.length : Int))) rfl (by exact sideR) (by exact lenT)) ?_
  refine lr 2 rfl (by exact sideR) ?_
  refine WL.nil (WQ.thenNormal ?_)
  refine WC.cond rfl (fun hc2 => ?_) (fun hc2 => ?_)
  ·replace h := ite_t hc2 h
   refine WC.seq (WC.region ?_)
   refine lr 1 rfl trivial ?_
   refine WL.nil (WQ.thenNormal (WC.ret (WQ.thenRet ?_)))
   cases h
   exact WQ.rets tbOk hR [] (.inl rfl) rfl rfl (Le.refl _) (by exact trivial) rfl rfl rfl rfl
  ·replace h := ite_f hc2 h
   refine WC.skip (WQ.thenNormal (WC.seq (WC.region ?_)))
   refine lr 1 rfl trivial ?_
   refine WL.nil (WQ.thenNormal (WC.seq (WC.region ?_)))
   refine lr 2 rfl trivial ?_
   refine WL.nil (WQ.thenNormal (WC.seq (WC.seq (WC.region ?_))))
   refine lr 2 rfl trivial ?_
   refine WL.q [] rfl rfl rfl (q_ev tbOk (.v (.int .i64 (g.Materials.length : Int))) rfl (by exact trivial) (by exact lenT)) ?_
   refine lr 1 rfl trivial ?_
   refine WL.nil (WQ.thenNormal ?_)
   refine WC.thenCut (X := (List Int) × (List Str)) (fun gG => ⟨[(5, .v (.raw (.slice none 0 0))), (4, .r 1004), (3, .r 1003), (1, .p 1 0)], [(1004, .row 3 1 (gG.1.map eInt_i64)), (1003, .row 9 1 (gG.2.map eStr)), (1, .blk 28 [.v (.sl 1 (g.Words.map eStr)), .v (.sl 2 (g.Materials.map eApiMaterial)), .v (.sl 2 (g.Parts.map eApiComponent)), .v (.bool g.Incomplete)])]⟩) (fun gG => goodsValidate_j1 g gG.1 gG.2 = some r) ?_ ?_
   ·refine WC.block ?_
    obtain ⟨eQ3, hl3, hk3⟩ := bnd h
    clear h
    refine WC.rowNil 4 1004 3 1 rfl rfl ?_
    refine WC.rowNil 3 1003 9 1 rfl rfl ?_
    refine WC.loop (σ := Int × (List Int) × (List Str)) (τ := ((List Int) × (List Str))) (fun sS => ⟨[(29, .v (.int .i64 sS.1)), (28, .v (.int .i64 (g.Materials.length : Int))), (27, .v (.sl 2 (g.Materials.map eApiMaterial))), (5, .v (.raw (.slice none 0 0))), (4, .r 1004), (3, .r 1003), (1, .p 1 0)], [(1004, .row 3 1 (sS.2.1.map eInt_i64)), (1003, .row 9 1 (sS.2.2.map eStr)), (1, .blk 28 [.v (.sl 1 (g.Words.map eStr)), .v (.sl 2 (g.Materials.map eApiMaterial)), .v (.sl 2 (g.Parts.map eApiComponent)), .v (.bool g.Incomplete)])]⟩) (goodsValidate_b3 g) [] ((0 : Int), [], []) hl3 ⟨(by exact ⟨rfl, rfl, rfl, rfl, rfl, rfl, rfl, trivial⟩), (by exact ⟨rfl, rfl, rfl, trivial⟩), rfl, rfl, rfl, rfl⟩ ?_
    rintro ⟨t292, materials6, names2⟩ m hn3 he3 hx3
    obtain ⟨o3, hf3⟩ := some_of hx3
    have h := hf3
    unfold goodsValidate_b3 at h
    show WC _ _ _ ⟨[(29, .v (.int .i64 t292)), (28, .v (.int .i64 (g.Materials.length : Int))), (27, .v (.sl 2 (g.Materials.map eApiMaterial))), (5, .v (.raw (.slice none 0 0))), (4, .r 1004), (3, .r 1003), (1, .p 1 0)], [(1004, .row 3 1 (materials6.map eInt_i64)), (1003, .row 9 1 (names2.map eStr)), (1, .blk 28 [.v (.sl 1 (g.Words.map eStr)), .v (.sl 2 (g.Materials.map eApiMaterial)), .v (.sl 2 (g.Parts.map eApiComponent)), .v (.bool g.Incomplete)])]⟩ _ _
    refine WC.seq (WC.region ?_)
    refine lr 1 rfl trivial ?_
    refine WL.nil (WQ.thenNormal (WC.seq ?_))
    refine WC.cond rfl (fun hc9 => ?_) (fun hc9 => ?_)
    ·replace h := ite_t hc9 h
     refine WC.skip (WQ.thenNormal (WC.seq (WC.block (WC.seq (WC.region ?_)))))
     obtain ⟨g4, h⟩ := grd h
     replace h := bnd h; obtain ⟨x6, hxx6, h⟩ := h
     refine WL.q [] rfl rfl rfl (q_idx tbOk rfl (by exact trivial) g4 (map_get (f := eApiMaterial) hxx6)) ?_
     refine lr 3 rfl trivial ?_
     refine WL.nil (WQ.thenNormal (WC.seq (WC.region ?_)))
     refine lr 4 rfl trivial ?_
     obtain ⟨g5, h⟩ := grd h
     refine WL.append tbOk ((names2 ++ [x6.Name]).map eStr) [37, 1003] ap22 rfl rfl rfl rfl (fun _ e => by cases e; rfl) (by exact trivial) (map_cells (f := eStr) (xs := [x6.Name]) fun _ => rfl) (by have := g5; simp only [List.length_map, List.length_nil, List.length_cons] at this ⊢; omega) rfl rfl (by simp only [List.map_append]; try rfl) rfl ?_
     refine lr 1 rfl trivial ?_
     refine WL.nil (WQ.thenNormal (WC.region ?_))
     refine lr 4 rfl trivial ?_
     obtain ⟨g6, h⟩ := grd h
     refine WL.append tbOk ((materials6 ++ [x6.Share]).map eInt_i64) [42, 1004] ap23 rfl rfl rfl rfl (fun _ e => by cases e; rfl) (by exact trivial) (map_cells (f := eInt_i64) (xs := [x6.Share]) fun _ => rfl) (by have := g6; simp only [List.length_map, List.length_nil, List.length_cons] at this ⊢; omega) rfl rfl (by simp only [List.map_append]; try rfl) rfl ?_
     refine lr 1 rfl trivial ?_
     refine WL.nil (WQ.blockNormal (WQ.thenNormal (WC.region ?_)))
     refine lr 2 rfl trivial ?_
     refine WL.nil ?_
     cases h
     exact WQ.next [(1004, 42), (1003, 37)] ((IntKind.i64.wrap (t292 + (1 : Int))), (materials6 ++ [x6.Share]), (names2 ++ [x6.Name])) ⟨(by exact ⟨rfl, rfl, rfl, rfl, rfl, rfl, rfl, trivial⟩), (by exact ⟨rfl, rfl, rfl, trivial⟩), rfl, rfl, rfl, rfl⟩ (hn3 _ hf3)
    ·replace h := ite_f hc9 h
     refine WC.exit (WQ.thenExit ?_)
     cases h
     have he := he3 _ hf3
     subst he
     replace h := hk3
     try dsimp only at h
     refine WQ.thenExit (WQ.blockExit ?_)
     exact WQ.cut [] (materials6, names2) ⟨(by exact ⟨rfl, rfl, rfl, rfl, trivial⟩), (by exact ⟨rfl, rfl, rfl, trivial⟩), rfl, rfl, rfl, rfl⟩ h
   ·rintro ⟨materials, names⟩ h
    replace h : goodsValidate_j1 g materials names = some _ := h
    unfold goodsValidate_j1 at h
    show WC _ _ _ ⟨[(5, .v (.raw (.slice none 0 0))), (4, .r 1004), (3, .r 1003), (1, .p 1 0)], [(1004, .row 3 1 (materials.map eInt_i64)), (1003, .row 9 1 (names.map eStr)), (1, .blk 28 [.v (.sl 1 (g.Words.map eStr)), .v (.sl 2 (g.Materials.map eApiMaterial)), .v (.sl 2 (g.Parts.map eApiComponent)), .v (.bool g.Incomplete)])]⟩ _ _
    refine WC.seq (WC.seq ?_)
    refine WC.publish 1003 rfl rfl ?_
    refine WC.region ?_
    refine lr 1 rfl trivial ?_
    replace h := bnd h; obtain ⟨v2, hvv2, h⟩ := h
    refine WL.call0 fn13 rfl rfl rfl rfl (by exact trivial) rfl (validWords_con hw hvv2) ?_
    refine lr 1 rfl trivial ?_
    refine WL.nil (WQ.thenNormal ?_)
    refine WC.cond rfl (fun hc3 => ?_) (fun hc3 => ?_)
    ·replace h := ite_t hc3 h
     refine WC.seq (WC.region ?_)
     refine lr 1 rfl trivial ?_
     refine WL.nil (WQ.thenNormal (WC.ret (WQ.thenRet ?_)))
     cases h
     exact WQ.rets tbOk hR [] (.inl rfl) rfl rfl (Le.refl _) (by exact trivial) rfl rfl rfl rfl
    ·replace h := ite_f hc3 h
     refine WC.skip (WQ.thenNormal (WC.seq (WC.seq (WC.region ?_))))
     refine lr 2 rfl trivial ?_
     refine WL.q [] rfl rfl rfl (q_ev tbOk (.v (.int .i64 (g.Parts.length : Int))) rfl (by exact trivial) (by exact lenT)) ?_
     refine lr 1 rfl trivial ?_
     refine WL.nil (WQ.thenNormal ?_)
     refine WC.thenCut (X := (List Int) × (List Int)) (fun gG => ⟨[(5, .r 1005), (4, .r 1004)], [(1005, .row 3 1 (gG.1.map eInt_i64)), (1004, .row 3 1 (gG.2.map eInt_i64))]⟩) (fun gG => goodsValidate_j2 gG.1 gG.2 = some r) ?_ ?_
     ·refine WC.block ?_
      obtain ⟨eQ2, hl2, hk2⟩ := bnd h
      clear h
      refine WC.rowNil 5 1005 3 1 rfl rfl ?_
      refine WC.loop (σ := Int × (List Int) × (List Int)) (τ := ((Int) ⊕ ((List Int) × (List Int)))) (fun sS => ⟨[(50, .v (.int .i64 sS.1)), (49, .v (.int .i64 (g.Parts.length : Int))), (48, .v (.sl 2 (g.Parts.map eApiComponent))), (5, .r 1005), (4, .r 1004)], [(1005, .row 3 1 (sS.2.1.map eInt_i64)), (1004, .row 3 1 (sS.2.2.map eInt_i64))]⟩) (goodsValidate_b2 g) [] ((0 : Int), [], materials) hl2 ⟨(by exact ⟨rfl, rfl, rfl, rfl, rfl, trivial⟩), (by exact ⟨rfl, rfl, trivial⟩), rfl, rfl, rfl, rfl⟩ ?_
      rintro ⟨t502, parts2, materials4⟩ m hn2 he2 hx2
      obtain ⟨o2, hf2⟩ := some_of hx2
      have h := hf2
      unfold goodsValidate_b2 at h
      show WC _ _ _ ⟨[(50, .v (.int .i64 t502)), (49, .v (.int .i64 (g.Parts.length : Int))), (48, .v (.sl 2 (g.Parts.map eApiComponent))), (5, .r 1005), (4, .r 1004)], [(1005, .row 3 1 (parts2.map eInt_i64)), (1004, .row 3 1 (materials4.map eInt_i64))]⟩ _ _
      refine WC.seq (WC.region ?_)
      refine lr 1 rfl trivial ?_
      refine WL.nil (WQ.thenNormal (WC.seq ?_))
      refine WC.cond rfl (fun hc7 => ?_) (fun hc7 => ?_)
      ·replace h := ite_t hc7 h
       refine WC.skip (WQ.thenNormal (WC.seq (WC.block (WC.seq (WC.region ?_)))))
       obtain ⟨g2, h⟩ := grd h
       replace h := bnd h; obtain ⟨x3, hxx3, h⟩ := h
       refine WL.q [] rfl rfl rfl (q_idx tbOk rfl (by exact trivial) g2 (map_get (f := eApiComponent) hxx3)) ?_
       refine lr 3 rfl trivial ?_
       refine WL.nil (WQ.thenNormal (WC.seq (WC.seq (WC.region ?_))))
       refine lr 2 rfl trivial ?_
       replace h := bnd h; obtain ⟨v8, hvv8, h⟩ := h
       refine WL.call0 fn48 rfl rfl rfl rfl (by exact trivial) rfl (described_con hw hvv8) ?_
       refine lr 1 rfl trivial ?_
       refine WL.nil (WQ.thenNormal ?_)
       refine WC.cond rfl (fun hc8 => ?_) (fun hc8 => ?_)
       ·replace h := ite_t hc8 h
        refine WC.seq (WC.region ?_)
        refine lr 1 rfl trivial ?_
        refine WL.nil (WQ.thenNormal (WC.ret (WQ.thenRet (WQ.blockRet (WQ.thenRet ?_)))))
        cases h
        have he := he2 _ hf2
        subst he
        have h : some (1 : Int) = some _ := hk2
        refine WQ.thenRet (WQ.blockRet (WQ.thenRet ?_))
        cases h
        exact WQ.rets tbOk hR [] (.inl rfl) rfl rfl (Le.refl _) (by exact trivial) rfl rfl rfl rfl
       ·replace h := ite_f hc8 h
        refine WC.skip (WQ.thenNormal (WC.region ?_))
        refine lr 4 rfl trivial ?_
        obtain ⟨g3, h⟩ := grd h
        refine WL.append tbOk ((parts2 ++ [x3.Share]).map eInt_i64) [62, 1005] ap23 rfl rfl rfl rfl (fun _ e => by cases e; rfl) (by exact trivial) (map_cells (f := eInt_i64) (xs := [x3.Share]) fun _ => rfl) (by have := g3; simp only [List.length_map, List.length_nil, List.length_cons] at this ⊢; omega) rfl rfl (by simp only [List.map_append]; try rfl) rfl ?_
        refine lr 1 rfl trivial ?_
        refine WL.nil (WQ.blockNormal (WQ.thenNormal (WC.region ?_)))
        refine lr 2 rfl trivial ?_
        refine WL.nil ?_
        cases h
        exact WQ.next [(1005, 62)] ((IntKind.i64.wrap (t502 + (1 : Int))), (parts2 ++ [x3.Share]), materials4) ⟨(by exact ⟨rfl, rfl, rfl, rfl, rfl, trivial⟩), (by exact ⟨rfl, rfl, trivial⟩), rfl, rfl, rfl, rfl⟩ (hn2 _ hf2)
      ·replace h := ite_f hc7 h
       refine WC.exit (WQ.thenExit ?_)
       cases h
       have he := he2 _ hf2
       subst he
       replace h := hk2
       try dsimp only at h
       refine WQ.thenExit (WQ.blockExit ?_)
       exact WQ.cut [] (parts2, materials4) ⟨(by exact ⟨rfl, rfl, trivial⟩), (by exact ⟨rfl, rfl, trivial⟩), rfl, rfl, rfl, rfl⟩ h
     ·rintro ⟨parts, materials2⟩ h
      replace h : goodsValidate_j2 parts materials2 = some _ := h
      unfold goodsValidate_j2 at h
      show WC _ _ _ ⟨[(5, .r 1005), (4, .r 1004)], [(1005, .row 3 1 (parts.map eInt_i64)), (1004, .row 3 1 (materials2.map eInt_i64))]⟩ _ _
      refine WC.seq (WC.seq ?_)
      refine WC.publish 1004 rfl rfl ?_
      refine WC.publish 1005 rfl rfl ?_
      refine WC.region ?_
      refine lr 3 rfl trivial ?_
      replace h := bnd h; obtain ⟨v3, hvv3, h⟩ := h
      refine WL.callO [] [(500, 67)] [67] fn49 rfl rfl rfl rfl (by exact trivial) (concatInt_con hw hvv3) rfl rfl (by exact trivial) rfl rfl rfl rfl rfl rfl ?_
      refine WL.q [67] rfl rfl rfl (q_ev tbOk (.v (.int .i64 (v3.length : Int))) rfl (by exact trivial) (by exact lenT)) ?_
      refine lr 1 rfl trivial ?_
      refine WL.nil (WQ.thenNormal ?_)
      refine WC.thenCut (X := Unit) (fun gG => ⟨[(5, .v (.sl 1 (parts.map eInt_i64))), (4, .v (.sl 1 (materials2.map eInt_i64)))], []⟩) (fun gG => goodsValidate_j3 parts materials2 = some r) ?_ ?_
      ·refine WC.block ?_
       obtain ⟨eQ1, hl1, hk1⟩ := bnd h
       clear h
       refine WC.loop (σ := Int × (List Int)) (τ := ((Int) ⊕ (Unit))) (fun sS => ⟨[(69, .v (.int .i64 sS.1)), (68, .v (.int .i64 (v3.length : Int))), (67, .r 1067), (5, .v (.sl 1 (parts.map eInt_i64))), (4, .v (.sl 1 (materials2.map eInt_i64)))], [(1067, .row 3 1 (sS.2.map eInt_i64))]⟩) (goodsValidate_b1 parts materials2 v3) [(1067, 67)] ((0 : Int), v3) hl1 ⟨(by exact ⟨rfl, rfl, rfl, rfl, rfl, trivial⟩), (by exact ⟨rfl, trivial⟩), rfl, rfl, rfl, rfl⟩ ?_
       rintro ⟨t69, t67⟩ m hn1 he1 hx1
       obtain ⟨o1, hf1⟩ := some_of hx1
       have h := hf1
       unfold goodsValidate_b1 at h
       show WC _ _ _ ⟨[(69, .v (.int .i64 t69)), (68, .v (.int .i64 (v3.length : Int))), (67, .r 1067), (5, .v (.sl 1 (parts.map eInt_i64))), (4, .v (.sl 1 (materials2.map eInt_i64)))], [(1067, .row 3 1 (t67.map eInt_i64))]⟩ _ _
       refine WC.seq (WC.region ?_)
       refine lr 1 rfl trivial ?_
       refine WL.nil (WQ.thenNormal (WC.seq ?_))
       refine WC.cond rfl (fun hc5 => ?_) (fun hc5 => ?_)
       ·replace h := ite_t hc5 h
        refine WC.skip (WQ.thenNormal (WC.seq (WC.block (WC.seq (WC.region ?_)))))
        obtain ⟨g1, h⟩ := grd h
        refine WL.q [1067] rfl rfl rfl (q_ridx tbOk rfl (by exact trivial) rfl (by simpa only [List.length_map] using g1)) ?_
        refine WL.q [1067] rfl rfl rfl (x := .v (.int .i64 (t67.getD t69.toNat default))) (q_rload tbOk rfl (by exact trivial) rfl (map_getD (f := eInt_i64) g1.2 g1.1) rfl) ?_
        refine lr 1 rfl trivial ?_
        refine WL.nil (WQ.thenNormal (WC.seq (WC.region ?_)))
        refine lr 6 rfl (by exact sideR) ?_
        refine WL.nil (WQ.thenNormal ?_)
        refine WC.cond rfl (fun hc6 => ?_) (fun hc6 => ?_)
        ·replace h := ite_t hc6 h
         refine WC.seq (WC.region ?_)
         refine lr 1 rfl trivial ?_
         refine WL.nil (WQ.thenNormal (WC.ret (WQ.blockRet (WQ.thenRet ?_))))
         cases h
         have he := he1 _ hf1
         subst he
         have h : some (2 : Int) = some _ := hk1
         refine WQ.thenRet (WQ.blockRet (WQ.thenRet ?_))
         cases h
         exact WQ.rets tbOk hR [] (.inl rfl) rfl rfl (Le.refl _) (by exact trivial) rfl rfl rfl rfl
        ·replace h := ite_f hc6 h
         refine WC.skip (WQ.blockNormal (WQ.thenNormal (WC.region ?_)))
         refine lr 2 rfl trivial ?_
         refine WL.nil ?_
         cases h
         exact WQ.next [] ((IntKind.i64.wrap (t69 + (1 : Int))), t67) ⟨(by exact ⟨rfl, rfl, rfl, rfl, rfl, trivial⟩), (by exact ⟨rfl, trivial⟩), rfl, rfl, rfl, rfl⟩ (hn1 _ hf1)
       ·replace h := ite_f hc5 h
        refine WC.exit (WQ.thenExit ?_)
        cases h
        have he := he1 _ hf1
        subst he
        replace h := hk1
        try dsimp only at h
        refine WQ.thenExit (WQ.blockExit ?_)
        exact WQ.cut [] () ⟨(by exact ⟨rfl, rfl, trivial⟩), (by exact trivial), rfl, rfl, rfl, rfl⟩ h
      ·intro _ h
       replace h : goodsValidate_j3 parts materials2 = some _ := h
       unfold goodsValidate_j3 at h
       show WC _ _ _ ⟨[(5, .v (.sl 1 (parts.map eInt_i64))), (4, .v (.sl 1 (materials2.map eInt_i64)))], []⟩ _ _
       refine WC.seq (WC.seq (WC.region ?_))
       refine lr 1 rfl trivial ?_
       replace h := bnd h; obtain ⟨v4, hvv4, h⟩ := h
       refine WL.call0 fn50 rfl rfl rfl rfl (by exact trivial) rfl (complete_con hw hvv4) ?_
       refine lr 3 rfl (by exact sideR) ?_
       replace h := bnd h; obtain ⟨v5, hvv5, h⟩ := h
       refine WL.gcall0 fn50 rfl rfl rfl rfl rfl (fun _ => (by exact sideR)) rfl (fun hg => (complete_con hw (ite_t hg hvv5))) ?_
       refine lr 2 rfl (by exact sideR) ?_
       refine WL.nil (WQ.thenNormal ?_)
       refine WC.cond rfl (fun hc4 => ?_) (fun hc4 => ?_)
       ·replace h := ite_t hc4 h
        refine WC.seq (WC.region ?_)
        refine lr 1 rfl trivial ?_
        refine WL.nil (WQ.thenNormal (WC.ret (WQ.thenRet ?_)))
        cases h
        exact WQ.rets tbOk hR [] (.inl rfl) rfl rfl (Le.refl _) (by exact trivial) rfl rfl rfl rfl
       ·replace h := ite_f hc4 h
        refine WC.skip (WQ.thenNormal (WC.seq (WC.region ?_)))
        refine lr 1 rfl trivial ?_
        refine WL.nil (WQ.thenNormal (WC.ret ?_))
        cases h
        exact WQ.rets tbOk hR [] (.inl rfl) rfl rfl (Le.refl _) (by exact trivial) rfl rfl rfl rfl

theorem refWord_con {wg : World} (hw : WG wg) {s : Str} {r : Bool} (h : refWord s = some r) : Con Tryz.prog wg gl 28 [.v (.str s)] [] (.v (.bool r)) [] := by
 unfold refWord at h
 refine con_of_WC (S := slotsOf 0 _) Tryz.func28 rfl Tryz.ntmps28 rfl (fun t x hx => (slotsOf_get hx).2) ?_
 intro F L w ρ0 R hR
 show WC _ _ _ ⟨[(0, .v (.str s))], []⟩ _ _
 refine WC.seq (WC.region ?_)
 refine lr 1 rfl trivial ?_
 refine WL.nil (WQ.thenNormal (WC.seq (WC.seq (WC.region ?_))))
 refine lr 1 rfl trivial ?_
 refine WL.nil (WQ.thenNormal ?_)
 refine WC.thenCut (X := Unit) (fun gG => ⟨[(0, .v (.str s))], []⟩) (fun gG => refWord_j1 s = some r) ?_ ?_
 ·refine WC.block ?_
  obtain ⟨eQ1, hl1, hk1⟩ := bnd h
  clear h
  refine WC.loop (σ := Int) (τ := ((Bool) ⊕ (Unit))) (fun sS => ⟨[(3, .v (.int .i64 sS)), (0, .v (.str s))], []⟩) (refWord_b1 s) [] (0 : Int) hl1 ⟨(by exact ⟨rfl, rfl, trivial⟩), (by exact trivial), rfl, rfl, rfl, rfl⟩ ?_
  intro i m hn1 he1 hx1
  obtain ⟨o1, hf1⟩ := some_of hx1
  have h := hf1
  unfold refWord_b1 at h
  show WC _ _ _ ⟨[(3, .v (.int .i64 i)), (0, .v (.str s))], []⟩ _ _
  refine WC.seq (WC.seq (WC.region ?_))
  refine lr 4 rfl trivial ?_
  refine WL.nil (WQ.thenNormal ?_)
  refine WC.cond rfl (fun hc1 => ?_) (fun hc1 => ?_)
  ·replace h := ite_t hc1 h
   refine WC.skip (WQ.thenNormal (WC.seq (WC.block (WC.seq (WC.region ?_)))))
   obtain ⟨g1, h⟩ := grd h
   obtain ⟨g2, h⟩ := grd h
   refine lr 10 rfl (by repeat' (first | exact trivial | assumption | intro _ | exact g1 (by assumption) | exact g2 (by assumption) | apply And.intro | exact sideT | (refine and_i ?_ ?_))) ?_
   refine WL.nil (WQ.thenNormal ?_)
   refine WC.cond rfl (fun hc2 => ?_) (fun hc2 => ?_)
   ·replace h := ite_t hc2 h
    refine WC.seq (WC.region ?_)
    refine lr 1 rfl trivial ?_
    refine WL.nil (WQ.thenNormal (WC.ret (WQ.blockRet (WQ.thenRet ?_))))
    cases h
    have he := he1 _ hf1
    subst he
    have h : some false = some _ := hk1
    refine WQ.thenRet (WQ.blockRet (WQ.thenRet ?_))
    cases h
    exact WQ.rets tbOk hR [] (.inl rfl) rfl rfl (Le.refl _) (by exact trivial) rfl rfl rfl rfl
   ·replace h := ite_f hc2 h
    refine WC.skip (WQ.blockNormal (WQ.thenNormal (WC.region ?_)))
    refine lr 3 rfl trivial ?_
    refine WL.nil ?_
    cases h
    exact WQ.next [] (IntKind.i64.wrap (i + (1 : Int))) ⟨(by exact ⟨rfl, rfl, trivial⟩), (by exact trivial), rfl, rfl, rfl, rfl⟩ (hn1 _ hf1)
  ·replace h := ite_f hc1 h
   refine WC.exit (WQ.thenExit ?_)
   cases h
   have he := he1 _ hf1
   subst he
   replace h := hk1
   try dsimp only at h
   refine WQ.thenExit (WQ.blockExit ?_)
   exact WQ.cut [] () ⟨(by exact ⟨rfl, trivial⟩), (by exact trivial), rfl, rfl, rfl, rfl⟩ h
 ·intro _ h
  replace h : refWord_j1 s = some _ := h
  unfold refWord_j1 at h
  show WC _ _ _ ⟨[(0, .v (.str s))], []⟩ _ _
  refine WC.seq (WC.region ?_)
  refine lr 9 rfl (by exact sideR) ?_
  refine WL.nil (WQ.thenNormal (WC.ret ?_))
  cases h
  exact WQ.rets tbOk hR [] (.inl rfl) rfl rfl (Le.refl _) (by exact trivial) rfl rfl rfl rfl

theorem refWords_con {wg : World} (hw : WG wg) {l : (List Str)} {r : Bool} (h : refWords l = some r) : Con Tryz.prog wg gl 14 [.v (.sl 1 (l.map eStr))] [] (.v (.bool r)) [] := by
 unfold refWords at h
 refine con_of_WC (S := slotsOf 0 _) Tryz.func14 rfl Tryz.ntmps14 rfl (fun t x hx => (slotsOf_get hx).2) ?_
 intro F L w ρ0 R hR
 show WC _ _ _ ⟨[(0, .v (.sl 1 (l.map eStr)))], []⟩ _ _
 refine WC.seq (WC.region ?_)
 refine lr 1 rfl trivial ?_
 refine WL.nil (WQ.thenNormal (WC.seq (WC.seq (WC.region ?_))))
 refine lr 1 rfl trivial ?_
 refine WL.nil (WQ.thenNormal ?_)
 refine WC.thenCut (X := Unit) (fun gG => ⟨[(0, .v (.sl 1 (l.map eStr)))], []⟩) (fun gG => refWords_j1 l = some r) ?_ ?_
 ·refine WC.block ?_
  obtain ⟨eQ1, hl1, hk1⟩ := bnd h
  clear h
  refine WC.loop (σ := Int) (τ := ((Bool) ⊕ (Unit))) (fun sS => ⟨[(3, .v (.int .i64 sS)), (0, .v (.sl 1 (l.map eStr)))], []⟩) (refWords_b1 l) [] (0 : Int) hl1 ⟨(by exact ⟨rfl, rfl, trivial⟩), (by exact trivial), rfl, rfl, rfl, rfl⟩ ?_
  intro i m hn1 he1 hx1
  obtain ⟨o1, hf1⟩ := some_of hx1
  have h := hf1
  unfold refWords_b1 at h
  show WC _ _ _ ⟨[(3, .v (.int .i64 i)), (0, .v (.sl 1 (l.map eStr)))], []⟩ _ _
  refine WC.seq (WC.seq (WC.region ?_))
  refine lr 2 rfl trivial ?_
  refine WL.q [] rfl rfl rfl (q_ev tbOk (.v (.int .i64 (l.length : Int))) rfl (by exact trivial) (by exact lenT)) ?_
  refine lr 1 rfl trivial ?_
  refine WL.nil (WQ.thenNormal ?_)
  refine WC.cond rfl (fun hc1 => ?_) (fun hc1 => ?_)
  ·replace h := ite_t hc1 h
   refine WC.skip (WQ.thenNormal (WC.seq (WC.block (WC.seq (WC.order mixed ?_)))))
   refine wr 2 rfl trivial ?_
   obtain ⟨g1, h⟩ := grd h
   replace h := bnd h; obtain ⟨x2, hxx2, h⟩ := h
   refine WR.q [] rfl rfl rfl (q_idx tbOk rfl (by exact trivial) g1 (map_get (f := eStr) hxx2)) ?_
   refine wr 1 rfl trivial ?_
   replace h := bnd h; obtain ⟨v2, hvv2, h⟩ := h
   refine WR.call0 fn28 rfl rfl rfl rfl (by exact trivial) rfl (refWord_con hw hvv2) ?_
   refine wr 8 rfl (by exact sideR) ?_
   obtain ⟨g2, h⟩ := grd h
   refine WR.gq [] rfl rfl rfl rfl (fun hg => q_idx tbOk rfl (by exact sideR) (g2 hg).1 (map_getD (f := eStr) (g2 hg).2 (g2 hg).1)) ?_
   refine wr 3 rfl (by exact sideR) ?_
   obtain ⟨g3, h⟩ := grd h
   refine WR.gq [] rfl rfl rfl rfl (fun hg => q_idx tbOk rfl (by exact sideR) (g3 hg).1 (map_getD (f := eStr) (g3 hg).2 (g3 hg).1)) ?_
   refine wr 4 rfl (by exact sideR) ?_
   refine WR.nil (by kernel_rfl) (WQ.thenNormal ?_)
   refine WC.cond rfl (fun hc2 => ?_) (fun hc2 => ?_)
   ·replace h := ite_t hc2 h
    refine WC.seq (WC.region ?_)
    refine lr 1 rfl trivial ?_
    refine WL.nil (WQ.thenNormal (WC.ret (WQ.blockRet (WQ.thenRet ?_))))
    cases h
    have he := he1 _ hf1
    subst he
    have h : some false = some _ := hk1
    refine WQ.thenRet (WQ.blockRet (WQ.thenRet ?_))
    cases h
    exact WQ.rets tbOk hR [] (.inl rfl) rfl rfl (Le.refl _) (by exact trivial) rfl rfl rfl rfl
   ·replace h := ite_f hc2 h
    refine WC.skip (WQ.blockNormal (WQ.thenNormal (WC.region ?_)))
    refine lr 3 rfl trivial ?_
    refine WL.nil ?_
    cases h
    exact WQ.next [] (IntKind.i64.wrap (i + (1 : Int))) ⟨(by exact ⟨rfl, rfl, trivial⟩), (by exact trivial), rfl, rfl, rfl, rfl⟩ (hn1 _ hf1)
  ·replace h := ite_f hc1 h
   refine WC.exit (WQ.thenExit ?_)
   cases h
   have he := he1 _ hf1
   subst he
   replace h := hk1
   try dsimp only at h
   refine WQ.thenExit (WQ.blockExit ?_)
   exact WQ.cut [] () ⟨(by exact ⟨rfl, trivial⟩), (by exact trivial), rfl, rfl, rfl, rfl⟩ h
 ·intro _ h
  replace h : refWords_j1 l = some _ := h
  unfold refWords_j1 at h
  show WC _ _ _ ⟨[(0, .v (.sl 1 (l.map eStr)))], []⟩ _ _
  refine WC.seq (WC.region ?_)
  refine lr 1 rfl trivial ?_
  refine WL.q [] rfl rfl rfl (q_ev tbOk (.v (.int .i64 (l.length : Int))) rfl (by exact trivial) (by exact lenT)) ?_
  refine lr 2 rfl trivial ?_
  refine WL.nil (WQ.thenNormal (WC.ret ?_))
  cases h
  exact WQ.rets tbOk hR [] (.inl rfl) rfl rfl (Le.refl _) (by exact trivial) rfl rfl rfl rfl

end Go.Proofs.YtcfkiahbipjbmaaGreatDoor
