/- Packed by pack.py. -/
import Derived.Test.YtfkefolbabniaaaGreatDoorQl3
import Derived.Test.YtfkefolbabniaaaGreatDoorQl4
section
set_option linter.unusedVariables false
set_option linter.unusedSimpArgs false
set_option maxHeartbeats 4000000
set_option maxRecDepth 20000
namespace Go.Proofs.YtfkefolbabniaaaGreatDoor
open Go.V Go.C
theorem isWord_con {wg : World} (hw : WG wg) {s : Str} {r : Bool} (h : isWord s = some r) : Con Tryz.prog wg gl 154 [.v (.str s)] [] (.v (.bool r)) [] := by
 unfold isWord at h
 refine con_of_WC (S := slotsOf 0 _) Tryz.func154 rfl Tryz.ntmps154 rfl (fun t x hx => (slotsOf_get hx).2) ?_
 intro F L w ρ0 R hR
 show WC _ _ _ ⟨[(0, .v (.str s))], []⟩ _ _
 refine WC.seq (WC.region ?_)
 refine lr 1 rfl trivial ?_
 refine WL.nil (WQ.thenNormal (WC.seq (WC.seq (WC.region ?_))))
 refine lr 8 rfl (by exact sideR) ?_
 refine WL.nil (WQ.thenNormal ?_)
 refine WC.cond rfl (fun hc1 => ?_) (fun hc1 => ?_)
 ·replace h := ite_t hc1 h
  refine WC.seq (WC.region ?_)
  refine lr 1 rfl trivial ?_
  refine WL.nil (WQ.thenNormal (WC.ret (WQ.thenRet ?_)))
  cases h
  exact WQ.rets tbOk hR [] (.inl rfl) rfl rfl (Le.refl _) (by exact trivial) rfl rfl rfl rfl
 ·replace h := ite_f hc1 h
  refine WC.skip (WQ.thenNormal (WC.seq (WC.seq (WC.region ?_))))
  refine lr 1 rfl trivial ?_
  refine WL.range tbOk rfl rfl rfl rfl (by exact trivial) rfl ?_
  refine WL.nil (WQ.thenNormal ?_)
  refine WC.thenCut (X := Unit) (fun gG => ⟨[], []⟩) (fun gG => isWord_j1  = some r) ?_ ?_
  ·refine WC.block ?_
   obtain ⟨eQ1, hl1, hk1⟩ := bnd h
   clear h
   refine WC.loop (σ := Nat) (τ := ((Bool) ⊕ (Unit))) (fun sS => ⟨[(14, .r 14)], [(14, .it s sS)]⟩) (isWord_b1 s) [] 0 hl1 ⟨(by exact ⟨rfl, trivial⟩), (by exact ⟨rfl, trivial⟩), rfl, rfl, rfl, rfl⟩ ?_
   intro pos m hn1 he1 hx1
   obtain ⟨o1, hf1⟩ := some_of hx1
   have h := hf1
   unfold isWord_b1 at h
   show WC _ _ _ ⟨[(14, .r 14)], [(14, .it s pos)]⟩ _ _
   refine WC.seq (WC.region ?_)
   refine WL.next rfl rfl rfl rfl (by exact sideR) rfl (fun hx1 => ?_) (fun hx1 => ?_)
   ·replace h := ifp hx1 h
    refine lr 1 rfl trivial ?_
    refine WL.nil (WQ.thenNormal (WC.seq ?_))
    refine WC.cond (b := true) rfl (fun hc2 => ?_) (fun hc2 => by cases hc2)
    refine WC.skip (WQ.thenNormal (WC.block (WC.seq (WC.region ?_))))
    refine lr 2 rfl trivial ?_
    refine WL.nil (WQ.thenNormal (WC.seq (WC.region ?_)))
    refine lr 6 rfl (by exact sideR) ?_
    refine WL.nil (WQ.thenNormal ?_)
    refine WC.cond rfl (fun hc3 => ?_) (fun hc3 => ?_)
    ·replace h := ite_t hc3 h
     refine WC.seq (WC.region ?_)
     refine lr 1 rfl trivial ?_
     refine WL.nil (WQ.thenNormal (WC.ret (WQ.blockRet ?_)))
     cases h
     have he := he1 _ hf1
     subst he
     have h : some false = some _ := hk1
     refine WQ.thenRet (WQ.blockRet (WQ.thenRet ?_))
     cases h
     exact WQ.rets tbOk hR [] (.inl rfl) rfl rfl (Le.refl _) (by exact trivial) rfl rfl rfl rfl
    ·replace h := ite_f hc3 h
     refine WC.skip (WQ.blockNormal ?_)
     cases h
     exact WQ.next [] (pos + runeW s pos) ⟨(by exact ⟨rfl, trivial⟩), (by exact ⟨rfl, trivial⟩), rfl, rfl, rfl, rfl⟩ (hn1 _ hf1)
   ·replace h := ifn hx1 h
    refine lr 1 rfl trivial ?_
    refine WL.nil (WQ.thenNormal (WC.seq ?_))
    refine WC.cond (b := false) rfl (fun hc4 => by cases hc4) (fun hc4 => ?_)
    refine WC.exit (WQ.thenExit ?_)
    cases h
    have he := he1 _ hf1
    subst he
    replace h := hk1
    try dsimp only at h
    refine WQ.thenExit (WQ.blockExit ?_)
    exact WQ.cut [] () ⟨(by exact trivial), (by exact trivial), rfl, rfl, rfl, rfl⟩ h
  ·intro _ h
   replace h : isWord_j1 = some _ := h
   unfold isWord_j1 at h
   show WC _ _ _ ⟨[], []⟩ _ _
   refine WC.seq (WC.region ?_)
   refine lr 1 rfl trivial ?_
   refine WL.nil (WQ.thenNormal (WC.ret ?_))
   cases h
   exact WQ.rets tbOk hR [] (.inl rfl) rfl rfl (Le.refl _) (by exact trivial) rfl rfl rfl rfl
theorem validWords_con {wg : World} (hw : WG wg) {l : (List Str)} {r : Bool} (h : validWords l = some r) : Con Tryz.prog wg gl 107 [.v (.sl 1 (l.map eStr))] [] (.v (.bool r)) [] := by
 unfold validWords at h
 refine con_of_WC (S := slotsOf 0 _) Tryz.func107 rfl Tryz.ntmps107 rfl (fun t x hx => (slotsOf_get hx).2) ?_
 intro F L w ρ0 R hR
 show WC _ _ _ ⟨[(0, .v (.sl 1 (l.map eStr)))], []⟩ _ _
 refine WC.seq (WC.region ?_)
 refine lr 1 rfl trivial ?_
 refine WL.nil (WQ.thenNormal (WC.seq (WC.seq (WC.region ?_))))
 refine lr 1 rfl trivial ?_
 refine WL.q [] rfl rfl rfl (q_ev tbOk (.v (.int .i64 (l.length : Int))) rfl (by exact trivial) (by exact lenT)) ?_
 refine lr 1 rfl trivial ?_
 refine WL.nil (WQ.thenNormal ?_)
 refine WC.cond rfl (fun hc1 => ?_) (fun hc1 => ?_)
 ·replace h := ite_t hc1 h
  refine WC.seq (WC.region ?_)
  refine lr 1 rfl trivial ?_
  refine WL.nil (WQ.thenNormal (WC.ret (WQ.thenRet ?_)))
  cases h
  exact WQ.rets tbOk hR [] (.inl rfl) rfl rfl (Le.refl _) (by exact trivial) rfl rfl rfl rfl
 ·replace h := ite_f hc1 h
  refine WC.skip (WQ.thenNormal (WC.seq (WC.seq (WC.region ?_))))
  refine lr 1 rfl trivial ?_
  refine WL.q [] rfl rfl rfl (q_ev tbOk (.v (.int .i64 (l.length : Int))) rfl (by exact trivial) (by exact lenT)) ?_
  refine lr 1 rfl trivial ?_
  refine WL.nil (WQ.thenNormal ?_)
  refine WC.thenCut (X := Unit) (fun gG => ⟨[], []⟩) (fun gG => validWords_j1  = some r) ?_ ?_
  ·refine WC.block ?_
   obtain ⟨eQ1, hl1, hk1⟩ := bnd h
   clear h
   refine WC.loop (σ := Int) (τ := ((Bool) ⊕ (Unit))) (fun sS => ⟨[(10, .v (.int .i64 sS)), (9, .v (.int .i64 (l.length : Int))), (8, .v (.sl 1 (l.map eStr))), (0, .v (.sl 1 (l.map eStr)))], []⟩) (validWords_b1 l) [] (0 : Int) hl1 ⟨(by exact ⟨rfl, rfl, rfl, rfl, trivial⟩), (by exact trivial), rfl, rfl, rfl, rfl⟩ ?_
   intro t10 m hn1 he1 hx1
   obtain ⟨o1, hf1⟩ := some_of hx1
   have h := hf1
   unfold validWords_b1 at h
   show WC _ _ _ ⟨[(10, .v (.int .i64 t10)), (9, .v (.int .i64 (l.length : Int))), (8, .v (.sl 1 (l.map eStr))), (0, .v (.sl 1 (l.map eStr)))], []⟩ _ _
   refine WC.seq (WC.region ?_)
   refine lr 1 rfl trivial ?_
   refine WL.nil (WQ.thenNormal (WC.seq ?_))
   refine WC.cond rfl (fun hc2 => ?_) (fun hc2 => ?_)
   ·replace h := ite_t hc2 h
    refine WC.skip (WQ.thenNormal (WC.seq (WC.block (WC.seq (WC.region ?_)))))
    refine lr 1 rfl trivial ?_
    obtain ⟨g1, h⟩ := grd h
    replace h := bnd h; obtain ⟨x2, hxx2, h⟩ := h
    refine WL.q [] rfl rfl rfl (q_idx tbOk rfl (by exact trivial) g1 (map_get (f := eStr) hxx2)) ?_
    refine lr 3 rfl trivial ?_
    refine WL.nil (WQ.thenNormal (WC.seq (WC.region ?_)))
    refine lr 1 rfl trivial ?_
    replace h := bnd h; obtain ⟨v2, hvv2, h⟩ := h
    refine WL.call0 fn154 rfl rfl rfl rfl (by exact trivial) rfl (isWord_con hw hvv2) ?_
    refine lr 9 rfl (by exact sideR) ?_
    obtain ⟨g2, h⟩ := grd h
    refine WL.gq [] rfl rfl rfl rfl (fun hg => q_idx tbOk rfl (by exact sideR) (g2 hg).1 (map_getD (f := eStr) (g2 hg).2 (g2 hg).1)) ?_
    refine lr 4 rfl (by exact sideR) ?_
    refine WL.nil (WQ.thenNormal ?_)
    refine WC.cond rfl (fun hc3 => ?_) (fun hc3 => ?_)
    ·replace h := ite_t hc3 h
     refine WC.seq (WC.region ?_)
     refine lr 1 rfl trivial ?_
     refine WL.nil (WQ.thenNormal (WC.ret (WQ.blockRet (WQ.thenRet ?_))))
     cases h
     have he := he1 _ hf1
     subst he
     have h : some false = some _ := hk1
     refine WQ.thenRet (WQ.blockRet (WQ.thenRet ?_))
     cases h
     exact WQ.rets tbOk hR [] (.inl rfl) rfl rfl (Le.refl _) (by exact trivial) rfl rfl rfl rfl
    ·replace h := ite_f hc3 h
     refine WC.skip (WQ.blockNormal (WQ.thenNormal (WC.region ?_)))
     refine lr 2 rfl trivial ?_
     refine WL.nil ?_
     cases h
     exact WQ.next [] (IntKind.i64.wrap (t10 + (1 : Int))) ⟨(by exact ⟨rfl, rfl, rfl, rfl, trivial⟩), (by exact trivial), rfl, rfl, rfl, rfl⟩ (hn1 _ hf1)
   ·replace h := ite_f hc2 h
    refine WC.exit (WQ.thenExit ?_)
    cases h
    have he := he1 _ hf1
    subst he
    replace h := hk1
    try dsimp only at h
    refine WQ.thenExit (WQ.blockExit ?_)
    exact WQ.cut [] () ⟨(by exact trivial), (by exact trivial), rfl, rfl, rfl, rfl⟩ h
  ·intro _ h
   replace h : validWords_j1 = some _ := h
   unfold validWords_j1 at h
   show WC _ _ _ ⟨[], []⟩ _ _
   refine WC.seq (WC.region ?_)
   refine lr 1 rfl trivial ?_
   refine WL.nil (WQ.thenNormal (WC.ret ?_))
   cases h
   exact WQ.rets tbOk hR [] (.inl rfl) rfl rfl (Le.refl _) (by exact trivial) rfl rfl rfl rfl
theorem isNaNS_con {wg : World} (hw : WG wg) {x : Str} {r : Bool} (h : isNaNS x = some r) : Con Tryz.prog wg gl 185 [.v (.str x)] [] (.v (.bool r)) [] := by
 unfold isNaNS at h
 refine con_of_WC (S := slotsOf 0 _) Tryz.func185 rfl Tryz.ntmps185 rfl (fun t x hx => (slotsOf_get hx).2) ?_
 intro F L w ρ0 R hR
 show WC _ _ _ ⟨[(0, .v (.str x))], []⟩ _ _
 refine WC.seq (WC.region ?_)
 refine lr 1 rfl trivial ?_
 refine WL.nil (WQ.thenNormal (WC.seq (WC.region ?_)))
 refine lr 4 rfl trivial ?_
 refine WL.nil (WQ.thenNormal (WC.ret ?_))
 cases h
 exact WQ.rets tbOk hR [] (.inl rfl) rfl rfl (Le.refl _) (by exact trivial) rfl rfl rfl rfl
theorem cmpStr_con {wg : World} (hw : WG wg) {x : Str} {y : Str} {r : Int} (h : cmpStr x y = some r) : Con Tryz.prog wg gl 165 [.v (.str x), .v (.str y)] [] (.v (.int .i64 r)) [] := by
 unfold cmpStr at h
 refine con_of_WC (S := slotsOf 0 _) Tryz.func165 rfl Tryz.ntmps165 rfl (fun t x hx => (slotsOf_get hx).2) ?_
 intro F L w ρ0 R hR
 show WC _ _ _ ⟨[(0, .v (.str x)), (1, .v (.str y))], []⟩ _ _
 refine WC.seq (WC.region ?_)
 refine lr 1 rfl trivial ?_
 refine WL.nil (WQ.thenNormal (WC.seq (WC.region ?_)))
 refine lr 1 rfl trivial ?_
 replace h := bnd h; obtain ⟨v, hvv, h⟩ := h
 refine WL.call0 fn185 rfl rfl rfl rfl (by exact trivial) rfl (isNaNS_con hw hvv) ?_
 refine lr 1 rfl trivial ?_
 refine WL.nil (WQ.thenNormal (WC.seq (WC.region ?_)))
 refine lr 1 rfl trivial ?_
 replace h := bnd h; obtain ⟨v2, hvv2, h⟩ := h
 refine WL.call0 fn185 rfl rfl rfl rfl (by exact trivial) rfl (isNaNS_con hw hvv2) ?_
 refine lr 1 rfl trivial ?_
 refine WL.nil (WQ.thenNormal (WC.seq (WC.seq (WC.region ?_))))
 refine lr 1 rfl trivial ?_
 refine WL.nil (WQ.thenNormal ?_)
 refine WC.cond rfl (fun hc1 => ?_) (fun hc1 => ?_)
 ·replace h := ite_t hc1 h
  refine WC.seq (WC.seq (WC.region ?_))
  refine lr 1 rfl trivial ?_
  refine WL.nil (WQ.thenNormal ?_)
  refine WC.cond rfl (fun hc2 => ?_) (fun hc2 => ?_)
  ·replace h := ite_t hc2 h
   refine WC.seq (WC.region ?_)
   refine lr 1 rfl trivial ?_
   refine WL.nil (WQ.thenNormal (WC.ret (WQ.thenRet (WQ.thenRet ?_))))
   cases h
   exact WQ.rets tbOk hR [] (.inl rfl) rfl rfl (Le.refl _) (by exact trivial) rfl rfl rfl rfl
  ·replace h := ite_f hc2 h
   refine WC.skip (WQ.thenNormal (WC.seq (WC.region ?_)))
   refine lr 1 rfl trivial ?_
   refine WL.nil (WQ.thenNormal (WC.ret (WQ.thenRet ?_)))
   cases h
   exact WQ.rets tbOk hR [] (.inl rfl) rfl rfl (Le.refl _) (by exact trivial) rfl rfl rfl rfl
 ·replace h := ite_f hc1 h
  refine WC.skip (WQ.thenNormal (WC.seq (WC.seq (WC.region ?_))))
  refine lr 1 rfl trivial ?_
  refine WL.nil (WQ.thenNormal ?_)
  refine WC.cond rfl (fun hc3 => ?_) (fun hc3 => ?_)
  ·replace h := ite_t hc3 h
   refine WC.seq (WC.region ?_)
   refine lr 1 rfl trivial ?_
   refine WL.nil (WQ.thenNormal (WC.ret (WQ.thenRet ?_)))
   cases h
   exact WQ.rets tbOk hR [] (.inl rfl) rfl rfl (Le.refl _) (by exact trivial) rfl rfl rfl rfl
  ·replace h := ite_f hc3 h
   refine WC.skip (WQ.thenNormal (WC.seq (WC.seq (WC.region ?_))))
   refine lr 3 rfl trivial ?_
   refine WL.nil (WQ.thenNormal ?_)
   refine WC.cond rfl (fun hc4 => ?_) (fun hc4 => ?_)
   ·replace h := ite_t hc4 h
    refine WC.seq (WC.region ?_)
    refine lr 1 rfl trivial ?_
    refine WL.nil (WQ.thenNormal (WC.ret (WQ.thenRet ?_)))
    cases h
    exact WQ.rets tbOk hR [] (.inl rfl) rfl rfl (Le.refl _) (by exact trivial) rfl rfl rfl rfl
   ·replace h := ite_f hc4 h
    refine WC.skip (WQ.thenNormal (WC.seq (WC.seq (WC.region ?_))))
    refine lr 3 rfl trivial ?_
    refine WL.nil (WQ.thenNormal ?_)
    refine WC.cond rfl (fun hc5 => ?_) (fun hc5 => ?_)
    ·replace h := ite_t hc5 h
     refine WC.seq (WC.region ?_)
     refine lr 1 rfl trivial ?_
     refine WL.nil (WQ.thenNormal (WC.ret (WQ.thenRet ?_)))
     cases h
     exact WQ.rets tbOk hR [] (.inl rfl) rfl rfl (Le.refl _) (by exact trivial) rfl rfl rfl rfl
    ·replace h := ite_f hc5 h
     refine WC.skip (WQ.thenNormal (WC.seq (WC.region ?_)))
     refine lr 1 rfl trivial ?_
     refine WL.nil (WQ.thenNormal (WC.ret ?_))
     cases h
     exact WQ.rets tbOk hR [] (.inl rfl) rfl rfl (Le.refl _) (by exact trivial) rfl rfl rfl rfl
theorem isNaN_con {wg : World} (hw : WG wg) {x : Int} {r : Bool} (h : isNaN x = some r) : Con Tryz.prog wg gl 162 [.v (.int .i64 x)] [] (.v (.bool r)) [] := by
 unfold isNaN at h
 refine con_of_WC (S := slotsOf 0 _) Tryz.func162 rfl Tryz.ntmps162 rfl (fun t x hx => (slotsOf_get hx).2) ?_
 intro F L w ρ0 R hR
 show WC _ _ _ ⟨[(0, .v (.int .i64 x))], []⟩ _ _
 refine WC.seq (WC.region ?_)
 refine lr 1 rfl trivial ?_
 refine WL.nil (WQ.thenNormal (WC.seq (WC.region ?_)))
 refine lr 4 rfl trivial ?_
 refine WL.nil (WQ.thenNormal (WC.ret ?_))
 cases h
 exact WQ.rets tbOk hR [] (.inl rfl) rfl rfl (Le.refl _) (by exact trivial) rfl rfl rfl rfl
theorem cmpInt_con {wg : World} (hw : WG wg) {x : Int} {y : Int} {r : Int} (h : cmpInt x y = some r) : Con Tryz.prog wg gl 128 [.v (.int .i64 x), .v (.int .i64 y)] [] (.v (.int .i64 r)) [] := by
 unfold cmpInt at h
 refine con_of_WC (S := slotsOf 0 _) Tryz.func128 rfl Tryz.ntmps128 rfl (fun t x hx => (slotsOf_get hx).2) ?_
 intro F L w ρ0 R hR
 show WC _ _ _ ⟨[(0, .v (.int .i64 x)), (1, .v (.int .i64 y))], []⟩ _ _
 refine WC.seq (WC.region ?_)
 refine lr 1 rfl trivial ?_
 refine WL.nil (WQ.thenNormal (WC.seq (WC.region ?_)))
 refine lr 1 rfl trivial ?_
 replace h := bnd h; obtain ⟨v, hvv, h⟩ := h
 refine WL.call0 fn162 rfl rfl rfl rfl (by exact trivial) rfl (isNaN_con hw hvv) ?_
 refine lr 1 rfl trivial ?_
 refine WL.nil (WQ.thenNormal (WC.seq (WC.region ?_)))
 refine lr 1 rfl trivial ?_
 replace h := bnd h; obtain ⟨v2, hvv2, h⟩ := h
 refine WL.call0 fn162 rfl rfl rfl rfl (by exact trivial) rfl (isNaN_con hw hvv2) ?_
 refine lr 1 rfl trivial ?_
 refine WL.nil (WQ.thenNormal (WC.seq (WC.seq (WC.region ?_))))
 refine lr 1 rfl trivial ?_
 refine WL.nil (WQ.thenNormal ?_)
 refine WC.cond rfl (fun hc1 => ?_) (fun hc1 => ?_)
 ·replace h := ite_t hc1 h
  refine WC.seq (WC.seq (WC.region ?_))
  refine lr 1 rfl trivial ?_
  refine WL.nil (WQ.thenNormal ?_)
  refine WC.cond rfl (fun hc2 => ?_) (fun hc2 => ?_)
  ·replace h := ite_t hc2 h
   refine WC.seq (WC.region ?_)
   refine lr 1 rfl trivial ?_
   refine WL.nil (WQ.thenNormal (WC.ret (WQ.thenRet (WQ.thenRet ?_))))
   cases h
   exact WQ.rets tbOk hR [] (.inl rfl) rfl rfl (Le.refl _) (by exact trivial) rfl rfl rfl rfl
  ·replace h := ite_f hc2 h
   refine WC.skip (WQ.thenNormal (WC.seq (WC.region ?_)))
   refine lr 1 rfl trivial ?_
   refine WL.nil (WQ.thenNormal (WC.ret (WQ.thenRet ?_)))
   cases h
   exact WQ.rets tbOk hR [] (.inl rfl) rfl rfl (Le.refl _) (by exact trivial) rfl rfl rfl rfl
 ·replace h := ite_f hc1 h
  refine WC.skip (WQ.thenNormal (WC.seq (WC.seq (WC.region ?_))))
  refine lr 1 rfl trivial ?_
  refine WL.nil (WQ.thenNormal ?_)
  refine WC.cond rfl (fun hc3 => ?_) (fun hc3 => ?_)
  ·replace h := ite_t hc3 h
   refine WC.seq (WC.region ?_)
   refine lr 1 rfl trivial ?_
   refine WL.nil (WQ.thenNormal (WC.ret (WQ.thenRet ?_)))
   cases h
   exact WQ.rets tbOk hR [] (.inl rfl) rfl rfl (Le.refl _) (by exact trivial) rfl rfl rfl rfl
  ·replace h := ite_f hc3 h
   refine WC.skip (WQ.thenNormal (WC.seq (WC.seq (WC.region ?_))))
   refine lr 3 rfl trivial ?_
   refine WL.nil (WQ.thenNormal ?_)
   refine WC.cond rfl (fun hc4 => ?_) (fun hc4 => ?_)
   ·replace h := ite_t hc4 h
    refine WC.seq (WC.region ?_)
    refine lr 1 rfl trivial ?_
    refine WL.nil (WQ.thenNormal (WC.ret (WQ.thenRet ?_)))
    cases h
    exact WQ.rets tbOk hR [] (.inl rfl) rfl rfl (Le.refl _) (by exact trivial) rfl rfl rfl rfl
   ·replace h := ite_f hc4 h
    refine WC.skip (WQ.thenNormal (WC.seq (WC.seq (WC.region ?_))))
    refine lr 3 rfl trivial ?_
    refine WL.nil (WQ.thenNormal ?_)
    refine WC.cond rfl (fun hc5 => ?_) (fun hc5 => ?_)
    ·replace h := ite_t hc5 h
     refine WC.seq (WC.region ?_)
     refine lr 1 rfl trivial ?_
     refine WL.nil (WQ.thenNormal (WC.ret (WQ.thenRet ?_)))
     cases h
     exact WQ.rets tbOk hR [] (.inl rfl) rfl rfl (Le.refl _) (by exact trivial) rfl rfl rfl rfl
    ·replace h := ite_f hc5 h
     refine WC.skip (WQ.thenNormal (WC.seq (WC.region ?_)))
     refine lr 1 rfl trivial ?_
     refine WL.nil (WQ.thenNormal (WC.ret ?_))
     cases h
     exact WQ.rets tbOk hR [] (.inl rfl) rfl rfl (Le.refl _) (by exact trivial) rfl rfl rfl rfl
theorem versionOf_con {wg : World} (hw : WG wg) {e1 : ApiCodeEntry} {r : NomenclatureVersion} (h : versionOf e1 = some r) : Con Tryz.prog wg gl 138 [.v (.agg [.str e1.Code, .int .i64 e1.From, .int .i64 e1.To, .sl 1 (e1.Terms.map eLStr), .bool e1.Other])] [] (.v (.agg [.str r.code, .int .i64 r.from_])) [] := by
 unfold versionOf at h
 refine con_of_WC (S := slotsOf 0 _) Tryz.func138 rfl Tryz.ntmps138 rfl (fun t x hx => (slotsOf_get hx).2) ?_
 intro F L w ρ0 R hR
 show WC _ _ _ ⟨[(0, .v (.agg [.str e1.Code, .int .i64 e1.From, .int .i64 e1.To, .sl 1 (e1.Terms.map eLStr), .bool e1.Other]))], []⟩ _ _
 refine WC.seq (WC.region ?_)
 refine lr 2 rfl trivial ?_
 refine WL.nil (WQ.thenNormal (WC.seq (WC.region ?_)))
 refine lr 6 rfl trivial ?_
 refine WL.nil (WQ.thenNormal (WC.ret ?_))
 cases h
 exact WQ.rets tbOk hR [] (.inl rfl) rfl rfl (Le.refl _) (by exact trivial) rfl rfl rfl rfl
theorem versionCmp_con {wg : World} (hw : WG wg) {v : NomenclatureVersion} {w1 : NomenclatureVersion} {r : Int} (h : versionCmp v w1 = some r) : Con Tryz.prog wg gl 139 [.v (.agg [.str v.code, .int .i64 v.from_]), .v (.agg [.str w1.code, .int .i64 w1.from_])] [] (.v (.int .i64 r)) [] := by
 unfold versionCmp at h
 refine con_of_WC (S := slotsOf 0 _) Tryz.func139 rfl Tryz.ntmps139 rfl (fun t x hx => (slotsOf_get hx).2) ?_
 intro F L w ρ0 R hR
 show WC _ _ _ ⟨[(0, .v (.agg [.str v.code, .int .i64 v.from_])), (1, .v (.agg [.str w1.code, .int .i64 w1.from_]))], []⟩ _ _
 refine WC.seq (WC.region ?_)
 refine lr 3 rfl trivial ?_
 refine WL.nil (WQ.thenNormal (WC.seq (WC.seq (WC.region ?_))))
 refine lr 2 rfl trivial ?_
 refine WL.q [] rfl rfl rfl (q_eq rfl (by exact trivial) eg158 eqT158) ?_
 refine WL.nil (WQ.thenNormal ?_)
 refine WC.cond rfl (fun hc1 => ?_) (fun hc1 => ?_)
 ·replace h := ite_t hc1 h
  refine WC.seq (WC.region ?_)
  refine lr 1 rfl trivial ?_
  refine WL.nil (WQ.thenNormal (WC.ret (WQ.thenRet ?_)))
  cases h
  exact WQ.rets tbOk hR [] (.inl rfl) rfl rfl (Le.refl _) (by exact trivial) rfl rfl rfl rfl
 ·replace h := ite_f hc1 h
  refine WC.skip (WQ.thenNormal (WC.seq (WC.seq (WC.region ?_))))
  refine lr 5 rfl trivial ?_
  refine WL.nil (WQ.thenNormal ?_)
  refine WC.cond rfl (fun hc2 => ?_) (fun hc2 => ?_)
  ·replace h := ite_t hc2 h
   refine WC.seq (WC.region ?_)
   refine lr 4 rfl trivial ?_
   replace h := bnd h; obtain ⟨v2, hvv2, h⟩ := h
   refine WL.call0 fn165 rfl rfl rfl rfl (by exact trivial) rfl (cmpStr_con hw hvv2) ?_
   refine lr 1 rfl trivial ?_
   refine WL.nil (WQ.thenNormal (WC.ret (WQ.thenRet ?_)))
   cases h
   exact WQ.rets tbOk hR [] (.inl rfl) rfl rfl (Le.refl _) (by exact trivial) rfl rfl rfl rfl
  ·replace h := ite_f hc2 h
   refine WC.skip (WQ.thenNormal (WC.seq (WC.region ?_)))
   refine lr 4 rfl trivial ?_
   replace h := bnd h; obtain ⟨v3, hvv3, h⟩ := h
   refine WL.call0 fn128 rfl rfl rfl rfl (by exact trivial) rfl (cmpInt_con hw hvv3) ?_
   refine lr 1 rfl trivial ?_
   refine WL.nil (WQ.thenNormal (WC.ret ?_))
   cases h
   exact WQ.rets tbOk hR [] (.inl rfl) rfl rfl (Le.refl _) (by exact trivial) rfl rfl rfl rfl
theorem nomLevel_con {wg : World} (hw : WG wg) {code : Str} {r : Int} (h : nomLevel code = some r) : Con Tryz.prog wg gl 55 [.v (.str code)] [] (.v (.int .i64 r)) [] := by
 unfold nomLevel at h
 refine con_of_WC (S := slotsOf 0 _) Tryz.func55 rfl Tryz.ntmps55 rfl (fun t x hx => (slotsOf_get hx).2) ?_
 intro F L w ρ0 R hR
 show WC _ _ _ ⟨[(0, .v (.str code))], []⟩ _ _
 refine WC.seq (WC.region ?_)
 refine lr 1 rfl trivial ?_
 refine WL.nil (WQ.thenNormal (WC.seq (WC.seq (WC.region ?_))))
 refine lr 2 rfl trivial ?_
 refine WL.nil (WQ.thenNormal ?_)
 refine WC.thenCut (X := Unit) (fun gG => ⟨[], []⟩) (fun gG => nomLevel_j1  = some r) ?_ ?_
 ·refine WC.block ?_
  refine WC.rounds 5 ?_
  refine WC.seq (WC.region ?_)
  refine lr 1 rfl trivial ?_
  refine WL.nil (WQ.thenNormal (WC.seq ?_))
  refine WC.cond (b := true) rfl (fun hc1 => ?_) (fun hc1 => by cases hc1)
  refine WC.skip (WQ.thenNormal (WC.seq (WC.block (WC.seq (WC.region ?_)))))
  refine WL.q [] rfl rfl rfl (q_aidx tbOk Tryz.underlying141 rfl rfl rfl rfl (by exact sideR) (by decide) rfl) ?_
  refine lr 1 rfl trivial ?_
  refine WL.nil (WQ.thenNormal (WC.seq (WC.region ?_)))
  refine lr 6 rfl (by exact sideR) ?_
  replace h := bnd h; obtain ⟨v, hvv, h⟩ := h
  refine WL.gcall0 fn105 rfl rfl rfl rfl rfl (fun _ => (by exact sideR)) rfl (fun hg => (trimS_con hw (ite_t hg hvv))) ?_
  refine lr 2 rfl (by exact sideR) ?_
  refine WL.nil (WQ.thenNormal ?_)
  refine WC.cond rfl (fun hc2 => ?_) (fun hc2 => ?_)
  ·replace h := ite_t hc2 h
   refine WC.seq (WC.region ?_)
   refine lr 2 rfl trivial ?_
   refine WL.nil (WQ.thenNormal (WC.ret (WQ.blockRet (WQ.thenRet (WQ.thenRet (WQ.blockRet (WQ.thenRet ?_)))))))
   cases h
   exact WQ.rets tbOk hR [] (.inl rfl) rfl rfl (Le.refl _) (by exact trivial) rfl rfl rfl rfl
  ·replace h := ite_f hc2 h
   refine WC.skip (WQ.blockNormal (WQ.thenNormal (WC.region ?_)))
   refine lr 2 rfl trivial ?_
   refine WL.nil ?_
   refine WQ.round ?_
   refine WC.seq (WC.region ?_)
   refine lr 1 rfl trivial ?_
   refine WL.nil (WQ.thenNormal (WC.seq ?_))
   refine WC.cond (b := true) rfl (fun hc3 => ?_) (fun hc3 => by cases hc3)
   refine WC.skip (WQ.thenNormal (WC.seq (WC.block (WC.seq (WC.region ?_)))))
   refine WL.q [] rfl rfl rfl (q_aidx tbOk Tryz.underlying141 rfl rfl rfl rfl (by exact sideR) (by decide) rfl) ?_
   refine lr 1 rfl trivial ?_
   refine WL.nil (WQ.thenNormal (WC.seq (WC.region ?_)))
   refine lr 6 rfl (by exact sideR) ?_
   replace h := bnd h; obtain ⟨v2, hvv2, h⟩ := h
   refine WL.gcall0 fn105 rfl rfl rfl rfl rfl (fun _ => (by exact sideR)) rfl (fun hg => (trimS_con hw (ite_t hg hvv2))) ?_
   refine lr 2 rfl (by exact sideR) ?_
   refine WL.nil (WQ.thenNormal ?_)
   refine WC.cond rfl (fun hc4 => ?_) (fun hc4 => ?_)
   ·replace h := ite_t hc4 h
    refine WC.seq (WC.region ?_)
    refine lr 2 rfl trivial ?_
    refine WL.nil (WQ.thenNormal (WC.ret (WQ.blockRet (WQ.thenRet (WQ.thenRet (WQ.blockRet (WQ.thenRet ?_)))))))
    cases h
    exact WQ.rets tbOk hR [] (.inl rfl) rfl rfl (Le.refl _) (by exact trivial) rfl rfl rfl rfl
   ·replace h := ite_f hc4 h
    refine WC.skip (WQ.blockNormal (WQ.thenNormal (WC.region ?_)))
    refine lr 2 rfl trivial ?_
    refine WL.nil ?_
    refine WQ.round ?_
    refine WC.seq (WC.region ?_)
    refine lr 1 rfl trivial ?_
    refine WL.nil (WQ.thenNormal (WC.seq ?_))
    refine WC.cond (b := true) rfl (fun hc5 => ?_) (fun hc5 => by cases hc5)
    refine WC.skip (WQ.thenNormal (WC.seq (WC.block (WC.seq (WC.region ?_)))))
    refine WL.q [] rfl rfl rfl (q_aidx tbOk Tryz.underlying141 rfl rfl rfl rfl (by exact sideR) (by decide) rfl) ?_
    refine lr 1 rfl trivial ?_
    refine WL.nil (WQ.thenNormal (WC.seq (WC.region ?_)))
    refine lr 6 rfl (by exact sideR) ?_
    replace h := bnd h; obtain ⟨v3, hvv3, h⟩ := h
    refine WL.gcall0 fn105 rfl rfl rfl rfl rfl (fun _ => (by exact sideR)) rfl (fun hg => (trimS_con hw (ite_t hg hvv3))) ?_
    refine lr 2 rfl (by exact sideR) ?_
    refine WL.nil (WQ.thenNormal ?_)
    refine WC.cond rfl (fun hc6 => ?_) (fun hc6 => ?_)
    ·replace h := ite_t hc6 h
     refine WC.seq (WC.region ?_)
     refine lr 2 rfl trivial ?_
     refine WL.nil (WQ.thenNormal (WC.ret (WQ.blockRet (WQ.thenRet (WQ.thenRet (WQ.blockRet (WQ.thenRet ?_)))))))
     cases h
     exact WQ.rets tbOk hR [] (.inl rfl) rfl rfl (Le.refl _) (by exact trivial) rfl rfl rfl rfl
    ·replace h := ite_f hc6 h
     refine WC.skip (WQ.blockNormal (WQ.thenNormal (WC.region ?_)))
     refine lr 2 rfl trivial ?_
     refine WL.nil ?_
     refine WQ.round ?_
     refine WC.seq (WC.region ?_)
     refine lr 1 rfl trivial ?_
     refine WL.nil (WQ.thenNormal (WC.seq ?_))
     refine WC.cond (b := true) rfl (fun hc7 => ?_) (fun hc7 => by cases hc7)
     refine WC.skip (WQ.thenNormal (WC.seq (WC.block (WC.seq (WC.region ?_)))))
     refine WL.q [] rfl rfl rfl (q_aidx tbOk Tryz.underlying141 rfl rfl rfl rfl (by exact sideR) (by decide) rfl) ?_
     refine lr 1 rfl trivial ?_
     refine WL.nil (WQ.thenNormal (WC.seq (WC.region ?_)))
     refine lr 6 rfl (by exact sideR) ?_
     replace h := bnd h; obtain ⟨v4, hvv4, h⟩ := h
     refine WL.gcall0 fn105 rfl rfl rfl rfl rfl (fun _ => (by exact sideR)) rfl (fun hg => (trimS_con hw (ite_t hg hvv4))) ?_
     refine lr 2 rfl (by exact sideR) ?_
     refine WL.nil (WQ.thenNormal ?_)
     refine WC.cond rfl (fun hc8 => ?_) (fun hc8 => ?_)
     ·replace h := ite_t hc8 h
      refine WC.seq (WC.region ?_)
      refine lr 2 rfl trivial ?_
      refine WL.nil (WQ.thenNormal (WC.ret (WQ.blockRet (WQ.thenRet (WQ.thenRet (WQ.blockRet (WQ.thenRet ?_)))))))
      cases h
      exact WQ.rets tbOk hR [] (.inl rfl) rfl rfl (Le.refl _) (by exact trivial) rfl rfl rfl rfl
     ·replace h := ite_f hc8 h
      refine WC.skip (WQ.blockNormal (WQ.thenNormal (WC.region ?_)))
      refine lr 2 rfl trivial ?_
      refine WL.nil ?_
      refine WQ.round ?_
      refine WC.seq (WC.region ?_)
      refine lr 1 rfl trivial ?_
      refine WL.nil (WQ.thenNormal (WC.seq ?_))
      refine WC.cond (b := false) rfl (fun hc9 => by cases hc9) (fun hc9 => ?_)
      refine WC.exit (WQ.thenExit (WQ.thenExit (WQ.blockExit ?_)))
      exact WQ.cut [] () ⟨(by exact trivial), (by exact trivial), rfl, rfl, rfl, rfl⟩ h
 ·intro _ h
  replace h : nomLevel_j1 = some _ := h
  unfold nomLevel_j1 at h
  show WC _ _ _ ⟨[], []⟩ _ _
  refine WC.seq (WC.region ?_)
  refine lr 1 rfl trivial ?_
  refine WL.nil (WQ.thenNormal (WC.ret ?_))
  cases h
  exact WQ.rets tbOk hR [] (.inl rfl) rfl rfl (Le.refl _) (by exact trivial) rfl rfl rfl rfl
theorem nomDescribed_con {wg : World} (hw : WG wg) {l : (List Str)} {r : Bool} (h : nomDescribed l = some r) : Con Tryz.prog wg gl 137 [.v (.sl 1 (l.map eStr))] [] (.v (.bool r)) [] := by
 unfold nomDescribed at h
 refine con_of_WC (S := slotsOf 0 _) Tryz.func137 rfl Tryz.ntmps137 rfl (fun t x hx => (slotsOf_get hx).2) ?_
 intro F L w ρ0 R hR
 show WC _ _ _ ⟨[(0, .v (.sl 1 (l.map eStr)))], []⟩ _ _
 refine WC.seq (WC.region ?_)
 refine lr 1 rfl trivial ?_
 refine WL.nil (WQ.thenNormal (WC.seq (WC.region ?_)))
 refine lr 1 rfl trivial ?_
 refine WL.q [] rfl rfl rfl (q_ev tbOk (.v (.int .i64 (l.length : Int))) rfl (by exact trivial) (by exact lenT)) ?_
 refine lr 3 rfl (by exact sideR) ?_
 replace h := bnd h; obtain ⟨v, hvv, h⟩ := h
 refine WL.gcall0 fn107 rfl rfl rfl rfl rfl (fun _ => (by exact sideR)) rfl (fun hg => (validWords_con hw (ite_t hg hvv))) ?_
 refine lr 2 rfl (by exact sideR) ?_
 refine WL.nil (WQ.thenNormal (WC.ret ?_))
 cases h
 exact WQ.rets tbOk hR [] (.inl rfl) rfl rfl (Le.refl _) (by exact trivial) rfl rfl rfl rfl
theorem validateEntry_con {wg : World} (hw : WG wg) {e1 : ApiCodeEntry} {r : Int} (h : validateEntry e1 = some r) : Con Tryz.prog wg gl 87 [.v (.agg [.str e1.Code, .int .i64 e1.From, .int .i64 e1.To, .sl 1 (e1.Terms.map eLStr), .bool e1.Other])] [] (.v (.int .i64 r)) [] := by
 unfold validateEntry at h
 refine con_of_WC (S := slotsOf 0 _) Tryz.func87 rfl Tryz.ntmps87 rfl (fun t x hx => (slotsOf_get hx).2) ?_
 intro F L w ρ0 R hR
 show WC _ _ _ ⟨[(0, .v (.agg [.str e1.Code, .int .i64 e1.From, .int .i64 e1.To, .sl 1 (e1.Terms.map eLStr), .bool e1.Other]))], []⟩ _ _
 refine WC.seq (WC.region ?_)
 refine lr 2 rfl trivial ?_
 refine WL.nil (WQ.thenNormal (WC.seq (WC.region ?_)))
 refine lr 2 rfl trivial ?_
 replace h := bnd h; obtain ⟨v, hvv, h⟩ := h
 refine WL.call0 fn55 rfl rfl rfl rfl (by exact trivial) rfl (nomLevel_con hw hvv) ?_
 refine lr 1 rfl trivial ?_
 refine WL.nil (WQ.thenNormal (WC.seq (WC.block (WC.seq (WC.region ?_)))))
 refine lr 3 rfl trivial ?_
 refine WL.nil (WQ.thenNormal ?_)
 refine WC.cond rfl (fun hc1 => ?_) (fun hc1 => ?_)
 ·replace h := ite_t hc1 h
  refine WC.seq (WC.region ?_)
  refine lr 1 rfl trivial ?_
  refine WL.nil (WQ.thenNormal (WC.ret (WQ.blockRet (WQ.thenRet ?_))))
  cases h
  exact WQ.rets tbOk hR [] (.inl rfl) rfl rfl (Le.refl _) (by exact trivial) rfl rfl rfl rfl
 ·replace h := ite_f hc1 h
  refine WC.seq (WC.region ?_)
  refine lr 16 rfl (by exact sideR) ?_
  refine WL.nil (WQ.thenNormal ?_)
  refine WC.cond rfl (fun hc2 => ?_) (fun hc2 => ?_)
  ·replace h := ite_t hc2 h
   refine WC.seq (WC.region ?_)
   refine lr 1 rfl trivial ?_
   refine WL.nil (WQ.thenNormal (WC.ret (WQ.blockRet (WQ.thenRet ?_))))
   cases h
   exact WQ.rets tbOk hR [] (.inl rfl) rfl rfl (Le.refl _) (by exact trivial) rfl rfl rfl rfl
  ·replace h := ite_f hc2 h
   refine WC.seq (WC.region ?_)
   refine lr 2 rfl trivial ?_
   refine WL.q [] rfl rfl rfl (q_ev tbOk (.v (.int .i64 (e1.Terms.length : Int))) rfl (by exact trivial) (by exact lenT)) ?_
   refine lr 2 rfl trivial ?_
   refine WL.nil (WQ.thenNormal ?_)
   refine WC.cond rfl (fun hc3 => ?_) (fun hc3 => ?_)
   ·replace h := ite_t hc3 h
    refine WC.seq (WC.region ?_)
    refine lr 1 rfl trivial ?_
    refine WL.nil (WQ.thenNormal (WC.ret (WQ.blockRet (WQ.thenRet ?_))))
    cases h
    exact WQ.rets tbOk hR [] (.inl rfl) rfl rfl (Le.refl _) (by exact trivial) rfl rfl rfl rfl
   ·replace h := ite_f hc3 h
    refine WC.skip (WQ.blockNormal (WQ.thenNormal (WC.seq (WC.seq (WC.region ?_)))))
    refine lr 2 rfl trivial ?_
    refine WL.q [] rfl rfl rfl (q_ev tbOk (.v (.int .i64 (e1.Terms.length : Int))) rfl (by exact trivial) (by exact lenT)) ?_
    refine lr 1 rfl trivial ?_
    refine WL.nil (WQ.thenNormal ?_)
    refine WC.thenCut (X := Unit) (fun gG => ⟨[(3, .v (.int .i64 v)), (1, .p 1 0)], [(1, .blk 54 [.v (.str e1.Code), .v (.int .i64 e1.From), .v (.int .i64 e1.To), .v (.sl 1 (e1.Terms.map eLStr)), .v (.bool e1.Other)])]⟩) (fun gG => validateEntry_j1 e1 v = some r) ?_ ?_
    ·refine WC.block ?_
     obtain ⟨eQ1, hl1, hk1⟩ := bnd h
     clear h
     refine WC.loop (σ := Int) (τ := ((Int) ⊕ (Unit))) (fun sS => ⟨[(38, .v (.int .i64 sS)), (37, .v (.int .i64 (e1.Terms.length : Int))), (36, .v (.sl 1 (e1.Terms.map eLStr))), (3, .v (.int .i64 v)), (1, .p 1 0)], [(1, .blk 54 [.v (.str e1.Code), .v (.int .i64 e1.From), .v (.int .i64 e1.To), .v (.sl 1 (e1.Terms.map eLStr)), .v (.bool e1.Other)])]⟩) (validateEntry_b1 e1 v) [] (0 : Int) hl1 ⟨(by exact ⟨rfl, rfl, rfl, rfl, rfl, trivial⟩), (by exact ⟨rfl, trivial⟩), rfl, rfl, rfl, rfl⟩ ?_
     intro t38 m hn1 he1 hx1
     obtain ⟨o1, hf1⟩ := some_of hx1
     have h := hf1
     unfold validateEntry_b1 at h
     show WC _ _ _ ⟨[(38, .v (.int .i64 t38)), (37, .v (.int .i64 (e1.Terms.length : Int))), (36, .v (.sl 1 (e1.Terms.map eLStr))), (3, .v (.int .i64 v)), (1, .p 1 0)], [(1, .blk 54 [.v (.str e1.Code), .v (.int .i64 e1.From), .v (.int .i64 e1.To), .v (.sl 1 (e1.Terms.map eLStr)), .v (.bool e1.Other)])]⟩ _ _
     refine WC.seq (WC.region ?_)
     refine lr 1 rfl trivial ?_
     refine WL.nil (WQ.thenNormal (WC.seq ?_))
     refine WC.cond rfl (fun hc7 => ?_) (fun hc7 => ?_)
     ·replace h := ite_t hc7 h
      refine WC.skip (WQ.thenNormal (WC.seq (WC.block (WC.seq (WC.region ?_)))))
      obtain ⟨g1, h⟩ := grd h
      replace h := bnd h; obtain ⟨x2, hxx2, h⟩ := h
      refine WL.q [] rfl rfl rfl (q_idx tbOk rfl (by exact trivial) g1 (map_get (f := eLStr) hxx2)) ?_
      refine lr 2 rfl trivial ?_
      refine WL.nil (WQ.thenNormal (WC.seq (WC.region ?_)))
      refine lr 1 rfl trivial ?_
      replace h := bnd h; obtain ⟨v3, hvv3, h⟩ := h
      refine WL.call0 fn137 rfl rfl rfl rfl (by exact trivial) rfl (nomDescribed_con hw hvv3) ?_
      refine lr 1 rfl trivial ?_
      refine WL.nil (WQ.thenNormal ?_)
      refine WC.cond rfl (fun hc8 => ?_) (fun hc8 => ?_)
      ·replace h := ite_t hc8 h
       refine WC.seq (WC.region ?_)
       refine lr 1 rfl trivial ?_
       refine WL.nil (WQ.thenNormal (WC.ret (WQ.blockRet (WQ.thenRet ?_))))
       cases h
       have he := he1 _ hf1
       subst he
       have h : some (1 : Int) = some _ := hk1
       refine WQ.thenRet (WQ.blockRet (WQ.thenRet ?_))
       cases h
       exact WQ.rets tbOk hR [] (.inl rfl) rfl rfl (Le.refl _) (by exact trivial) rfl rfl rfl rfl
      ·replace h := ite_f hc8 h
       refine WC.skip (WQ.blockNormal (WQ.thenNormal (WC.region ?_)))
       refine lr 2 rfl trivial ?_
       refine WL.nil ?_
       cases h
       exact WQ.next [] (IntKind.i64.wrap (t38 + (1 : Int))) ⟨(by exact ⟨rfl, rfl, rfl, rfl, rfl, trivial⟩), (by exact ⟨rfl, trivial⟩), rfl, rfl, rfl, rfl⟩ (hn1 _ hf1)
     ·replace h := ite_f hc7 h
      refine WC.exit (WQ.thenExit ?_)
      cases h
      have he := he1 _ hf1
      subst he
      replace h := hk1
      try dsimp only at h
      refine WQ.thenExit (WQ.blockExit ?_)
      exact WQ.cut [] () ⟨(by exact ⟨rfl, rfl, trivial⟩), (by exact ⟨rfl, trivial⟩), rfl, rfl, rfl, rfl⟩ h
    ·intro _ h
     replace h : validateEntry_j1 e1 v = some _ := h
     unfold validateEntry_j1 at h
     show WC _ _ _ ⟨[(3, .v (.int .i64 v)), (1, .p 1 0)], [(1, .blk 54 [.v (.str e1.Code), .v (.int .i64 e1.From), .v (.int .i64 e1.To), .v (.sl 1 (e1.Terms.map eLStr)), .v (.bool e1.Other)])]⟩ _ _
     refine WC.seq (WC.region ?_)
     refine lr 2 rfl trivial ?_
     refine WL.q [] rfl rfl rfl (q_ev tbOk (.v (.int .i64 (e1.Terms.length : Int))) rfl (by exact trivial) (by exact lenT)) ?_
     refine lr 2 rfl trivial ?_
     refine WL.nil (WQ.thenNormal (WC.seq (WC.region ?_)))
     refine lr 5 rfl trivial ?_
     refine WL.nil (WQ.thenNormal (WC.seq (WC.seq (WC.region ?_))))
     refine lr 1 rfl trivial ?_
     refine WL.nil (WQ.thenNormal ?_)
     refine WC.thenCut (X := Bool) (fun gG => ⟨[(7, .v (.bool gG))], []⟩) (fun gG => validateEntry_j2 gG = some r) ?_ ?_
     ·refine WC.block (WC.seq (WC.region ?_))
      refine lr 2 rfl trivial ?_
      refine WL.nil (WQ.thenNormal ?_)
      refine WC.cond rfl (fun hc5 => ?_) (fun hc5 => ?_)
      ·replace h := ite_t hc5 h
       refine WC.region ?_
       refine lr 6 rfl (by exact sideR) ?_
       refine WL.nil (WQ.blockNormal ?_)
       exact WQ.cut [] (bif (decide ((0 : Int) < (e1.Terms.length : Int))) then true else e1.Other) ⟨(by exact ⟨rfl, trivial⟩), (by exact trivial), rfl, rfl, rfl, rfl⟩ h
      ·replace h := ite_f hc5 h
       refine WC.seq (WC.region ?_)
       refine lr 2 rfl trivial ?_
       refine WL.nil (WQ.thenNormal ?_)
       refine WC.cond rfl (fun hc6 => ?_) (fun hc6 => ?_)
       ·replace h := ite_t hc6 h
        refine WC.region ?_
        refine lr 7 rfl (by exact sideR) ?_
        refine WL.nil (WQ.blockNormal ?_)
        exact WQ.cut [] (bif (!(decide ((0 : Int) < (e1.Terms.length : Int)))) then true else e1.Other) ⟨(by exact ⟨rfl, trivial⟩), (by exact trivial), rfl, rfl, rfl, rfl⟩ h
       ·replace h := ite_f hc6 h
        refine WC.skip (WQ.blockNormal ?_)
        exact WQ.cut [] ((decide ((0 : Int) < (e1.Terms.length : Int))) == e1.Other) ⟨(by exact ⟨rfl, trivial⟩), (by exact trivial), rfl, rfl, rfl, rfl⟩ h
     ·intro wrong h
      replace h : validateEntry_j2 wrong = some _ := h
      unfold validateEntry_j2 at h
      show WC _ _ _ ⟨[(7, .v (.bool wrong))], []⟩ _ _
      refine WC.seq (WC.seq (WC.region ?_))
      refine lr 1 rfl trivial ?_
      refine WL.nil (WQ.thenNormal ?_)
      refine WC.cond rfl (fun hc4 => ?_) (fun hc4 => ?_)
      ·replace h := ite_t hc4 h
       refine WC.seq (WC.region ?_)
       refine lr 1 rfl trivial ?_
       refine WL.nil (WQ.thenNormal (WC.ret (WQ.thenRet ?_)))
       cases h
       exact WQ.rets tbOk hR [] (.inl rfl) rfl rfl (Le.refl _) (by exact trivial) rfl rfl rfl rfl
      ·replace h := ite_f hc4 h
       refine WC.skip (WQ.thenNormal (WC.seq (WC.region ?_)))
       refine lr 1 rfl trivial ?_
       refine WL.nil (WQ.thenNormal (WC.ret ?_))
       cases h
       exact WQ.rets tbOk hR [] (.inl rfl) rfl rfl (Le.refl _) (by exact trivial) rfl rfl rfl rfl
theorem validateNote_con {wg : World} (hw : WG wg) {n1 : ApiCodeNote} {r : Int} (h : validateNote n1 = some r) : Con Tryz.prog wg gl 90 [.v (.agg [.str n1.Scope, .sl 1 (n1.Words.map eStr), .str n1.Target])] [] (.v (.int .i64 r)) [] := by
 unfold validateNote at h
 refine con_of_WC (S := slotsOf 0 _) Tryz.func90 rfl Tryz.ntmps90 rfl (fun t x hx => (slotsOf_get hx).2) ?_
 intro F L w ρ0 R hR
 show WC _ _ _ ⟨[(0, .v (.agg [.str n1.Scope, .sl 1 (n1.Words.map eStr), .str n1.Target]))], []⟩ _ _
 refine WC.seq (WC.region ?_)
 refine lr 2 rfl trivial ?_
 refine WL.nil (WQ.thenNormal (WC.seq (WC.seq (WC.region ?_))))
 refine lr 2 rfl trivial ?_
 replace h := bnd h; obtain ⟨v, hvv, h⟩ := h
 refine WL.call0 fn55 rfl rfl rfl rfl (by exact trivial) rfl (nomLevel_con hw hvv) ?_
 refine lr 4 rfl (by exact sideR) ?_
 replace h := bnd h; obtain ⟨v2, hvv2, h⟩ := h
 refine WL.gcall0 fn137 rfl rfl rfl rfl rfl (fun _ => (by exact sideR)) rfl (fun hg => (nomDescribed_con hw (ite_t hg hvv2))) ?_
 refine lr 2 rfl (by exact sideR) ?_
 refine WL.nil (WQ.thenNormal ?_)
 refine WC.cond rfl (fun hc1 => ?_) (fun hc1 => ?_)
 ·replace h := ite_t hc1 h
  refine WC.seq (WC.region ?_)
  refine lr 1 rfl trivial ?_
  refine WL.nil (WQ.thenNormal (WC.ret (WQ.thenRet ?_)))
  cases h
  exact WQ.rets tbOk hR [] (.inl rfl) rfl rfl (Le.refl _) (by exact trivial) rfl rfl rfl rfl
 ·replace h := ite_f hc1 h
  refine WC.skip (WQ.thenNormal (WC.seq (WC.seq (WC.region ?_))))
  refine lr 6 rfl (by exact sideR) ?_
  replace h := bnd h; obtain ⟨v3, hvv3, h⟩ := h
  refine WL.gcall0 fn55 rfl rfl rfl rfl rfl (fun _ => (by exact sideR)) rfl (fun hg => (nomLevel_con hw (ite_t hg hvv3))) ?_
  refine lr 2 rfl (by exact sideR) ?_
  refine WL.nil (WQ.thenNormal ?_)
  refine WC.cond rfl (fun hc2 => ?_) (fun hc2 => ?_)
  ·replace h := ite_t hc2 h
   refine WC.seq (WC.region ?_)
   refine lr 1 rfl trivial ?_
   refine WL.nil (WQ.thenNormal (WC.ret (WQ.thenRet ?_)))
   cases h
   exact WQ.rets tbOk hR [] (.inl rfl) rfl rfl (Le.refl _) (by exact trivial) rfl rfl rfl rfl
  ·replace h := ite_f hc2 h
   refine WC.skip (WQ.thenNormal (WC.seq (WC.region ?_)))
   refine lr 1 rfl trivial ?_
   refine WL.nil (WQ.thenNormal (WC.ret ?_))
   cases h
   exact WQ.rets tbOk hR [] (.inl rfl) rfl rfl (Le.refl _) (by exact trivial) rfl rfl rfl rfl
theorem validateOrder_con {wg : World} (hw : WG wg) {before : ApiCodeEntry} {e1 : ApiCodeEntry} {r : Int} (h : validateOrder before e1 = some r) : Con Tryz.prog wg gl 88 [.v (.agg [.str before.Code, .int .i64 before.From, .int .i64 before.To, .sl 1 (before.Terms.map eLStr), .bool before.Other]), .v (.agg [.str e1.Code, .int .i64 e1.From, .int .i64 e1.To, .sl 1 (e1.Terms.map eLStr), .bool e1.Other])] [] (.v (.int .i64 r)) [] := by
 unfold validateOrder at h
 refine con_of_WC (S := slotsOf 0 _) Tryz.func88 rfl Tryz.ntmps88 rfl (fun t x hx => (slotsOf_get hx).2) ?_
 intro F L w ρ0 R hR
 show WC _ _ _ ⟨[(0, .v (.agg [.str before.Code, .int .i64 before.From, .int .i64 before.To, .sl 1 (before.Terms.map eLStr), .bool before.Other])), (1, .v (.agg [.str e1.Code, .int .i64 e1.From, .int .i64 e1.To, .sl 1 (e1.Terms.map eLStr), .bool e1.Other]))], []⟩ _ _
 refine WC.seq (WC.region ?_)
 refine lr 3 rfl trivial ?_
 refine WL.nil (WQ.thenNormal (WC.seq (WC.seq (WC.order mixed ?_))))
 refine wr 1 rfl trivial ?_
 replace h := bnd h; obtain ⟨v, hvv, h⟩ := h
 refine WR.call0 fn138 rfl rfl rfl rfl (by exact trivial) rfl (versionOf_con hw hvv) ?_
 refine wr 1 rfl trivial ?_
 replace h := bnd h; obtain ⟨v2, hvv2, h⟩ := h
 refine WR.call0 fn138 rfl rfl rfl rfl (by exact trivial) rfl (versionOf_con hw hvv2) ?_
 replace h := bnd h; obtain ⟨v3, hvv3, h⟩ := h
 refine WR.call0 fn139 rfl rfl rfl rfl (by exact trivial) rfl (versionCmp_con hw hvv3) ?_
 refine wr 1 rfl trivial ?_
 refine WR.nil (by kernel_rfl) (WQ.thenNormal ?_)
 refine WC.cond rfl (fun hc1 => ?_) (fun hc1 => ?_)
 ·replace h := ite_t hc1 h
  refine WC.seq (WC.region ?_)
  refine lr 1 rfl trivial ?_
  refine WL.nil (WQ.thenNormal (WC.ret (WQ.thenRet ?_)))
  cases h
  exact WQ.rets tbOk hR [] (.inl rfl) rfl rfl (Le.refl _) (by exact trivial) rfl rfl rfl rfl
 ·replace h := ite_f hc1 h
  refine WC.skip (WQ.thenNormal (WC.seq (WC.seq (WC.region ?_))))
  refine lr 12 rfl (by exact sideR) ?_
  refine WL.nil (WQ.thenNormal ?_)
  refine WC.cond rfl (fun hc2 => ?_) (fun hc2 => ?_)
  ·replace h := ite_t hc2 h
   refine WC.seq (WC.region ?_)
   refine lr 1 rfl trivial ?_
   refine WL.nil (WQ.thenNormal (WC.ret (WQ.thenRet ?_)))
   cases h
   exact WQ.rets tbOk hR [] (.inl rfl) rfl rfl (Le.refl _) (by exact trivial) rfl rfl rfl rfl
  ·replace h := ite_f hc2 h
   refine WC.skip (WQ.thenNormal (WC.seq (WC.region ?_)))
   refine lr 1 rfl trivial ?_
   refine WL.nil (WQ.thenNormal (WC.ret ?_))
   cases h
   exact WQ.rets tbOk hR [] (.inl rfl) rfl rfl (Le.refl _) (by exact trivial) rfl rfl rfl rfl
theorem hasParent_con {wg : World} (hw : WG wg) {b : ApiNomenclature} {e1 : ApiCodeEntry} {r : Bool} (h : hasParent b e1 = some r) : Con Tryz.prog wg gl 89 [.v (.agg [.sl 5 (b.Entries.map eApiCodeEntry), .sl 3 (b.Notes.map eApiCodeNote)]), .v (.agg [.str e1.Code, .int .i64 e1.From, .int .i64 e1.To, .sl 1 (e1.Terms.map eLStr), .bool e1.Other])] [] (.v (.bool r)) [] := by
 unfold hasParent at h
 refine con_of_WC (S := slotsOf 0 _) Tryz.func89 rfl Tryz.ntmps89 rfl (fun t x hx => (slotsOf_get hx).2) ?_
 intro F L w ρ0 R hR
 show WC _ _ _ ⟨[(0, .v (.agg [.sl 5 (b.Entries.map eApiCodeEntry), .sl 3 (b.Notes.map eApiCodeNote)])), (1, .v (.agg [.str e1.Code, .int .i64 e1.From, .int .i64 e1.To, .sl 1 (e1.Terms.map eLStr), .bool e1.Other]))], []⟩ _ _
 refine WC.seq (WC.region ?_)
 refine lr 3 rfl trivial ?_
 refine WL.nil (WQ.thenNormal (WC.seq (WC.seq (WC.region ?_))))
 refine lr 4 rfl trivial ?_
 refine WL.nil (WQ.thenNormal ?_)
 refine WC.cond rfl (fun hc1 => ?_) (fun hc1 => ?_)
 ·replace h := ite_t hc1 h
  refine WC.seq (WC.region ?_)
  refine lr 1 rfl trivial ?_
  refine WL.nil (WQ.thenNormal (WC.ret (WQ.thenRet ?_)))
  cases h
  exact WQ.rets tbOk hR [] (.inl rfl) rfl rfl (Le.refl _) (by exact trivial) rfl rfl rfl rfl
 ·replace h := ite_f hc1 h
  refine WC.skip (WQ.thenNormal (WC.seq (WC.region ?_)))
  obtain ⟨g1, h⟩ := grd h
  refine lr 8 rfl (by repeat' (first | exact trivial | assumption | intro _ | exact g1 (by assumption) | apply And.intro | exact sideT | (refine and_i ?_ ?_))) ?_
  refine WL.nil (WQ.thenNormal (WC.seq (WC.region ?_)))
  refine lr 3 rfl trivial ?_
  refine WL.nil (WQ.thenNormal (WC.seq (WC.seq (WC.region ?_))))
  refine lr 2 rfl trivial ?_
  refine WL.q [] rfl rfl rfl (q_ev tbOk (.v (.int .i64 (b.Entries.length : Int))) rfl (by exact trivial) (by exact lenT)) ?_
  refine lr 1 rfl trivial ?_
  refine WL.nil (WQ.thenNormal ?_)
  refine WC.thenCut (X := Int) (fun gG => ⟨[(6, .v (.int .i64 gG)), (3, .p 3 0)], [(3, .blk 54 [.v (.str e1.Code), .v (.int .i64 e1.From), .v (.int .i64 e1.To), .v (.sl 1 (e1.Terms.map eLStr)), .v (.bool e1.Other)])]⟩) (fun gG => hasParent_j1 e1 gG = some r) ?_ ?_
  ·refine WC.block ?_
   obtain ⟨eQ1, hl1, hk1⟩ := bnd h
   clear h
   refine WC.loop (σ := Int × Int) (τ := (Int)) (fun sS => ⟨[(25, .v (.int .i64 sS.1)), (24, .v (.int .i64 (b.Entries.length : Int))), (23, .v (.sl 5 (b.Entries.map eApiCodeEntry))), (6, .v (.int .i64 sS.2)), (5, .v (.str ((e1.Code.take (IntKind.i64.wrap ((e1.Code.length : Int) - (2 : Int))).toNat).drop (0 : Int).toNat))), (3, .p 3 0)], [(3, .blk 54 [.v (.str e1.Code), .v (.int .i64 e1.From), .v (.int .i64 e1.To), .v (.sl 1 (e1.Terms.map eLStr)), .v (.bool e1.Other)])]⟩) (hasParent_b1 b e1) [] ((0 : Int), e1.From) hl1 ⟨(by exact ⟨rfl, rfl, rfl, rfl, rfl, rfl, trivial⟩), (by exact ⟨rfl, trivial⟩), rfl, rfl, rfl, rfl⟩ ?_
   rintro ⟨t25, day2⟩ m hn1 he1 hx1
   obtain ⟨o1, hf1⟩ := some_of hx1
   have h := hf1
   unfold hasParent_b1 at h
   show WC _ _ _ ⟨[(25, .v (.int .i64 t25)), (24, .v (.int .i64 (b.Entries.length : Int))), (23, .v (.sl 5 (b.Entries.map eApiCodeEntry))), (6, .v (.int .i64 day2)), (5, .v (.str ((e1.Code.take (IntKind.i64.wrap ((e1.Code.length : Int) - (2 : Int))).toNat).drop (0 : Int).toNat))), (3, .p 3 0)], [(3, .blk 54 [.v (.str e1.Code), .v (.int .i64 e1.From), .v (.int .i64 e1.To), .v (.sl 1 (e1.Terms.map eLStr)), .v (.bool e1.Other)])]⟩ _ _
   refine WC.seq (WC.region ?_)
   refine lr 1 rfl trivial ?_
   refine WL.nil (WQ.thenNormal (WC.seq ?_))
   refine WC.cond rfl (fun hc2 => ?_) (fun hc2 => ?_)
   ·replace h := ite_t hc2 h
    refine WC.skip (WQ.thenNormal (WC.seq ?_))
    refine WC.thenCut (X := Int) (fun gG => ⟨[(6, .v (.int .i64 gG)), (25, .v (.int .i64 t25)), (24, .v (.int .i64 (b.Entries.length : Int))), (23, .v (.sl 5 (b.Entries.map eApiCodeEntry))), (5, .v (.str ((e1.Code.take (IntKind.i64.wrap ((e1.Code.length : Int) - (2 : Int))).toNat).drop (0 : Int).toNat))), (3, .p 3 0)], [(3, .blk 54 [.v (.str e1.Code), .v (.int .i64 e1.From), .v (.int .i64 e1.To), .v (.sl 1 (e1.Terms.map eLStr)), .v (.bool e1.Other)])]⟩) (fun gG => hasParent_j2 b e1 t25 gG = some o1) ?_ ?_
    ·refine WC.block (WC.seq (WC.region ?_))
     obtain ⟨g2, h⟩ := grd h
     replace h := bnd h; obtain ⟨x2, hxx2, h⟩ := h
     refine WL.q [] rfl rfl rfl (q_idx tbOk rfl (by exact trivial) g2 (map_get (f := eApiCodeEntry) hxx2)) ?_
     refine lr 3 rfl trivial ?_
     refine WL.nil (WQ.thenNormal (WC.seq (WC.region ?_)))
     refine lr 16 rfl (by exact sideR) ?_
     refine WL.nil (WQ.thenNormal ?_)
     refine WC.cond rfl (fun hc3 => ?_) (fun hc3 => ?_)
     ·replace h := ite_t hc3 h
      refine WC.region ?_
      refine lr 3 rfl trivial ?_
      refine WL.nil (WQ.blockNormal ?_)
      exact WQ.cut [] x2.To ⟨(by exact ⟨rfl, rfl, rfl, rfl, rfl, rfl, trivial⟩), (by exact ⟨rfl, trivial⟩), rfl, rfl, rfl, rfl⟩ h
     ·replace h := ite_f hc3 h
      refine WC.skip (WQ.blockNormal ?_)
      exact WQ.cut [] day2 ⟨(by exact ⟨rfl, rfl, rfl, rfl, rfl, rfl, trivial⟩), (by exact ⟨rfl, trivial⟩), rfl, rfl, rfl, rfl⟩ h
    ·intro day6 h
     replace h : hasParent_j2 b e1 t25 day6 = some _ := h
     unfold hasParent_j2 at h
     show WC _ _ _ ⟨[(6, .v (.int .i64 day6)), (25, .v (.int .i64 t25)), (24, .v (.int .i64 (b.Entries.length : Int))), (23, .v (.sl 5 (b.Entries.map eApiCodeEntry))), (5, .v (.str ((e1.Code.take (IntKind.i64.wrap ((e1.Code.length : Int) - (2 : Int))).toNat).drop (0 : Int).toNat))), (3, .p 3 0)], [(3, .blk 54 [.v (.str e1.Code), .v (.int .i64 e1.From), .v (.int .i64 e1.To), .v (.sl 1 (e1.Terms.map eLStr)), .v (.bool e1.Other)])]⟩ _ _
     refine WC.region ?_
     refine lr 2 rfl trivial ?_
     refine WL.nil ?_
     cases h
     exact WQ.next [] ((IntKind.i64.wrap (t25 + (1 : Int))), day6) ⟨(by exact ⟨rfl, rfl, rfl, rfl, rfl, rfl, trivial⟩), (by exact ⟨rfl, trivial⟩), rfl, rfl, rfl, rfl⟩ (hn1 _ hf1)
   ·replace h := ite_f hc2 h
    refine WC.exit (WQ.thenExit ?_)
    cases h
    have he := he1 _ hf1
    subst he
    replace h := hk1
    try dsimp only at h
    refine WQ.thenExit (WQ.blockExit ?_)
    exact WQ.cut [] day2 ⟨(by exact ⟨rfl, rfl, trivial⟩), (by exact ⟨rfl, trivial⟩), rfl, rfl, rfl, rfl⟩ h
  ·intro day h
   replace h : hasParent_j1 e1 day = some _ := h
   unfold hasParent_j1 at h
   show WC _ _ _ ⟨[(6, .v (.int .i64 day)), (3, .p 3 0)], [(3, .blk 54 [.v (.str e1.Code), .v (.int .i64 e1.From), .v (.int .i64 e1.To), .v (.sl 1 (e1.Terms.map eLStr)), .v (.bool e1.Other)])]⟩ _ _
   refine WC.seq (WC.region ?_)
   refine lr 5 rfl trivial ?_
   refine WL.nil (WQ.thenNormal (WC.ret ?_))
   cases h
   exact WQ.rets tbOk hR [] (.inl rfl) rfl rfl (Le.refl _) (by exact trivial) rfl rfl rfl rfl
theorem nomValidate_con {wg : World} (hw : WG wg) {b : ApiNomenclature} {r : Int} (h : nomValidate b = some r) : Con Tryz.prog wg gl 36 [.v (.agg [.sl 5 (b.Entries.map eApiCodeEntry), .sl 3 (b.Notes.map eApiCodeNote)])] [] (.v (.int .i64 r)) [] := by
 unfold nomValidate at h
 refine con_of_WC (S := slotsOf 0 _) Tryz.func36 rfl Tryz.ntmps36 rfl (fun t x hx => (slotsOf_get hx).2) ?_
 intro F L w ρ0 R hR
 show WC _ _ _ ⟨[(0, .v (.agg [.sl 5 (b.Entries.map eApiCodeEntry), .sl 3 (b.Notes.map eApiCodeNote)]))], []⟩ _ _
 refine WC.seq (WC.region ?_)
 refine lr 2 rfl trivial ?_
 refine WL.nil (WQ.thenNormal (WC.seq (WC.seq (WC.region ?_))))
 refine lr 2 rfl trivial ?_
 refine WL.q [] rfl rfl rfl (q_ev tbOk (.v (.int .i64 (b.Entries.length : Int))) rfl (by exact trivial) (by exact lenT)) ?_
 refine lr 4 rfl (by exact sideR) ?_
 refine WL.gq [] rfl rfl rfl rfl (fun hg => q_ev tbOk (.v (.int .i64 (b.Notes.length : Int))) rfl (by exact sideR) (by exact lenT)) ?_
 refine lr 2 rfl (by exact sideR) ?_
 refine WL.nil (WQ.thenNormal ?_)
 refine WC.cond rfl (fun hc1 => ?_) (fun hc1 => ?_)
 ·replace h := ite_t hc1 h
  refine WC.seq (WC.region ?_)
  refine lr 1 rfl trivial ?_
  refine WL.nil (WQ.thenNormal (WC.ret (WQ.thenRet ?_)))
  cases h
  exact WQ.rets tbOk hR [] (.inl rfl) rfl rfl (Le.refl _) (by exact trivial) rfl rfl rfl rfl
 ·replace h := ite_f hc1 h
  refine WC.skip (WQ.thenNormal (WC.seq (WC.seq (WC.region ?_))))
  refine lr 2 rfl trivial ?_
  refine WL.q [] rfl rfl rfl (q_ev tbOk (.v (.int .i64 (b.Entries.length : Int))) rfl (by exact trivial) (by exact lenT)) ?_
  refine lr 1 rfl trivial ?_
  refine WL.nil (WQ.thenNormal ?_)
  refine WC.thenCut (X := Unit) (fun gG => ⟨[(1, .p 1 0)], [(1, .blk 28 [.v (.sl 5 (b.Entries.map eApiCodeEntry)), .v (.sl 3 (b.Notes.map eApiCodeNote))])]⟩) (fun gG => nomValidate_j1 b = some r) ?_ ?_
  ·refine WC.block ?_
   obtain ⟨eQ3, hl3, hk3⟩ := bnd h
   clear h
   refine WC.loop (σ := Int) (τ := ((Int) ⊕ (Unit))) (fun sS => ⟨[(25, .v (.int .i64 sS)), (24, .v (.int .i64 (b.Entries.length : Int))), (23, .v (.sl 5 (b.Entries.map eApiCodeEntry))), (1, .p 1 0)], [(1, .blk 28 [.v (.sl 5 (b.Entries.map eApiCodeEntry)), .v (.sl 3 (b.Notes.map eApiCodeNote))])]⟩) (nomValidate_b3 b) [] (0 : Int) hl3 ⟨(by exact ⟨rfl, rfl, rfl, rfl, trivial⟩), (by exact ⟨rfl, trivial⟩), rfl, rfl, rfl, rfl⟩ ?_
   intro t25 m hn3 he3 hx3
   obtain ⟨o3, hf3⟩ := some_of hx3
   have h := hf3
   unfold nomValidate_b3 at h
   show WC _ _ _ ⟨[(25, .v (.int .i64 t25)), (24, .v (.int .i64 (b.Entries.length : Int))), (23, .v (.sl 5 (b.Entries.map eApiCodeEntry))), (1, .p 1 0)], [(1, .blk 28 [.v (.sl 5 (b.Entries.map eApiCodeEntry)), .v (.sl 3 (b.Notes.map eApiCodeNote))])]⟩ _ _
   refine WC.seq (WC.region ?_)
   refine lr 1 rfl trivial ?_
   refine WL.nil (WQ.thenNormal (WC.seq ?_))
   refine WC.cond rfl (fun hc6 => ?_) (fun hc6 => ?_)
   ·replace h := ite_t hc6 h
    refine WC.skip (WQ.thenNormal (WC.seq ?_))
    refine WC.thenCut (X := Unit) (fun gG => ⟨[(25, .v (.int .i64 t25)), (24, .v (.int .i64 (b.Entries.length : Int))), (23, .v (.sl 5 (b.Entries.map eApiCodeEntry))), (1, .p 1 0)], [(1, .blk 28 [.v (.sl 5 (b.Entries.map eApiCodeEntry)), .v (.sl 3 (b.Notes.map eApiCodeNote))])]⟩) (fun gG => nomValidate_j4 b t25 = some o3) ?_ ?_
    ·refine WC.block (WC.seq (WC.region ?_))
     refine lr 1 rfl trivial ?_
     obtain ⟨g3, h⟩ := grd h
     replace h := bnd h; obtain ⟨x7, hxx7, h⟩ := h
     refine WL.q [] rfl rfl rfl (q_idx tbOk rfl (by exact trivial) g3 (map_get (f := eApiCodeEntry) hxx7)) ?_
     refine lr 4 rfl trivial ?_
     refine WL.nil (WQ.thenNormal (WC.seq (WC.seq (WC.region ?_))))
     refine lr 1 rfl trivial ?_
     replace h := bnd h; obtain ⟨v7, hvv7, h⟩ := h
     refine WL.call0 fn87 rfl rfl rfl rfl (by exact trivial) rfl (validateEntry_con hw hvv7) ?_
     refine lr 1 rfl trivial ?_
     refine WL.nil (WQ.thenNormal (WC.seq (WC.region ?_)))
     refine lr 2 rfl trivial ?_
     refine WL.nil (WQ.thenNormal ?_)
     refine WC.cond rfl (fun hc7 => ?_) (fun hc7 => ?_)
     ·replace h := ite_t hc7 h
      refine WC.seq (WC.region ?_)
      refine lr 2 rfl trivial ?_
      refine WL.nil (WQ.thenNormal (WC.ret (WQ.thenRet (WQ.blockRet (WQ.thenRet ?_)))))
      cases h
      have he := he3 _ hf3
      subst he
      have h : some v7 = some _ := hk3
      refine WQ.thenRet (WQ.blockRet (WQ.thenRet ?_))
      cases h
      exact WQ.rets tbOk hR [] (.inl rfl) rfl rfl (Le.refl _) (by exact trivial) rfl rfl rfl rfl
     ·replace h := ite_f hc7 h
      refine WC.skip (WQ.thenNormal (WC.seq (WC.seq (WC.region ?_))))
      refine lr 2 rfl trivial ?_
      refine WL.nil (WQ.thenNormal ?_)
      refine WC.cond rfl (fun hc8 => ?_) (fun hc8 => ?_)
      ·replace h := ite_t hc8 h
       refine WC.exit (WQ.thenExit (WQ.blockExit ?_))
       exact WQ.cut [] () ⟨(by exact ⟨rfl, rfl, rfl, rfl, trivial⟩), (by exact ⟨rfl, trivial⟩), rfl, rfl, rfl, rfl⟩ h
      ·replace h := ite_f hc8 h
       refine WC.skip (WQ.thenNormal (WC.seq (WC.order mixed ?_)))
       refine wr 4 rfl trivial ?_
       obtain ⟨g4, h⟩ := grd h
       replace h := bnd h; obtain ⟨x8, hxx8, h⟩ := h
       refine WR.q [] rfl rfl rfl (q_idx tbOk rfl (by exact trivial) g4 (map_get (f := eApiCodeEntry) hxx8)) ?_
       refine wr 2 rfl trivial ?_
       replace h := bnd h; obtain ⟨v8, hvv8, h⟩ := h
       refine WR.call0 fn88 rfl rfl rfl rfl (by exact trivial) rfl (validateOrder_con hw hvv8) ?_
       refine wr 1 rfl trivial ?_
       refine WR.nil (by kernel_rfl) (WQ.thenNormal (WC.seq (WC.region ?_)))
       refine lr 2 rfl trivial ?_
       refine WL.nil (WQ.thenNormal ?_)
       refine WC.cond rfl (fun hc9 => ?_) (fun hc9 => ?_)
       ·replace h := ite_t hc9 h
        refine WC.seq (WC.region ?_)
        refine lr 2 rfl trivial ?_
        refine WL.nil (WQ.thenNormal (WC.ret (WQ.blockRet (WQ.thenRet ?_))))
        cases h
        have he := he3 _ hf3
        subst he
        have h : some v8 = some _ := hk3
        refine WQ.thenRet (WQ.blockRet (WQ.thenRet ?_))
        cases h
        exact WQ.rets tbOk hR [] (.inl rfl) rfl rfl (Le.refl _) (by exact trivial) rfl rfl rfl rfl
       ·replace h := ite_f hc9 h
        refine WC.skip (WQ.blockNormal ?_)
        exact WQ.cut [] () ⟨(by exact ⟨rfl, rfl, rfl, rfl, trivial⟩), (by exact ⟨rfl, trivial⟩), rfl, rfl, rfl, rfl⟩ h
    ·intro _ h
     replace h : nomValidate_j4 b t25 = some _ := h
     unfold nomValidate_j4 at h
     show WC _ _ _ ⟨[(25, .v (.int .i64 t25)), (24, .v (.int .i64 (b.Entries.length : Int))), (23, .v (.sl 5 (b.Entries.map eApiCodeEntry))), (1, .p 1 0)], [(1, .blk 28 [.v (.sl 5 (b.Entries.map eApiCodeEntry)), .v (.sl 3 (b.Notes.map eApiCodeNote))])]⟩ _ _
     refine WC.region ?_
     refine lr 2 rfl trivial ?_
     refine WL.nil ?_
     cases h
     exact WQ.next [] (IntKind.i64.wrap (t25 + (1 : Int))) ⟨(by exact ⟨rfl, rfl, rfl, rfl, trivial⟩), (by exact ⟨rfl, trivial⟩), rfl, rfl, rfl, rfl⟩ (hn3 _ hf3)
   ·replace h := ite_f hc6 h
    refine WC.exit (WQ.thenExit ?_)
    cases h
    have he := he3 _ hf3
    subst he
    replace h := hk3
    try dsimp only at h
    refine WQ.thenExit (WQ.blockExit ?_)
    exact WQ.cut [] () ⟨(by exact ⟨rfl, trivial⟩), (by exact ⟨rfl, trivial⟩), rfl, rfl, rfl, rfl⟩ h
  ·intro _ h
   replace h : nomValidate_j1 b = some _ := h
   unfold nomValidate_j1 at h
   show WC _ _ _ ⟨[(1, .p 1 0)], [(1, .blk 28 [.v (.sl 5 (b.Entries.map eApiCodeEntry)), .v (.sl 3 (b.Notes.map eApiCodeNote))])]⟩ _ _
   refine WC.seq (WC.seq (WC.region ?_))
   refine lr 2 rfl trivial ?_
   refine WL.q [] rfl rfl rfl (q_ev tbOk (.v (.int .i64 (b.Entries.length : Int))) rfl (by exact trivial) (by exact lenT)) ?_
   refine lr 1 rfl trivial ?_
   refine WL.nil (WQ.thenNormal ?_)
   refine WC.thenCut (X := Unit) (fun gG => ⟨[(1, .p 1 0)], [(1, .blk 28 [.v (.sl 5 (b.Entries.map eApiCodeEntry)), .v (.sl 3 (b.Notes.map eApiCodeNote))])]⟩) (fun gG => nomValidate_j2 b = some r) ?_ ?_
   ·refine WC.block ?_
    obtain ⟨eQ2, hl2, hk2⟩ := bnd h
    clear h
    refine WC.loop (σ := Int) (τ := ((Int) ⊕ (Unit))) (fun sS => ⟨[(52, .v (.int .i64 sS)), (51, .v (.int .i64 (b.Entries.length : Int))), (50, .v (.sl 5 (b.Entries.map eApiCodeEntry))), (1, .p 1 0)], [(1, .blk 28 [.v (.sl 5 (b.Entries.map eApiCodeEntry)), .v (.sl 3 (b.Notes.map eApiCodeNote))])]⟩) (nomValidate_b2 b) [] (0 : Int) hl2 ⟨(by exact ⟨rfl, rfl, rfl, rfl, trivial⟩), (by exact ⟨rfl, trivial⟩), rfl, rfl, rfl, rfl⟩ ?_
    intro t52 m hn2 he2 hx2
    obtain ⟨o2, hf2⟩ := some_of hx2
    have h := hf2
    unfold nomValidate_b2 at h
    show WC _ _ _ ⟨[(52, .v (.int .i64 t52)), (51, .v (.int .i64 (b.Entries.length : Int))), (50, .v (.sl 5 (b.Entries.map eApiCodeEntry))), (1, .p 1 0)], [(1, .blk 28 [.v (.sl 5 (b.Entries.map eApiCodeEntry)), .v (.sl 3 (b.Notes.map eApiCodeNote))])]⟩ _ _
    refine WC.seq (WC.region ?_)
    refine lr 1 rfl trivial ?_
    refine WL.nil (WQ.thenNormal (WC.seq ?_))
    refine WC.cond rfl (fun hc4 => ?_) (fun hc4 => ?_)
    ·replace h := ite_t hc4 h
     refine WC.skip (WQ.thenNormal (WC.seq (WC.block (WC.seq (WC.region ?_)))))
     obtain ⟨g2, h⟩ := grd h
     replace h := bnd h; obtain ⟨x4, hxx4, h⟩ := h
     refine WL.q [] rfl rfl rfl (q_idx tbOk rfl (by exact trivial) g2 (map_get (f := eApiCodeEntry) hxx4)) ?_
     refine lr 3 rfl trivial ?_
     refine WL.nil (WQ.thenNormal (WC.seq (WC.region ?_)))
     refine lr 2 rfl trivial ?_
     replace h := bnd h; obtain ⟨v4, hvv4, h⟩ := h
     refine WL.call0 fn89 rfl rfl rfl rfl (by exact trivial) rfl (hasParent_con hw hvv4) ?_
     refine lr 1 rfl trivial ?_
     refine WL.nil (WQ.thenNormal ?_)
     refine WC.cond rfl (fun hc5 => ?_) (fun hc5 => ?_)
     ·replace h := ite_t hc5 h
      refine WC.seq (WC.region ?_)
      refine lr 1 rfl trivial ?_
      refine WL.nil (WQ.thenNormal (WC.ret (WQ.blockRet (WQ.thenRet ?_))))
      cases h
      have he := he2 _ hf2
      subst he
      have h : some (6 : Int) = some _ := hk2
      refine WQ.thenRet (WQ.blockRet (WQ.thenRet ?_))
      cases h
      exact WQ.rets tbOk hR [] (.inl rfl) rfl rfl (Le.refl _) (by exact trivial) rfl rfl rfl rfl
     ·replace h := ite_f hc5 h
      refine WC.skip (WQ.blockNormal (WQ.thenNormal (WC.region ?_)))
      refine lr 2 rfl trivial ?_
      refine WL.nil ?_
      cases h
      exact WQ.next [] (IntKind.i64.wrap (t52 + (1 : Int))) ⟨(by exact ⟨rfl, rfl, rfl, rfl, trivial⟩), (by exact ⟨rfl, trivial⟩), rfl, rfl, rfl, rfl⟩ (hn2 _ hf2)
    ·replace h := ite_f hc4 h
     refine WC.exit (WQ.thenExit ?_)
     cases h
     have he := he2 _ hf2
     subst he
     replace h := hk2
     try dsimp only at h
     refine WQ.thenExit (WQ.blockExit ?_)
     exact WQ.cut [] () ⟨(by exact ⟨rfl, trivial⟩), (by exact ⟨rfl, trivial⟩), rfl, rfl, rfl, rfl⟩ h
   ·intro _ h
    replace h : nomValidate_j2 b = some _ := h
    unfold nomValidate_j2 at h
    show WC _ _ _ ⟨[(1, .p 1 0)], [(1, .blk 28 [.v (.sl 5 (b.Entries.map eApiCodeEntry)), .v (.sl 3 (b.Notes.map eApiCodeNote))])]⟩ _ _
    refine WC.seq (WC.seq (WC.region ?_))
    refine lr 2 rfl trivial ?_
    refine WL.q [] rfl rfl rfl (q_ev tbOk (.v (.int .i64 (b.Notes.length : Int))) rfl (by exact trivial) (by exact lenT)) ?_
    refine lr 1 rfl trivial ?_
    refine WL.nil (WQ.thenNormal ?_)
    refine WC.thenCut (X := Unit) (fun gG => ⟨[], []⟩) (fun gG => nomValidate_j3  = some r) ?_ ?_
    ·refine WC.block ?_
     obtain ⟨eQ1, hl1, hk1⟩ := bnd h
     clear h
     refine WC.loop (σ := Int) (τ := ((Int) ⊕ (Unit))) (fun sS => ⟨[(64, .v (.int .i64 sS)), (63, .v (.int .i64 (b.Notes.length : Int))), (62, .v (.sl 3 (b.Notes.map eApiCodeNote)))], []⟩) (nomValidate_b1 b) [] (0 : Int) hl1 ⟨(by exact ⟨rfl, rfl, rfl, trivial⟩), (by exact trivial), rfl, rfl, rfl, rfl⟩ ?_
     intro t64 m hn1 he1 hx1
     obtain ⟨o1, hf1⟩ := some_of hx1
     have h := hf1
     unfold nomValidate_b1 at h
     show WC _ _ _ ⟨[(64, .v (.int .i64 t64)), (63, .v (.int .i64 (b.Notes.length : Int))), (62, .v (.sl 3 (b.Notes.map eApiCodeNote)))], []⟩ _ _
     refine WC.seq (WC.region ?_)
     refine lr 1 rfl trivial ?_
     refine WL.nil (WQ.thenNormal (WC.seq ?_))
     refine WC.cond rfl (fun hc2 => ?_) (fun hc2 => ?_)
     ·replace h := ite_t hc2 h
      refine WC.skip (WQ.thenNormal (WC.seq (WC.block (WC.seq (WC.region ?_)))))
      obtain ⟨g1, h⟩ := grd h
      replace h := bnd h; obtain ⟨x2, hxx2, h⟩ := h
      refine WL.q [] rfl rfl rfl (q_idx tbOk rfl (by exact trivial) g1 (map_get (f := eApiCodeNote) hxx2)) ?_
      refine lr 3 rfl trivial ?_
      refine WL.nil (WQ.thenNormal (WC.seq (WC.region ?_)))
      refine lr 1 rfl trivial ?_
      replace h := bnd h; obtain ⟨v2, hvv2, h⟩ := h
      refine WL.call0 fn90 rfl rfl rfl rfl (by exact trivial) rfl (validateNote_con hw hvv2) ?_
      refine lr 1 rfl trivial ?_
      refine WL.nil (WQ.thenNormal (WC.seq (WC.region ?_)))
      refine lr 2 rfl trivial ?_
      refine WL.nil (WQ.thenNormal ?_)
      refine WC.cond rfl (fun hc3 => ?_) (fun hc3 => ?_)
      ·replace h := ite_t hc3 h
       refine WC.seq (WC.region ?_)
       refine lr 2 rfl trivial ?_
       refine WL.nil (WQ.thenNormal (WC.ret (WQ.blockRet (WQ.thenRet ?_))))
       cases h
       have he := he1 _ hf1
       subst he
       have h : some v2 = some _ := hk1
       refine WQ.thenRet (WQ.blockRet (WQ.thenRet ?_))
       cases h
       exact WQ.rets tbOk hR [] (.inl rfl) rfl rfl (Le.refl _) (by exact trivial) rfl rfl rfl rfl
      ·replace h := ite_f hc3 h
       refine WC.skip (WQ.blockNormal (WQ.thenNormal (WC.region ?_)))
       refine lr 2 rfl trivial ?_
       refine WL.nil ?_
       cases h
       exact WQ.next [] (IntKind.i64.wrap (t64 + (1 : Int))) ⟨(by exact ⟨rfl, rfl, rfl, trivial⟩), (by exact trivial), rfl, rfl, rfl, rfl⟩ (hn1 _ hf1)
     ·replace h := ite_f hc2 h
      refine WC.exit (WQ.thenExit ?_)
      cases h
      have he := he1 _ hf1
      subst he
      replace h := hk1
      try dsimp only at h
      refine WQ.thenExit (WQ.blockExit ?_)
      exact WQ.cut [] () ⟨(by exact trivial), (by exact trivial), rfl, rfl, rfl, rfl⟩ h
    ·intro _ h
     replace h : nomValidate_j3 = some _ := h
     unfold nomValidate_j3 at h
     show WC _ _ _ ⟨[], []⟩ _ _
     refine WC.seq (WC.region ?_)
     refine lr 1 rfl trivial ?_
     refine WL.nil (WQ.thenNormal (WC.ret ?_))
     cases h
     exact WQ.rets tbOk hR [] (.inl rfl) rfl rfl (Le.refl _) (by exact trivial) rfl rfl rfl rfl
end Go.Proofs.YtfkefolbabniaaaGreatDoor
end

section
set_option linter.unusedVariables false
set_option linter.unusedSimpArgs false
set_option maxHeartbeats 4000000
set_option maxRecDepth 20000
namespace Go.Proofs.YtfkefolbabniaaaGreatDoor
open Go.V Go.C
theorem sIndex_con {wg : World} (hw : WG wg) {s : (List Str)} {v : Str} {r : Int} (h : sIndex s v = some r) : Con Tryz.prog wg gl 156 [.v (.sl 1 (s.map eStr)), .v (.str v)] [] (.v (.int .i64 r)) [] := by
 unfold sIndex at h
 refine con_of_WC (S := slotsOf 0 _) Tryz.func156 rfl Tryz.ntmps156 rfl (fun t x hx => (slotsOf_get hx).2) ?_
 intro F L w ρ0 R hR
 show WC _ _ _ ⟨[(0, .v (.sl 1 (s.map eStr))), (1, .v (.str v))], []⟩ _ _
 refine WC.seq (WC.region ?_)
 refine lr 1 rfl trivial ?_
 refine WL.nil (WQ.thenNormal (WC.seq (WC.seq (WC.region ?_))))
 refine lr 1 rfl trivial ?_
 refine WL.q [] rfl rfl rfl (q_ev tbOk (.v (.int .i64 (s.length : Int))) rfl (by exact trivial) (by exact lenT)) ?_
 refine lr 1 rfl trivial ?_
 refine WL.nil (WQ.thenNormal ?_)
 refine WC.thenCut (X := Unit) (fun gG => ⟨[], []⟩) (fun gG => sIndex_j1  = some r) ?_ ?_
 ·refine WC.block ?_
  obtain ⟨eQ1, hl1, hk1⟩ := bnd h
  clear h
  refine WC.loop (σ := Int) (τ := ((Int) ⊕ (Unit))) (fun sS => ⟨[(8, .v (.int .i64 sS)), (7, .v (.int .i64 (s.length : Int))), (0, .v (.sl 1 (s.map eStr))), (1, .v (.str v))], []⟩) (sIndex_b1 s v) [] (0 : Int) hl1 ⟨(by exact ⟨rfl, rfl, rfl, rfl, trivial⟩), (by exact trivial), rfl, rfl, rfl, rfl⟩ ?_
  intro t8 m hn1 he1 hx1
  obtain ⟨o1, hf1⟩ := some_of hx1
  have h := hf1
  unfold sIndex_b1 at h
  show WC _ _ _ ⟨[(8, .v (.int .i64 t8)), (7, .v (.int .i64 (s.length : Int))), (0, .v (.sl 1 (s.map eStr))), (1, .v (.str v))], []⟩ _ _
  refine WC.seq (WC.region ?_)
  refine lr 1 rfl trivial ?_
  refine WL.nil (WQ.thenNormal (WC.seq ?_))
  refine WC.cond rfl (fun hc1 => ?_) (fun hc1 => ?_)
  ·replace h := ite_t hc1 h
   refine WC.skip (WQ.thenNormal (WC.seq (WC.block (WC.seq (WC.region ?_)))))
   refine lr 2 rfl trivial ?_
   refine WL.nil (WQ.thenNormal (WC.seq (WC.region ?_)))
   refine lr 3 rfl trivial ?_
   obtain ⟨g1, h⟩ := grd h
   replace h := bnd h; obtain ⟨x2, hxx2, h⟩ := h
   refine WL.q [] rfl rfl rfl (q_idx tbOk rfl (by exact trivial) g1 (map_get (f := eStr) hxx2)) ?_
   refine lr 2 rfl trivial ?_
   refine WL.nil (WQ.thenNormal ?_)
   refine WC.cond rfl (fun hc2 => ?_) (fun hc2 => ?_)
   ·replace h := ite_t hc2 h
    refine WC.seq (WC.region ?_)
    refine lr 2 rfl trivial ?_
    refine WL.nil (WQ.thenNormal (WC.ret (WQ.blockRet (WQ.thenRet ?_))))
    cases h
    have he := he1 _ hf1
    subst he
    have h : some t8 = some _ := hk1
    refine WQ.thenRet (WQ.blockRet (WQ.thenRet ?_))
    cases h
    exact WQ.rets tbOk hR [] (.inl rfl) rfl rfl (Le.refl _) (by exact trivial) rfl rfl rfl rfl
   ·replace h := ite_f hc2 h
    refine WC.skip (WQ.blockNormal (WQ.thenNormal (WC.region ?_)))
    refine lr 2 rfl trivial ?_
    refine WL.nil ?_
    cases h
    exact WQ.next [] (IntKind.i64.wrap (t8 + (1 : Int))) ⟨(by exact ⟨rfl, rfl, rfl, rfl, trivial⟩), (by exact trivial), rfl, rfl, rfl, rfl⟩ (hn1 _ hf1)
  ·replace h := ite_f hc1 h
   refine WC.exit (WQ.thenExit ?_)
   cases h
   have he := he1 _ hf1
   subst he
   replace h := hk1
   try dsimp only at h
   refine WQ.thenExit (WQ.blockExit ?_)
   exact WQ.cut [] () ⟨(by exact trivial), (by exact trivial), rfl, rfl, rfl, rfl⟩ h
 ·intro _ h
  replace h : sIndex_j1 = some _ := h
  unfold sIndex_j1 at h
  show WC _ _ _ ⟨[], []⟩ _ _
  refine WC.seq (WC.region ?_)
  refine lr 1 rfl trivial ?_
  refine WL.nil (WQ.thenNormal (WC.ret ?_))
  cases h
  exact WQ.rets tbOk hR [] (.inl rfl) rfl rfl (Le.refl _) (by exact trivial) rfl rfl rfl rfl
theorem sContains_con {wg : World} (hw : WG wg) {s : (List Str)} {v : Str} {r : Bool} (h : sContains s v = some r) : Con Tryz.prog wg gl 113 [.v (.sl 1 (s.map eStr)), .v (.str v)] [] (.v (.bool r)) [] := by
 unfold sContains at h
 refine con_of_WC (S := slotsOf 0 _) Tryz.func113 rfl Tryz.ntmps113 rfl (fun t x hx => (slotsOf_get hx).2) ?_
 intro F L w ρ0 R hR
 show WC _ _ _ ⟨[(0, .v (.sl 1 (s.map eStr))), (1, .v (.str v))], []⟩ _ _
 refine WC.seq (WC.region ?_)
 refine lr 1 rfl trivial ?_
 refine WL.nil (WQ.thenNormal (WC.seq (WC.region ?_)))
 refine lr 2 rfl trivial ?_
 replace h := bnd h; obtain ⟨v2, hvv2, h⟩ := h
 refine WL.call0 fn156 rfl rfl rfl rfl (by exact trivial) rfl (sIndex_con hw hvv2) ?_
 refine lr 2 rfl trivial ?_
 refine WL.nil (WQ.thenNormal (WC.ret ?_))
 cases h
 exact WQ.rets tbOk hR [] (.inl rfl) rfl rfl (Le.refl _) (by exact trivial) rfl rfl rfl rfl
theorem memberIn_con {wg : World} (hw : WG wg) {s : Str} {a1 : (List Str)} {r : Bool} (h : memberIn s a1 = some r) : Con Tryz.prog wg gl 163 [.v (.str s), .p 1 0] [(1, .blk 31 [.v (.sl 1 (a1.map eStr))])] (.v (.bool r)) [(1, .blk 31 [.v (.sl 1 (a1.map eStr))])] := by
 unfold memberIn at h
 refine con_of_WC (S := slotsOf 0 _) Tryz.func163 rfl Tryz.ntmps163 rfl (fun t x hx => (slotsOf_get hx).2) ?_
 intro F L w ρ0 R hR
 show WC _ _ _ ⟨[(0, .v (.str s)), (1, .p 1 0)], [(1, .blk 31 [.v (.sl 1 (a1.map eStr))])]⟩ _ _
 refine WC.seq (WC.region ?_)
 refine lr 1 rfl trivial ?_
 refine WL.nil (WQ.thenNormal (WC.seq (WC.region ?_)))
 refine lr 2 rfl trivial ?_
 replace h := bnd h; obtain ⟨v, hvv, h⟩ := h
 refine WL.call0 fn113 rfl rfl rfl rfl (by exact trivial) rfl (sContains_con hw hvv) ?_
 refine lr 1 rfl trivial ?_
 refine WL.nil (WQ.thenNormal (WC.ret ?_))
 cases h
 exact WQ.rets tbOk hR [] (.inl rfl) rfl rfl (Le.refl _) (by exact ⟨rfl, trivial⟩) rfl rfl rfl rfl
theorem member_con {wg : World} (hw : WG wg) {l : (List Str)} {r : (List Str)} (h : member l = some r) : Con Tryz.prog wg gl 133 [.v (.sl 1 (l.map eStr))] [] (.fn 163 [.p 500 0]) [(500, .blk 31 [.v (.sl 1 (r.map eStr))])] := by
 unfold member at h
 refine con_of_WC (S := slotsOf 0 _) Tryz.func133 rfl Tryz.ntmps133 rfl (fun t x hx => (slotsOf_get hx).2) ?_
 intro F L w ρ0 R hR
 show WC _ _ _ ⟨[(0, .v (.sl 1 (l.map eStr)))], []⟩ _ _
 refine WC.seq (WC.region ?_)
 refine lr 2 rfl trivial ?_
 refine WL.nil (WQ.thenNormal (WC.seq (WC.seq (WC.region ?_))))
 refine lr 1 rfl trivial ?_
 refine WL.q [] rfl rfl rfl (q_ev tbOk (.v (.int .i64 (l.length : Int))) rfl (by exact trivial) (by exact lenT)) ?_
 refine lr 1 rfl trivial ?_
 refine WL.nil (WQ.thenNormal ?_)
 refine WC.cond rfl (fun hc1 => ?_) (fun hc1 => ?_)
 ·replace h := ite_t hc1 h
  refine WC.seq (WC.region ?_)
  refine lr 2 rfl trivial ?_
  refine WL.nil (WQ.thenNormal (WC.ret (WQ.thenRet ?_)))
  cases h
  exact WQ.rets tbOk hR [(500, 1)] (.inl rfl) rfl rfl (Le.refl _) (by exact ⟨rfl, trivial⟩) rfl rfl rfl rfl
 ·replace h := ite_f hc1 h
  refine WC.skip (WQ.thenNormal (WC.seq ?_))
  cases h
theorem subset_con {wg : World} (hw : WG wg) {a : (List Str)} {b : (List Str)} {r : Bool} (h : subset a b = some r) : Con Tryz.prog wg gl 85 [.v (.sl 1 (a.map eStr)), .v (.sl 1 (b.map eStr))] [] (.v (.bool r)) [] := by
 unfold subset at h
 refine con_of_WC (S := slotsOf 0 _) Tryz.func85 rfl Tryz.ntmps85 rfl (fun t x hx => (slotsOf_get hx).2) ?_
 intro F L w ρ0 R hR
 show WC _ _ _ ⟨[(0, .v (.sl 1 (a.map eStr))), (1, .v (.sl 1 (b.map eStr)))], []⟩ _ _
 refine WC.seq (WC.region ?_)
 refine lr 1 rfl trivial ?_
 refine WL.nil (WQ.thenNormal (WC.seq (WC.region ?_)))
 refine lr 1 rfl trivial ?_
 replace h := bnd h; obtain ⟨v, hvv, h⟩ := h
 refine WL.callO [] [(500, 9)] [9] fn133 rfl rfl rfl rfl (by exact trivial) (member_con hw hvv) rfl rfl (by exact trivial) rfl rfl rfl rfl rfl rfl ?_
 refine lr 1 rfl trivial ?_
 refine WL.nil (WQ.thenNormal (WC.seq (WC.seq (WC.region ?_))))
 refine lr 1 rfl trivial ?_
 refine WL.q [] rfl rfl rfl (q_ev tbOk (.v (.int .i64 (a.length : Int))) rfl (by exact trivial) (by exact lenT)) ?_
 refine lr 1 rfl trivial ?_
 refine WL.nil (WQ.thenNormal ?_)
 refine WC.thenCut (X := Unit) (fun gG => ⟨[], []⟩) (fun gG => subset_j1  = some r) ?_ ?_
 ·refine WC.block ?_
  obtain ⟨eQ1, hl1, hk1⟩ := bnd h
  clear h
  refine WC.loop (σ := Int) (τ := ((Bool) ⊕ (Unit))) (fun sS => ⟨[(12, .v (.int .i64 sS)), (11, .v (.int .i64 (a.length : Int))), (10, .v (.sl 1 (a.map eStr))), (5, .fn 163 [.p 9 0])], [(9, .blk 31 [.v (.sl 1 (v.map eStr))])]⟩) (subset_b1 a v) [] (0 : Int) hl1 ⟨(by exact ⟨rfl, rfl, rfl, rfl, trivial⟩), (by exact ⟨rfl, trivial⟩), rfl, rfl, rfl, rfl⟩ ?_
  intro t12 m hn1 he1 hx1
  obtain ⟨o1, hf1⟩ := some_of hx1
  have h := hf1
  unfold subset_b1 at h
  show WC _ _ _ ⟨[(12, .v (.int .i64 t12)), (11, .v (.int .i64 (a.length : Int))), (10, .v (.sl 1 (a.map eStr))), (5, .fn 163 [.p 9 0])], [(9, .blk 31 [.v (.sl 1 (v.map eStr))])]⟩ _ _
  refine WC.seq (WC.region ?_)
  refine lr 1 rfl trivial ?_
  refine WL.nil (WQ.thenNormal (WC.seq ?_))
  refine WC.cond rfl (fun hc1 => ?_) (fun hc1 => ?_)
  ·replace h := ite_t hc1 h
   refine WC.skip (WQ.thenNormal (WC.seq (WC.block (WC.seq (WC.region ?_)))))
   obtain ⟨g1, h⟩ := grd h
   replace h := bnd h; obtain ⟨x2, hxx2, h⟩ := h
   refine WL.q [] rfl rfl rfl (q_idx tbOk rfl (by exact trivial) g1 (map_get (f := eStr) hxx2)) ?_
   refine lr 2 rfl trivial ?_
   refine WL.nil (WQ.thenNormal (WC.seq (WC.region ?_)))
   refine lr 2 rfl trivial ?_
   replace h := bnd h; obtain ⟨v3, hvv3, h⟩ := h
   refine WL.callO [(1, 9)] [(1, 9)] [9] fn163 rfl rfl rfl rfl (by exact trivial) (memberIn_con hw hvv3) rfl rfl (by exact ⟨rfl, trivial⟩) rfl rfl rfl rfl rfl rfl ?_
   refine lr 1 rfl trivial ?_
   refine WL.nil (WQ.thenNormal ?_)
   refine WC.cond rfl (fun hc2 => ?_) (fun hc2 => ?_)
   ·replace h := ite_t hc2 h
    refine WC.seq (WC.region ?_)
    refine lr 1 rfl trivial ?_
    refine WL.nil (WQ.thenNormal (WC.ret (WQ.blockRet (WQ.thenRet ?_))))
    cases h
    have he := he1 _ hf1
    subst he
    have h : some false = some _ := hk1
    refine WQ.thenRet (WQ.blockRet (WQ.thenRet ?_))
    cases h
    exact WQ.rets tbOk hR [] (.inl rfl) rfl rfl (Le.refl _) (by exact trivial) rfl rfl rfl rfl
   ·replace h := ite_f hc2 h
    refine WC.skip (WQ.blockNormal (WQ.thenNormal (WC.region ?_)))
    refine lr 2 rfl trivial ?_
    refine WL.nil ?_
    cases h
    exact WQ.next [] (IntKind.i64.wrap (t12 + (1 : Int))) ⟨(by exact ⟨rfl, rfl, rfl, rfl, trivial⟩), (by exact ⟨rfl, trivial⟩), rfl, rfl, rfl, rfl⟩ (hn1 _ hf1)
  ·replace h := ite_f hc1 h
   refine WC.exit (WQ.thenExit ?_)
   cases h
   have he := he1 _ hf1
   subst he
   replace h := hk1
   try dsimp only at h
   refine WQ.thenExit (WQ.blockExit ?_)
   exact WQ.cut [] () ⟨(by exact trivial), (by exact trivial), rfl, rfl, rfl, rfl⟩ h
 ·intro _ h
  replace h : subset_j1 = some _ := h
  unfold subset_j1 at h
  show WC _ _ _ ⟨[], []⟩ _ _
  refine WC.seq (WC.region ?_)
  refine lr 1 rfl trivial ?_
  refine WL.nil (WQ.thenNormal (WC.ret ?_))
  cases h
  exact WQ.rets tbOk hR [] (.inl rfl) rfl rfl (Le.refl _) (by exact trivial) rfl rfl rfl rfl
theorem cloneWords_con {wg : World} (hw : WG wg) {l : (List (List Str))} {r : (List (List Str))} (h : cloneWords l = some r) : Con Tryz.prog wg gl 132 [.v (.sl 1 (l.map eLStr))] [] (.r 500) [(500, .row 31 1 (r.map eLStr))] := by
 unfold cloneWords at h
 refine con_of_WC (S := slotsOf 0 _) Tryz.func132 rfl Tryz.ntmps132 rfl (fun t x hx => (slotsOf_get hx).2) ?_
 intro F L w ρ0 R hR
 show WC _ _ _ ⟨[(0, .v (.sl 1 (l.map eLStr)))], []⟩ _ _
 refine WC.seq (WC.region ?_)
 refine lr 1 rfl trivial ?_
 refine WL.nil (WQ.thenNormal (WC.seq (WC.region ?_)))
 refine lr 1 rfl trivial ?_
 refine WL.nil (WQ.thenNormal (WC.seq (WC.seq (WC.region ?_))))
 refine lr 1 rfl trivial ?_
 refine WL.q [] rfl rfl rfl (q_ev tbOk (.v (.int .i64 (l.length : Int))) rfl (by exact trivial) (by exact lenT)) ?_
 refine lr 1 rfl trivial ?_
 refine WL.nil (WQ.thenNormal ?_)
 refine WC.thenCut (X := (List (List Str))) (fun gG => ⟨[(3, .r 1003)], [(1003, .row 31 1 (gG.map eLStr))]⟩) (fun gG => cloneWords_j1 gG = some r) ?_ ?_
 ·refine WC.block ?_
  obtain ⟨eQ1, hl1, hk1⟩ := bnd h
  clear h
  refine WC.rowNil 3 1003 31 1 rfl rfl ?_
  refine WC.loop (σ := Int × (List (List Str))) (τ := ((List (List Str)))) (fun sS => ⟨[(8, .v (.int .i64 sS.1)), (7, .v (.int .i64 (l.length : Int))), (6, .v (.sl 1 (l.map eLStr))), (3, .r 1003)], [(1003, .row 31 1 (sS.2.map eLStr))]⟩) (cloneWords_b1 l) [] ((0 : Int), []) hl1 ⟨(by exact ⟨rfl, rfl, rfl, rfl, trivial⟩), (by exact ⟨rfl, trivial⟩), rfl, rfl, rfl, rfl⟩ ?_
  rintro ⟨t82, result2⟩ m hn1 he1 hx1
  obtain ⟨o1, hf1⟩ := some_of hx1
  have h := hf1
  unfold cloneWords_b1 at h
  show WC _ _ _ ⟨[(8, .v (.int .i64 t82)), (7, .v (.int .i64 (l.length : Int))), (6, .v (.sl 1 (l.map eLStr))), (3, .r 1003)], [(1003, .row 31 1 (result2.map eLStr))]⟩ _ _
  refine WC.seq (WC.region ?_)
  refine lr 1 rfl trivial ?_
  refine WL.nil (WQ.thenNormal (WC.seq ?_))
  refine WC.cond rfl (fun hc1 => ?_) (fun hc1 => ?_)
  ·replace h := ite_t hc1 h
   refine WC.skip (WQ.thenNormal (WC.seq (WC.block (WC.seq (WC.region ?_)))))
   obtain ⟨g1, h⟩ := grd h
   replace h := bnd h; obtain ⟨x3, hxx3, h⟩ := h
   refine WL.q [] rfl rfl rfl (q_idx tbOk rfl (by exact trivial) g1 (map_get (f := eLStr) hxx3)) ?_
   refine lr 2 rfl trivial ?_
   refine WL.nil (WQ.thenNormal (WC.region ?_))
   refine lr 2 rfl trivial ?_
   replace h := bnd h; obtain ⟨v3, hvv3, h⟩ := h
   refine WL.call0 fn77 rfl rfl rfl rfl (by exact trivial) rfl (cloneS_con hw hvv3) ?_
   refine lr 1 rfl trivial ?_
   obtain ⟨g2, h⟩ := grd h
   refine WL.append tbOk ((result2 ++ [v3]).map eLStr) [16, 1003] ap52 rfl rfl rfl rfl (fun _ e => by cases e; rfl) (by exact trivial) (map_cells (f := eLStr) (xs := [v3]) fun _ => rfl) (by have := g2; simp only [List.length_map, List.length_nil, List.length_cons] at this ⊢; omega) rfl rfl (by simp only [List.map_append]; try rfl) rfl ?_
   refine lr 1 rfl trivial ?_
   refine WL.nil (WQ.blockNormal (WQ.thenNormal (WC.region ?_)))
   refine lr 2 rfl trivial ?_
   refine WL.nil ?_
   cases h
   exact WQ.next [(1003, 16)] ((IntKind.i64.wrap (t82 + (1 : Int))), (result2 ++ [v3])) ⟨(by exact ⟨rfl, rfl, rfl, rfl, trivial⟩), (by exact ⟨rfl, trivial⟩), rfl, rfl, rfl, rfl⟩ (hn1 _ hf1)
  ·replace h := ite_f hc1 h
   refine WC.exit (WQ.thenExit ?_)
   cases h
   have he := he1 _ hf1
   subst he
   replace h := hk1
   try dsimp only at h
   refine WQ.thenExit (WQ.blockExit ?_)
   exact WQ.cut [] result2 ⟨(by exact ⟨rfl, trivial⟩), (by exact ⟨rfl, trivial⟩), rfl, rfl, rfl, rfl⟩ h
 ·intro result h
  replace h : cloneWords_j1 result = some _ := h
  unfold cloneWords_j1 at h
  show WC _ _ _ ⟨[(3, .r 1003)], [(1003, .row 31 1 (result.map eLStr))]⟩ _ _
  refine WC.seq (WC.region ?_)
  refine lr 2 rfl trivial ?_
  refine WL.nil (WQ.thenNormal (WC.ret ?_))
  cases h
  exact WQ.rets tbOk hR [(500, 1003)] (.inl rfl) rfl rfl (Le.refl _) (by exact ⟨rfl, trivial⟩) rfl rfl rfl rfl
theorem nomAt_con {wg : World} (hw : WG wg) {b : ApiNomenclature} {day : Int} {r : (List ApiCodeEntry)} (h : nomAt b day = some r) : Con Tryz.prog wg gl 95 [.v (.agg [.sl 5 (b.Entries.map eApiCodeEntry), .sl 3 (b.Notes.map eApiCodeNote)]), .v (.int .i64 day)] [] (.v (.sl 5 (r.map eApiCodeEntry))) [] := by
 unfold nomAt at h
 refine con_of_WC (S := slotsOf 0 _) Tryz.func95 rfl Tryz.ntmps95 rfl (fun t x hx => (slotsOf_get hx).2) ?_
 intro F L w ρ0 R hR
 show WC _ _ _ ⟨[(0, .v (.agg [.sl 5 (b.Entries.map eApiCodeEntry), .sl 3 (b.Notes.map eApiCodeNote)])), (1, .v (.int .i64 day))], []⟩ _ _
 refine WC.seq (WC.region ?_)
 refine lr 2 rfl trivial ?_
 refine WL.nil (WQ.thenNormal (WC.seq (WC.region ?_)))
 refine lr 1 rfl trivial ?_
 refine WL.nil (WQ.thenNormal (WC.seq (WC.seq (WC.region ?_))))
 refine lr 2 rfl trivial ?_
 refine WL.q [] rfl rfl rfl (q_ev tbOk (.v (.int .i64 (b.Entries.length : Int))) rfl (by exact trivial) (by exact lenT)) ?_
 refine lr 1 rfl trivial ?_
 refine WL.nil (WQ.thenNormal ?_)
 refine WC.thenCut (X := (List ApiCodeEntry)) (fun gG => ⟨[(5, .r 1005)], [(1005, .row 54 5 (gG.map eApiCodeEntry))]⟩) (fun gG => nomAt_j1 gG = some r) ?_ ?_
 ·refine WC.block ?_
  obtain ⟨eQ1, hl1, hk1⟩ := bnd h
  clear h
  refine WC.rowNil 5 1005 54 5 rfl rfl ?_
  refine WC.loop (σ := Int × (List ApiCodeEntry)) (τ := ((List ApiCodeEntry))) (fun sS => ⟨[(11, .v (.int .i64 sS.1)), (10, .v (.int .i64 (b.Entries.length : Int))), (9, .v (.sl 5 (b.Entries.map eApiCodeEntry))), (5, .r 1005), (1, .v (.int .i64 day))], [(1005, .row 54 5 (sS.2.map eApiCodeEntry))]⟩) (nomAt_b1 b day) [] ((0 : Int), []) hl1 ⟨(by exact ⟨rfl, rfl, rfl, rfl, rfl, trivial⟩), (by exact ⟨rfl, trivial⟩), rfl, rfl, rfl, rfl⟩ ?_
  rintro ⟨t112, l3⟩ m hn1 he1 hx1
  obtain ⟨o1, hf1⟩ := some_of hx1
  have h := hf1
  unfold nomAt_b1 at h
  show WC _ _ _ ⟨[(11, .v (.int .i64 t112)), (10, .v (.int .i64 (b.Entries.length : Int))), (9, .v (.sl 5 (b.Entries.map eApiCodeEntry))), (5, .r 1005), (1, .v (.int .i64 day))], [(1005, .row 54 5 (l3.map eApiCodeEntry))]⟩ _ _
  refine WC.seq (WC.region ?_)
  refine lr 1 rfl trivial ?_
  refine WL.nil (WQ.thenNormal (WC.seq ?_))
  refine WC.cond rfl (fun hc1 => ?_) (fun hc1 => ?_)
  ·replace h := ite_t hc1 h
   refine WC.skip (WQ.thenNormal (WC.seq ?_))
   refine WC.thenCut (X := (List ApiCodeEntry)) (fun gG => ⟨[(5, .r 1005), (11, .v (.int .i64 t112)), (10, .v (.int .i64 (b.Entries.length : Int))), (9, .v (.sl 5 (b.Entries.map eApiCodeEntry))), (1, .v (.int .i64 day))], [(1005, .row 54 5 (gG.map eApiCodeEntry))]⟩) (fun gG => nomAt_j2 b day t112 gG = some o1) ?_ ?_
   ·refine WC.block (WC.seq (WC.region ?_))
    obtain ⟨g1, h⟩ := grd h
    replace h := bnd h; obtain ⟨x3, hxx3, h⟩ := h
    refine WL.q [] rfl rfl rfl (q_idx tbOk rfl (by exact trivial) g1 (map_get (f := eApiCodeEntry) hxx3)) ?_
    refine lr 3 rfl trivial ?_
    refine WL.nil (WQ.thenNormal (WC.seq (WC.region ?_)))
    refine lr 10 rfl (by exact sideR) ?_
    refine WL.nil (WQ.thenNormal ?_)
    refine WC.cond rfl (fun hc2 => ?_) (fun hc2 => ?_)
    ·replace h := ite_t hc2 h
     refine WC.seq (WC.region ?_)
     refine lr 2 rfl trivial ?_
     replace h := bnd h; obtain ⟨v3, hvv3, h⟩ := h
     refine WL.callO [] [(500, 27)] [27] fn132 rfl rfl rfl rfl (by exact trivial) (cloneWords_con hw hvv3) rfl rfl (by exact trivial) rfl rfl rfl rfl rfl rfl ?_
     refine lr 2 rfl trivial ?_
     refine WL.nil (WQ.thenNormal ?_)
     refine WC.publish 27 rfl rfl ?_
     refine WC.region ?_
     refine lr 3 rfl trivial ?_
     obtain ⟨g2, h⟩ := grd h
     refine WL.append tbOk ((l3 ++ [(⟨x3.Code, x3.From, x3.To, v3, x3.Other⟩ : ApiCodeEntry)]).map eApiCodeEntry) [32, 1005] ap25 rfl rfl rfl rfl (fun _ e => by cases e; rfl) (by exact trivial) (map_cells (f := eApiCodeEntry) (xs := [(⟨x3.Code, x3.From, x3.To, v3, x3.Other⟩ : ApiCodeEntry)]) fun _ => rfl) (by have := g2; simp only [List.length_map, List.length_nil, List.length_cons] at this ⊢; omega) rfl rfl (by simp only [List.map_append]; try rfl) rfl ?_
     refine lr 1 rfl trivial ?_
     refine WL.nil (WQ.blockNormal ?_)
     exact WQ.cut [(1005, 32)] (l3 ++ [(⟨x3.Code, x3.From, x3.To, v3, x3.Other⟩ : ApiCodeEntry)]) ⟨(by exact ⟨rfl, rfl, rfl, rfl, rfl, trivial⟩), (by exact ⟨rfl, trivial⟩), rfl, rfl, rfl, rfl⟩ h
    ·replace h := ite_f hc2 h
     refine WC.skip (WQ.blockNormal ?_)
     exact WQ.cut [] l3 ⟨(by exact ⟨rfl, rfl, rfl, rfl, rfl, trivial⟩), (by exact ⟨rfl, trivial⟩), rfl, rfl, rfl, rfl⟩ h
   ·intro l6 h
    replace h : nomAt_j2 b day t112 l6 = some _ := h
    unfold nomAt_j2 at h
    show WC _ _ _ ⟨[(5, .r 1005), (11, .v (.int .i64 t112)), (10, .v (.int .i64 (b.Entries.length : Int))), (9, .v (.sl 5 (b.Entries.map eApiCodeEntry))), (1, .v (.int .i64 day))], [(1005, .row 54 5 (l6.map eApiCodeEntry))]⟩ _ _
    refine WC.region ?_
    refine lr 2 rfl trivial ?_
    refine WL.nil ?_
    cases h
    exact WQ.next [] ((IntKind.i64.wrap (t112 + (1 : Int))), l6) ⟨(by exact ⟨rfl, rfl, rfl, rfl, rfl, trivial⟩), (by exact ⟨rfl, trivial⟩), rfl, rfl, rfl, rfl⟩ (hn1 _ hf1)
  ·replace h := ite_f hc1 h
   refine WC.exit (WQ.thenExit ?_)
   cases h
   have he := he1 _ hf1
   subst he
   replace h := hk1
   try dsimp only at h
   refine WQ.thenExit (WQ.blockExit ?_)
   exact WQ.cut [] l3 ⟨(by exact ⟨rfl, trivial⟩), (by exact ⟨rfl, trivial⟩), rfl, rfl, rfl, rfl⟩ h
 ·intro l h
  replace h : nomAt_j1 l = some _ := h
  unfold nomAt_j1 at h
  show WC _ _ _ ⟨[(5, .r 1005)], [(1005, .row 54 5 (l.map eApiCodeEntry))]⟩ _ _
  refine WC.seq (WC.region ?_)
  refine lr 2 rfl trivial ?_
  refine WL.nil (WQ.thenNormal (WC.ret ?_))
  refine WQ.publish 1005 rfl rfl ?_
  cases h
  exact WQ.rets tbOk hR [] (.inl rfl) rfl rfl (Le.refl _) (by exact trivial) rfl rfl rfl rfl
theorem nomBelow_con {wg : World} (hw : WG wg) {b : ApiNomenclature} {day : Int} {code : Str} {r : (List ApiCodeEntry)} (h : nomBelow b day code = some r) : Con Tryz.prog wg gl 41 [.v (.agg [.sl 5 (b.Entries.map eApiCodeEntry), .sl 3 (b.Notes.map eApiCodeNote)]), .v (.int .i64 day), .v (.str code)] [] (.v (.sl 5 (r.map eApiCodeEntry))) [] := by
 unfold nomBelow at h
 refine con_of_WC (S := slotsOf 0 _) Tryz.func41 rfl Tryz.ntmps41 rfl (fun t x hx => (slotsOf_get hx).2) ?_
 intro F L w ρ0 R hR
 show WC _ _ _ ⟨[(0, .v (.agg [.sl 5 (b.Entries.map eApiCodeEntry), .sl 3 (b.Notes.map eApiCodeNote)])), (1, .v (.int .i64 day)), (2, .v (.str code))], []⟩ _ _
 refine WC.seq (WC.region ?_)
 refine lr 2 rfl trivial ?_
 refine WL.nil (WQ.thenNormal (WC.seq (WC.region ?_)))
 refine lr 1 rfl trivial ?_
 refine WL.nil (WQ.thenNormal (WC.seq (WC.seq (WC.region ?_))))
 refine lr 2 rfl trivial ?_
 replace h := bnd h; obtain ⟨v, hvv, h⟩ := h
 refine WL.call0 fn95 rfl rfl rfl rfl (by exact trivial) rfl (nomAt_con hw hvv) ?_
 refine WL.q [] rfl rfl rfl (q_ev tbOk (.v (.int .i64 (v.length : Int))) rfl (by exact trivial) (by exact lenT)) ?_
 refine lr 1 rfl trivial ?_
 refine WL.nil (WQ.thenNormal ?_)
 refine WC.thenCut (X := (List ApiCodeEntry)) (fun gG => ⟨[(7, .r 1007)], [(1007, .row 54 5 (gG.map eApiCodeEntry))]⟩) (fun gG => nomBelow_j1 gG = some r) ?_ ?_
 ·refine WC.block ?_
  obtain ⟨eQ1, hl1, hk1⟩ := bnd h
  clear h
  refine WC.rowNil 7 1007 54 5 rfl rfl ?_
  refine WC.loop (σ := Int × (List ApiCodeEntry)) (τ := ((List ApiCodeEntry))) (fun sS => ⟨[(15, .v (.int .i64 sS.1)), (14, .v (.int .i64 (v.length : Int))), (13, .v (.sl 5 (v.map eApiCodeEntry))), (7, .r 1007), (2, .v (.str code))], [(1007, .row 54 5 (sS.2.map eApiCodeEntry))]⟩) (nomBelow_b1 code v) [] ((0 : Int), []) hl1 ⟨(by exact ⟨rfl, rfl, rfl, rfl, rfl, trivial⟩), (by exact ⟨rfl, trivial⟩), rfl, rfl, rfl, rfl⟩ ?_
  rintro ⟨t152, l3⟩ m hn1 he1 hx1
  obtain ⟨o1, hf1⟩ := some_of hx1
  have h := hf1
  unfold nomBelow_b1 at h
  show WC _ _ _ ⟨[(15, .v (.int .i64 t152)), (14, .v (.int .i64 (v.length : Int))), (13, .v (.sl 5 (v.map eApiCodeEntry))), (7, .r 1007), (2, .v (.str code))], [(1007, .row 54 5 (l3.map eApiCodeEntry))]⟩ _ _
  refine WC.seq (WC.region ?_)
  refine lr 1 rfl trivial ?_
  refine WL.nil (WQ.thenNormal (WC.seq ?_))
  refine WC.cond rfl (fun hc1 => ?_) (fun hc1 => ?_)
  ·replace h := ite_t hc1 h
   refine WC.skip (WQ.thenNormal (WC.seq ?_))
   refine WC.thenCut (X := (List ApiCodeEntry)) (fun gG => ⟨[(7, .r 1007), (15, .v (.int .i64 t152)), (14, .v (.int .i64 (v.length : Int))), (13, .v (.sl 5 (v.map eApiCodeEntry))), (2, .v (.str code))], [(1007, .row 54 5 (gG.map eApiCodeEntry))]⟩) (fun gG => nomBelow_j2 code v t152 gG = some o1) ?_ ?_
   ·refine WC.block (WC.seq (WC.region ?_))
    obtain ⟨g1, h⟩ := grd h
    replace h := bnd h; obtain ⟨x3, hxx3, h⟩ := h
    refine WL.q [] rfl rfl rfl (q_idx tbOk rfl (by exact trivial) g1 (map_get (f := eApiCodeEntry) hxx3)) ?_
    refine lr 3 rfl trivial ?_
    refine WL.nil (WQ.thenNormal (WC.seq (WC.region ?_)))
    refine lr 4 rfl trivial ?_
    refine WL.nil (WQ.thenNormal (WC.seq (WC.region ?_)))
    obtain ⟨g2, h⟩ := grd h
    refine lr 23 rfl (by repeat' (first | exact trivial | assumption | intro _ | exact g2 (by assumption) | apply And.intro | exact sideT | (refine and_i ?_ ?_))) ?_
    refine WL.nil (WQ.thenNormal ?_)
    refine WC.cond rfl (fun hc2 => ?_) (fun hc2 => ?_)
    ·replace h := ite_t hc2 h
     refine WC.region ?_
     refine lr 3 rfl trivial ?_
     obtain ⟨g3, h⟩ := grd h
     refine WL.append tbOk ((l3 ++ [x3]).map eApiCodeEntry) [48, 1007] ap25 rfl rfl rfl rfl (fun _ e => by cases e; rfl) (by exact trivial) (map_cells (f := eApiCodeEntry) (xs := [x3]) fun _ => rfl) (by have := g3; simp only [List.length_map, List.length_nil, List.length_cons] at this ⊢; omega) rfl rfl (by simp only [List.map_append]; try rfl) rfl ?_
     refine lr 1 rfl trivial ?_
     refine WL.nil (WQ.blockNormal ?_)
     exact WQ.cut [(1007, 48)] (l3 ++ [x3]) ⟨(by exact ⟨rfl, rfl, rfl, rfl, rfl, trivial⟩), (by exact ⟨rfl, trivial⟩), rfl, rfl, rfl, rfl⟩ h
    ·replace h := ite_f hc2 h
     refine WC.skip (WQ.blockNormal ?_)
     exact WQ.cut [] l3 ⟨(by exact ⟨rfl, rfl, rfl, rfl, rfl, trivial⟩), (by exact ⟨rfl, trivial⟩), rfl, rfl, rfl, rfl⟩ h
   ·intro l6 h
    replace h : nomBelow_j2 code v t152 l6 = some _ := h
    unfold nomBelow_j2 at h
    show WC _ _ _ ⟨[(7, .r 1007), (15, .v (.int .i64 t152)), (14, .v (.int .i64 (v.length : Int))), (13, .v (.sl 5 (v.map eApiCodeEntry))), (2, .v (.str code))], [(1007, .row 54 5 (l6.map eApiCodeEntry))]⟩ _ _
    refine WC.region ?_
    refine lr 2 rfl trivial ?_
    refine WL.nil ?_
    cases h
    exact WQ.next [] ((IntKind.i64.wrap (t152 + (1 : Int))), l6) ⟨(by exact ⟨rfl, rfl, rfl, rfl, rfl, trivial⟩), (by exact ⟨rfl, trivial⟩), rfl, rfl, rfl, rfl⟩ (hn1 _ hf1)
  ·replace h := ite_f hc1 h
   refine WC.exit (WQ.thenExit ?_)
   cases h
   have he := he1 _ hf1
   subst he
   replace h := hk1
   try dsimp only at h
   refine WQ.thenExit (WQ.blockExit ?_)
   exact WQ.cut [] l3 ⟨(by exact ⟨rfl, trivial⟩), (by exact ⟨rfl, trivial⟩), rfl, rfl, rfl, rfl⟩ h
 ·intro l h
  replace h : nomBelow_j1 l = some _ := h
  unfold nomBelow_j1 at h
  show WC _ _ _ ⟨[(7, .r 1007)], [(1007, .row 54 5 (l.map eApiCodeEntry))]⟩ _ _
  refine WC.seq (WC.region ?_)
  refine lr 2 rfl trivial ?_
  refine WL.nil (WQ.thenNormal (WC.ret ?_))
  refine WQ.publish 1007 rfl rfl ?_
  cases h
  exact WQ.rets tbOk hR [] (.inl rfl) rfl rfl (Le.refl _) (by exact trivial) rfl rfl rfl rfl
theorem nomExcluded_con {wg : World} (hw : WG wg) {b : ApiNomenclature} {code : Str} {words : (List Str)} {r : Bool} (h : nomExcluded b code words = some r) : Con Tryz.prog wg gl 35 [.v (.agg [.sl 5 (b.Entries.map eApiCodeEntry), .sl 3 (b.Notes.map eApiCodeNote)]), .v (.str code), .v (.sl 1 (words.map eStr))] [] (.v (.bool r)) [] := by
 unfold nomExcluded at h
 refine con_of_WC (S := slotsOf 0 _) Tryz.func35 rfl Tryz.ntmps35 rfl (fun t x hx => (slotsOf_get hx).2) ?_
 intro F L w ρ0 R hR
 show WC _ _ _ ⟨[(0, .v (.agg [.sl 5 (b.Entries.map eApiCodeEntry), .sl 3 (b.Notes.map eApiCodeNote)])), (1, .v (.str code)), (2, .v (.sl 1 (words.map eStr)))], []⟩ _ _
 refine WC.seq (WC.region ?_)
 refine lr 2 rfl trivial ?_
 refine WL.nil (WQ.thenNormal (WC.seq (WC.seq (WC.region ?_))))
 refine lr 2 rfl trivial ?_
 refine WL.q [] rfl rfl rfl (q_ev tbOk (.v (.int .i64 (b.Notes.length : Int))) rfl (by exact trivial) (by exact lenT)) ?_
 refine lr 1 rfl trivial ?_
 refine WL.nil (WQ.thenNormal ?_)
 refine WC.thenCut (X := Unit) (fun gG => ⟨[], []⟩) (fun gG => nomExcluded_j1  = some r) ?_ ?_
 ·refine WC.block ?_
  obtain ⟨eQ1, hl1, hk1⟩ := bnd h
  clear h
  refine WC.loop (σ := Int) (τ := ((Bool) ⊕ (Unit))) (fun sS => ⟨[(12, .v (.int .i64 sS)), (11, .v (.int .i64 (b.Notes.length : Int))), (10, .v (.sl 3 (b.Notes.map eApiCodeNote))), (1, .v (.str code)), (2, .v (.sl 1 (words.map eStr)))], []⟩) (nomExcluded_b1 b code words) [] (0 : Int) hl1 ⟨(by exact ⟨rfl, rfl, rfl, rfl, rfl, trivial⟩), (by exact trivial), rfl, rfl, rfl, rfl⟩ ?_
  intro t12 m hn1 he1 hx1
  obtain ⟨o1, hf1⟩ := some_of hx1
  have h := hf1
  unfold nomExcluded_b1 at h
  show WC _ _ _ ⟨[(12, .v (.int .i64 t12)), (11, .v (.int .i64 (b.Notes.length : Int))), (10, .v (.sl 3 (b.Notes.map eApiCodeNote))), (1, .v (.str code)), (2, .v (.sl 1 (words.map eStr)))], []⟩ _ _
  refine WC.seq (WC.region ?_)
  refine lr 1 rfl trivial ?_
  refine WL.nil (WQ.thenNormal (WC.seq ?_))
  refine WC.cond rfl (fun hc1 => ?_) (fun hc1 => ?_)
  ·replace h := ite_t hc1 h
   refine WC.skip (WQ.thenNormal (WC.seq (WC.block (WC.seq (WC.region ?_)))))
   obtain ⟨g1, h⟩ := grd h
   replace h := bnd h; obtain ⟨x2, hxx2, h⟩ := h
   refine WL.q [] rfl rfl rfl (q_idx tbOk rfl (by exact trivial) g1 (map_get (f := eApiCodeNote) hxx2)) ?_
   refine lr 3 rfl trivial ?_
   refine WL.nil (WQ.thenNormal (WC.seq (WC.region ?_)))
   refine lr 3 rfl trivial ?_
   replace h := bnd h; obtain ⟨v3, hvv3, h⟩ := h
   refine WL.call0 fn86 rfl rfl rfl rfl (by exact trivial) rfl (hasPrefixS_con hw hvv3) ?_
   refine lr 4 rfl (by exact sideR) ?_
   replace h := bnd h; obtain ⟨v4, hvv4, h⟩ := h
   refine WL.gcall0 fn85 rfl rfl rfl rfl rfl (fun _ => (by exact sideR)) rfl (fun hg => (subset_con hw (ite_t hg hvv4))) ?_
   refine lr 1 rfl (by exact sideR) ?_
   refine WL.nil (WQ.thenNormal ?_)
   refine WC.cond rfl (fun hc2 => ?_) (fun hc2 => ?_)
   ·replace h := ite_t hc2 h
    refine WC.seq (WC.region ?_)
    refine lr 1 rfl trivial ?_
    refine WL.nil (WQ.thenNormal (WC.ret (WQ.blockRet (WQ.thenRet ?_))))
    cases h
    have he := he1 _ hf1
    subst he
    have h : some true = some _ := hk1
    refine WQ.thenRet (WQ.blockRet (WQ.thenRet ?_))
    cases h
    exact WQ.rets tbOk hR [] (.inl rfl) rfl rfl (Le.refl _) (by exact trivial) rfl rfl rfl rfl
   ·replace h := ite_f hc2 h
    refine WC.skip (WQ.blockNormal (WQ.thenNormal (WC.region ?_)))
    refine lr 2 rfl trivial ?_
    refine WL.nil ?_
    cases h
    exact WQ.next [] (IntKind.i64.wrap (t12 + (1 : Int))) ⟨(by exact ⟨rfl, rfl, rfl, rfl, rfl, trivial⟩), (by exact trivial), rfl, rfl, rfl, rfl⟩ (hn1 _ hf1)
  ·replace h := ite_f hc1 h
   refine WC.exit (WQ.thenExit ?_)
   cases h
   have he := he1 _ hf1
   subst he
   replace h := hk1
   try dsimp only at h
   refine WQ.thenExit (WQ.blockExit ?_)
   exact WQ.cut [] () ⟨(by exact trivial), (by exact trivial), rfl, rfl, rfl, rfl⟩ h
 ·intro _ h
  replace h : nomExcluded_j1 = some _ := h
  unfold nomExcluded_j1 at h
  show WC _ _ _ ⟨[], []⟩ _ _
  refine WC.seq (WC.region ?_)
  refine lr 1 rfl trivial ?_
  refine WL.nil (WQ.thenNormal (WC.ret ?_))
  cases h
  exact WQ.rets tbOk hR [] (.inl rfl) rfl rfl (Le.refl _) (by exact trivial) rfl rfl rfl rfl
theorem nomAlts_con {wg : World} (hw : WG wg) {b : ApiNomenclature} {e1 : ApiCodeEntry} {r : (List (List Str))} (h : nomAlts b e1 = some r) : Con Tryz.prog wg gl 78 [.v (.agg [.sl 5 (b.Entries.map eApiCodeEntry), .sl 3 (b.Notes.map eApiCodeNote)]), .v (.agg [.str e1.Code, .int .i64 e1.From, .int .i64 e1.To, .sl 1 (e1.Terms.map eLStr), .bool e1.Other])] [] (.v (.sl 1 (r.map eLStr))) [] := by
 unfold nomAlts at h
 refine con_of_WC (S := slotsOf 0 _) Tryz.func78 rfl Tryz.ntmps78 rfl (fun t x hx => (slotsOf_get hx).2) ?_
 intro F L w ρ0 R hR
 show WC _ _ _ ⟨[(0, .v (.agg [.sl 5 (b.Entries.map eApiCodeEntry), .sl 3 (b.Notes.map eApiCodeNote)])), (1, .v (.agg [.str e1.Code, .int .i64 e1.From, .int .i64 e1.To, .sl 1 (e1.Terms.map eLStr), .bool e1.Other]))], []⟩ _ _
 refine WC.seq (WC.region ?_)
 refine lr 3 rfl trivial ?_
 refine WL.nil (WQ.thenNormal (WC.seq (WC.region ?_)))
 refine lr 2 rfl trivial ?_
 replace h := bnd h; obtain ⟨v, hvv, h⟩ := h
 refine WL.callO [] [(500, 10)] [10] fn132 rfl rfl rfl rfl (by exact trivial) (cloneWords_con hw hvv) rfl rfl (by exact trivial) rfl rfl rfl rfl rfl rfl ?_
 refine lr 1 rfl trivial ?_
 refine WL.nil (WQ.thenNormal (WC.seq (WC.seq (WC.region ?_))))
 refine lr 2 rfl trivial ?_
 refine WL.q [] rfl rfl rfl (q_ev tbOk (.v (.int .i64 (b.Notes.length : Int))) rfl (by exact trivial) (by exact lenT)) ?_
 refine lr 1 rfl trivial ?_
 refine WL.nil (WQ.thenNormal ?_)
 refine WC.thenCut (X := (List (List Str))) (fun gG => ⟨[(5, .r 1005)], [(1005, .row 31 1 (gG.map eLStr))]⟩) (fun gG => nomAlts_j1 gG = some r) ?_ ?_
 ·refine WC.block ?_
  obtain ⟨eQ1, hl1, hk1⟩ := bnd h
  clear h
  refine WC.loop (σ := Int × (List (List Str))) (τ := ((List (List Str)))) (fun sS => ⟨[(14, .v (.int .i64 sS.1)), (13, .v (.int .i64 (b.Notes.length : Int))), (12, .v (.sl 3 (b.Notes.map eApiCodeNote))), (5, .r 1005), (3, .p 3 0)], [(1005, .row 31 1 (sS.2.map eLStr)), (3, .blk 54 [.v (.str e1.Code), .v (.int .i64 e1.From), .v (.int .i64 e1.To), .v (.sl 1 (e1.Terms.map eLStr)), .v (.bool e1.Other)])]⟩) (nomAlts_b1 b e1) [(1005, 10)] ((0 : Int), v) hl1 ⟨(by exact ⟨rfl, rfl, rfl, rfl, rfl, trivial⟩), (by exact ⟨rfl, rfl, trivial⟩), rfl, rfl, rfl, rfl⟩ ?_
  rintro ⟨t14, l2⟩ m hn1 he1 hx1
  obtain ⟨o1, hf1⟩ := some_of hx1
  have h := hf1
  unfold nomAlts_b1 at h
  show WC _ _ _ ⟨[(14, .v (.int .i64 t14)), (13, .v (.int .i64 (b.Notes.length : Int))), (12, .v (.sl 3 (b.Notes.map eApiCodeNote))), (5, .r 1005), (3, .p 3 0)], [(1005, .row 31 1 (l2.map eLStr)), (3, .blk 54 [.v (.str e1.Code), .v (.int .i64 e1.From), .v (.int .i64 e1.To), .v (.sl 1 (e1.Terms.map eLStr)), .v (.bool e1.Other)])]⟩ _ _
  refine WC.seq (WC.region ?_)
  refine lr 1 rfl trivial ?_
  refine WL.nil (WQ.thenNormal (WC.seq ?_))
  refine WC.cond rfl (fun hc1 => ?_) (fun hc1 => ?_)
  ·replace h := ite_t hc1 h
   refine WC.skip (WQ.thenNormal (WC.seq ?_))
   refine WC.thenCut (X := (List (List Str))) (fun gG => ⟨[(5, .r 1005), (14, .v (.int .i64 t14)), (13, .v (.int .i64 (b.Notes.length : Int))), (12, .v (.sl 3 (b.Notes.map eApiCodeNote))), (3, .p 3 0)], [(1005, .row 31 1 (gG.map eLStr)), (3, .blk 54 [.v (.str e1.Code), .v (.int .i64 e1.From), .v (.int .i64 e1.To), .v (.sl 1 (e1.Terms.map eLStr)), .v (.bool e1.Other)])]⟩) (fun gG => nomAlts_j2 b e1 t14 gG = some o1) ?_ ?_
   ·refine WC.block (WC.seq (WC.region ?_))
    obtain ⟨g1, h⟩ := grd h
    replace h := bnd h; obtain ⟨x2, hxx2, h⟩ := h
    refine WL.q [] rfl rfl rfl (q_idx tbOk rfl (by exact trivial) g1 (map_get (f := eApiCodeNote) hxx2)) ?_
    refine lr 3 rfl trivial ?_
    refine WL.nil (WQ.thenNormal (WC.seq (WC.region ?_)))
    refine lr 5 rfl trivial ?_
    refine WL.nil (WQ.thenNormal ?_)
    refine WC.cond rfl (fun hc2 => ?_) (fun hc2 => ?_)
    ·replace h := ite_t hc2 h
     refine WC.region ?_
     refine lr 3 rfl trivial ?_
     replace h := bnd h; obtain ⟨v3, hvv3, h⟩ := h
     refine WL.call0 fn77 rfl rfl rfl rfl (by exact trivial) rfl (cloneS_con hw hvv3) ?_
     refine lr 1 rfl trivial ?_
     obtain ⟨g2, h⟩ := grd h
     refine WL.append tbOk ((l2 ++ [v3]).map eLStr) [28, 1005] ap52 rfl rfl rfl rfl (fun _ e => by cases e; rfl) (by exact trivial) (map_cells (f := eLStr) (xs := [v3]) fun _ => rfl) (by have := g2; simp only [List.length_map, List.length_nil, List.length_cons] at this ⊢; omega) rfl rfl (by simp only [List.map_append]; try rfl) rfl ?_
     refine lr 1 rfl trivial ?_
     refine WL.nil (WQ.blockNormal ?_)
     exact WQ.cut [(1005, 28)] (l2 ++ [v3]) ⟨(by exact ⟨rfl, rfl, rfl, rfl, rfl, trivial⟩), (by exact ⟨rfl, rfl, trivial⟩), rfl, rfl, rfl, rfl⟩ h
    ·replace h := ite_f hc2 h
     refine WC.skip (WQ.blockNormal ?_)
     exact WQ.cut [] l2 ⟨(by exact ⟨rfl, rfl, rfl, rfl, rfl, trivial⟩), (by exact ⟨rfl, rfl, trivial⟩), rfl, rfl, rfl, rfl⟩ h
   ·intro l6 h
    replace h : nomAlts_j2 b e1 t14 l6 = some _ := h
    unfold nomAlts_j2 at h
    show WC _ _ _ ⟨[(5, .r 1005), (14, .v (.int .i64 t14)), (13, .v (.int .i64 (b.Notes.length : Int))), (12, .v (.sl 3 (b.Notes.map eApiCodeNote))), (3, .p 3 0)], [(1005, .row 31 1 (l6.map eLStr)), (3, .blk 54 [.v (.str e1.Code), .v (.int .i64 e1.From), .v (.int .i64 e1.To), .v (.sl 1 (e1.Terms.map eLStr)), .v (.bool e1.Other)])]⟩ _ _
    refine WC.region ?_
    refine lr 2 rfl trivial ?_
    refine WL.nil ?_
    cases h
    exact WQ.next [] ((IntKind.i64.wrap (t14 + (1 : Int))), l6) ⟨(by exact ⟨rfl, rfl, rfl, rfl, rfl, trivial⟩), (by exact ⟨rfl, rfl, trivial⟩), rfl, rfl, rfl, rfl⟩ (hn1 _ hf1)
  ·replace h := ite_f hc1 h
   refine WC.exit (WQ.thenExit ?_)
   cases h
   have he := he1 _ hf1
   subst he
   replace h := hk1
   try dsimp only at h
   refine WQ.thenExit (WQ.blockExit ?_)
   exact WQ.cut [] l2 ⟨(by exact ⟨rfl, trivial⟩), (by exact ⟨rfl, trivial⟩), rfl, rfl, rfl, rfl⟩ h
 ·intro l h
  replace h : nomAlts_j1 l = some _ := h
  unfold nomAlts_j1 at h
  show WC _ _ _ ⟨[(5, .r 1005)], [(1005, .row 31 1 (l.map eLStr))]⟩ _ _
  refine WC.seq (WC.region ?_)
  refine lr 2 rfl trivial ?_
  refine WL.nil (WQ.thenNormal (WC.ret ?_))
  refine WQ.publish 1005 rfl rfl ?_
  cases h
  exact WQ.rets tbOk hR [] (.inl rfl) rfl rfl (Le.refl _) (by exact trivial) rfl rfl rfl rfl
theorem nomScore_con {wg : World} (hw : WG wg) {b : ApiNomenclature} {e1 : ApiCodeEntry} {words : (List Str)} {r : Int} (h : nomScore b e1 words = some r) : Con Tryz.prog wg gl 34 [.v (.agg [.sl 5 (b.Entries.map eApiCodeEntry), .sl 3 (b.Notes.map eApiCodeNote)]), .v (.agg [.str e1.Code, .int .i64 e1.From, .int .i64 e1.To, .sl 1 (e1.Terms.map eLStr), .bool e1.Other]), .v (.sl 1 (words.map eStr))] [] (.v (.int .i64 r)) [] := by
 unfold nomScore at h
 refine con_of_WC (S := slotsOf 0 _) Tryz.func34 rfl Tryz.ntmps34 rfl (fun t x hx => (slotsOf_get hx).2) ?_
 intro F L w ρ0 R hR
 show WC _ _ _ ⟨[(0, .v (.agg [.sl 5 (b.Entries.map eApiCodeEntry), .sl 3 (b.Notes.map eApiCodeNote)])), (1, .v (.agg [.str e1.Code, .int .i64 e1.From, .int .i64 e1.To, .sl 1 (e1.Terms.map eLStr), .bool e1.Other])), (2, .v (.sl 1 (words.map eStr)))], []⟩ _ _
 refine WC.seq (WC.region ?_)
 refine lr 3 rfl trivial ?_
 refine WL.nil (WQ.thenNormal (WC.seq (WC.seq (WC.region ?_))))
 refine lr 4 rfl trivial ?_
 replace h := bnd h; obtain ⟨v, hvv, h⟩ := h
 refine WL.call0 fn35 rfl rfl rfl rfl (by exact trivial) rfl (nomExcluded_con hw hvv) ?_
 refine WL.nil (WQ.thenNormal ?_)
 refine WC.cond rfl (fun hc1 => ?_) (fun hc1 => ?_)
 ·replace h := ite_t hc1 h
  refine WC.seq (WC.region ?_)
  refine lr 1 rfl trivial ?_
  refine WL.nil (WQ.thenNormal (WC.ret (WQ.thenRet ?_)))
  cases h
  exact WQ.rets tbOk hR [] (.inl rfl) rfl rfl (Le.refl _) (by exact trivial) rfl rfl rfl rfl
 ·replace h := ite_f hc1 h
  refine WC.skip (WQ.thenNormal (WC.seq (WC.region ?_)))
  refine lr 1 rfl trivial ?_
  refine WL.nil (WQ.thenNormal (WC.seq (WC.seq (WC.region ?_))))
  refine lr 2 rfl trivial ?_
  replace h := bnd h; obtain ⟨v2, hvv2, h⟩ := h
  refine WL.call0 fn78 rfl rfl rfl rfl (by exact trivial) rfl (nomAlts_con hw hvv2) ?_
  refine WL.q [] rfl rfl rfl (q_ev tbOk (.v (.int .i64 (v2.length : Int))) rfl (by exact trivial) (by exact lenT)) ?_
  refine lr 1 rfl trivial ?_
  refine WL.nil (WQ.thenNormal ?_)
  refine WC.thenCut (X := Int) (fun gG => ⟨[(7, .v (.int .i64 gG))], []⟩) (fun gG => nomScore_j1 gG = some r) ?_ ?_
  ·refine WC.block ?_
   obtain ⟨eQ1, hl1, hk1⟩ := bnd h
   clear h
   refine WC.loop (σ := Int × Int) (τ := (Int)) (fun sS => ⟨[(19, .v (.int .i64 sS.1)), (18, .v (.int .i64 (v2.length : Int))), (17, .v (.sl 1 (v2.map eLStr))), (7, .v (.int .i64 sS.2)), (2, .v (.sl 1 (words.map eStr)))], []⟩) (nomScore_b1 words v2) [] ((0 : Int), (0 : Int)) hl1 ⟨(by exact ⟨rfl, rfl, rfl, rfl, rfl, trivial⟩), (by exact trivial), rfl, rfl, rfl, rfl⟩ ?_
   rintro ⟨t19, score2⟩ m hn1 he1 hx1
   obtain ⟨o1, hf1⟩ := some_of hx1
   have h := hf1
   unfold nomScore_b1 at h
   show WC _ _ _ ⟨[(19, .v (.int .i64 t19)), (18, .v (.int .i64 (v2.length : Int))), (17, .v (.sl 1 (v2.map eLStr))), (7, .v (.int .i64 score2)), (2, .v (.sl 1 (words.map eStr)))], []⟩ _ _
   refine WC.seq (WC.region ?_)
   refine lr 1 rfl trivial ?_
   refine WL.nil (WQ.thenNormal (WC.seq ?_))
   refine WC.cond rfl (fun hc2 => ?_) (fun hc2 => ?_)
   ·replace h := ite_t hc2 h
    refine WC.skip (WQ.thenNormal (WC.seq ?_))
    refine WC.thenCut (X := Int) (fun gG => ⟨[(7, .v (.int .i64 gG)), (19, .v (.int .i64 t19)), (18, .v (.int .i64 (v2.length : Int))), (17, .v (.sl 1 (v2.map eLStr))), (2, .v (.sl 1 (words.map eStr)))], []⟩) (fun gG => nomScore_j2 words v2 t19 gG = some o1) ?_ ?_
    ·refine WC.block (WC.seq (WC.region ?_))
     obtain ⟨g1, h⟩ := grd h
     replace h := bnd h; obtain ⟨x2, hxx2, h⟩ := h
     refine WL.q [] rfl rfl rfl (q_idx tbOk rfl (by exact trivial) g1 (map_get (f := eLStr) hxx2)) ?_
     refine lr 2 rfl trivial ?_
     refine WL.nil (WQ.thenNormal (WC.seq (WC.region ?_)))
     refine lr 1 rfl trivial ?_
     refine WL.q [] rfl rfl rfl (q_ev tbOk (.v (.int .i64 (x2.length : Int))) rfl (by exact trivial) (by exact lenT)) ?_
     refine lr 5 rfl (by exact sideR) ?_
     replace h := bnd h; obtain ⟨v4, hvv4, h⟩ := h
     refine WL.gcall0 fn85 rfl rfl rfl rfl rfl (fun _ => (by exact sideR)) rfl (fun hg => (subset_con hw (ite_t hg hvv4))) ?_
     refine lr 1 rfl (by exact sideR) ?_
     refine WL.nil (WQ.thenNormal ?_)
     refine WC.cond rfl (fun hc3 => ?_) (fun hc3 => ?_)
     ·replace h := ite_t hc3 h
      refine WC.region ?_
      refine lr 1 rfl trivial ?_
      refine WL.q [] rfl rfl rfl (q_ev tbOk (.v (.int .i64 (x2.length : Int))) rfl (by exact trivial) (by exact lenT)) ?_
      refine lr 1 rfl trivial ?_
      refine WL.nil (WQ.blockNormal ?_)
      exact WQ.cut [] (x2.length : Int) ⟨(by exact ⟨rfl, rfl, rfl, rfl, rfl, trivial⟩), (by exact trivial), rfl, rfl, rfl, rfl⟩ h
     ·replace h := ite_f hc3 h
      refine WC.skip (WQ.blockNormal ?_)
      exact WQ.cut [] score2 ⟨(by exact ⟨rfl, rfl, rfl, rfl, rfl, trivial⟩), (by exact trivial), rfl, rfl, rfl, rfl⟩ h
    ·intro score6 h
     replace h : nomScore_j2 words v2 t19 score6 = some _ := h
     unfold nomScore_j2 at h
     show WC _ _ _ ⟨[(7, .v (.int .i64 score6)), (19, .v (.int .i64 t19)), (18, .v (.int .i64 (v2.length : Int))), (17, .v (.sl 1 (v2.map eLStr))), (2, .v (.sl 1 (words.map eStr)))], []⟩ _ _
     refine WC.region ?_
     refine lr 2 rfl trivial ?_
     refine WL.nil ?_
     cases h
     exact WQ.next [] ((IntKind.i64.wrap (t19 + (1 : Int))), score6) ⟨(by exact ⟨rfl, rfl, rfl, rfl, rfl, trivial⟩), (by exact trivial), rfl, rfl, rfl, rfl⟩ (hn1 _ hf1)
   ·replace h := ite_f hc2 h
    refine WC.exit (WQ.thenExit ?_)
    cases h
    have he := he1 _ hf1
    subst he
    replace h := hk1
    try dsimp only at h
    refine WQ.thenExit (WQ.blockExit ?_)
    exact WQ.cut [] score2 ⟨(by exact ⟨rfl, trivial⟩), (by exact trivial), rfl, rfl, rfl, rfl⟩ h
  ·intro score h
   replace h : nomScore_j1 score = some _ := h
   unfold nomScore_j1 at h
   show WC _ _ _ ⟨[(7, .v (.int .i64 score))], []⟩ _ _
   refine WC.seq (WC.region ?_)
   refine lr 2 rfl trivial ?_
   refine WL.nil (WQ.thenNormal (WC.ret ?_))
   cases h
   exact WQ.rets tbOk hR [] (.inl rfl) rfl rfl (Le.refl _) (by exact trivial) rfl rfl rfl rfl
end Go.Proofs.YtfkefolbabniaaaGreatDoor
end

section
set_option linter.unusedVariables false
set_option linter.unusedSimpArgs false
set_option maxHeartbeats 4000000
set_option maxRecDepth 20000
namespace Go.Proofs.YtfkefolbabniaaaGreatDoor
open Go.V Go.C
theorem refHas_con {wg : World} (hw : WG wg) {l : (List Str)} {s : Str} {r : Bool} (h : refHas l s = some r) : Con Tryz.prog wg gl 40 [.v (.sl 1 (l.map eStr)), .v (.str s)] [] (.v (.bool r)) [] := by
 unfold refHas at h
 refine con_of_WC (S := slotsOf 0 _) Tryz.func40 rfl Tryz.ntmps40 rfl (fun t x hx => (slotsOf_get hx).2) ?_
 intro F L w ρ0 R hR
 show WC _ _ _ ⟨[(0, .v (.sl 1 (l.map eStr))), (1, .v (.str s))], []⟩ _ _
 refine WC.seq (WC.region ?_)
 refine lr 1 rfl trivial ?_
 refine WL.nil (WQ.thenNormal (WC.seq (WC.seq (WC.region ?_))))
 refine lr 1 rfl trivial ?_
 refine WL.nil (WQ.thenNormal ?_)
 refine WC.thenCut (X := Unit) (fun gG => ⟨[], []⟩) (fun gG => refHas_j1  = some r) ?_ ?_
 ·refine WC.block ?_
  obtain ⟨eQ1, hl1, hk1⟩ := bnd h
  clear h
  refine WC.loop (σ := Int) (τ := ((Bool) ⊕ (Unit))) (fun sS => ⟨[(5, .v (.int .i64 sS)), (0, .v (.sl 1 (l.map eStr))), (1, .v (.str s))], []⟩) (refHas_b1 l s) [] (0 : Int) hl1 ⟨(by exact ⟨rfl, rfl, rfl, trivial⟩), (by exact trivial), rfl, rfl, rfl, rfl⟩ ?_
  intro i m hn1 he1 hx1
  obtain ⟨o1, hf1⟩ := some_of hx1
  have h := hf1
  unfold refHas_b1 at h
  show WC _ _ _ ⟨[(5, .v (.int .i64 i)), (0, .v (.sl 1 (l.map eStr))), (1, .v (.str s))], []⟩ _ _
  refine WC.seq (WC.seq (WC.region ?_))
  refine lr 2 rfl trivial ?_
  refine WL.q [] rfl rfl rfl (q_ev tbOk (.v (.int .i64 (l.length : Int))) rfl (by exact trivial) (by exact lenT)) ?_
  refine lr 1 rfl trivial ?_
  refine WL.nil (WQ.thenNormal ?_)
  refine WC.cond rfl (fun hc1 => ?_) (fun hc1 => ?_)
  ·replace h := ite_t hc1 h
   refine WC.skip (WQ.thenNormal (WC.seq (WC.block (WC.seq (WC.region ?_)))))
   refine lr 2 rfl trivial ?_
   obtain ⟨g1, h⟩ := grd h
   replace h := bnd h; obtain ⟨x2, hxx2, h⟩ := h
   refine WL.q [] rfl rfl rfl (q_idx tbOk rfl (by exact trivial) g1 (map_get (f := eStr) hxx2)) ?_
   refine lr 3 rfl trivial ?_
   refine WL.nil (WQ.thenNormal ?_)
   refine WC.cond rfl (fun hc2 => ?_) (fun hc2 => ?_)
   ·replace h := ite_t hc2 h
    refine WC.seq (WC.region ?_)
    refine lr 1 rfl trivial ?_
    refine WL.nil (WQ.thenNormal (WC.ret (WQ.blockRet (WQ.thenRet ?_))))
    cases h
    have he := he1 _ hf1
    subst he
    have h : some true = some _ := hk1
    refine WQ.thenRet (WQ.blockRet (WQ.thenRet ?_))
    cases h
    exact WQ.rets tbOk hR [] (.inl rfl) rfl rfl (Le.refl _) (by exact trivial) rfl rfl rfl rfl
   ·replace h := ite_f hc2 h
    refine WC.skip (WQ.blockNormal (WQ.thenNormal (WC.region ?_)))
    refine lr 3 rfl trivial ?_
    refine WL.nil ?_
    cases h
    exact WQ.next [] (IntKind.i64.wrap (i + (1 : Int))) ⟨(by exact ⟨rfl, rfl, rfl, trivial⟩), (by exact trivial), rfl, rfl, rfl, rfl⟩ (hn1 _ hf1)
  ·replace h := ite_f hc1 h
   refine WC.exit (WQ.thenExit ?_)
   cases h
   have he := he1 _ hf1
   subst he
   replace h := hk1
   try dsimp only at h
   refine WQ.thenExit (WQ.blockExit ?_)
   exact WQ.cut [] () ⟨(by exact trivial), (by exact trivial), rfl, rfl, rfl, rfl⟩ h
 ·intro _ h
  replace h : refHas_j1 = some _ := h
  unfold refHas_j1 at h
  show WC _ _ _ ⟨[], []⟩ _ _
  refine WC.seq (WC.region ?_)
  refine lr 1 rfl trivial ?_
  refine WL.nil (WQ.thenNormal (WC.ret ?_))
  cases h
  exact WQ.rets tbOk hR [] (.inl rfl) rfl rfl (Le.refl _) (by exact trivial) rfl rfl rfl rfl
theorem refSubset_con {wg : World} (hw : WG wg) {a : (List Str)} {b : (List Str)} {r : Bool} (h : refSubset a b = some r) : Con Tryz.prog wg gl 135 [.v (.sl 1 (a.map eStr)), .v (.sl 1 (b.map eStr))] [] (.v (.bool r)) [] := by
 unfold refSubset at h
 refine con_of_WC (S := slotsOf 0 _) Tryz.func135 rfl Tryz.ntmps135 rfl (fun t x hx => (slotsOf_get hx).2) ?_
 intro F L w ρ0 R hR
 show WC _ _ _ ⟨[(0, .v (.sl 1 (a.map eStr))), (1, .v (.sl 1 (b.map eStr)))], []⟩ _ _
 refine WC.seq (WC.region ?_)
 refine lr 1 rfl trivial ?_
 refine WL.nil (WQ.thenNormal (WC.seq (WC.seq (WC.region ?_))))
 refine lr 1 rfl trivial ?_
 refine WL.nil (WQ.thenNormal ?_)
 refine WC.thenCut (X := Unit) (fun gG => ⟨[], []⟩) (fun gG => refSubset_j1  = some r) ?_ ?_
 ·refine WC.block ?_
  obtain ⟨eQ1, hl1, hk1⟩ := bnd h
  clear h
  refine WC.loop (σ := Int) (τ := ((Bool) ⊕ (Unit))) (fun sS => ⟨[(5, .v (.int .i64 sS)), (0, .v (.sl 1 (a.map eStr))), (1, .v (.sl 1 (b.map eStr)))], []⟩) (refSubset_b1 a b) [] (0 : Int) hl1 ⟨(by exact ⟨rfl, rfl, rfl, trivial⟩), (by exact trivial), rfl, rfl, rfl, rfl⟩ ?_
  intro i m hn1 he1 hx1
  obtain ⟨o1, hf1⟩ := some_of hx1
  have h := hf1
  unfold refSubset_b1 at h
  show WC _ _ _ ⟨[(5, .v (.int .i64 i)), (0, .v (.sl 1 (a.map eStr))), (1, .v (.sl 1 (b.map eStr)))], []⟩ _ _
  refine WC.seq (WC.seq (WC.region ?_))
  refine lr 2 rfl trivial ?_
  refine WL.q [] rfl rfl rfl (q_ev tbOk (.v (.int .i64 (a.length : Int))) rfl (by exact trivial) (by exact lenT)) ?_
  refine lr 1 rfl trivial ?_
  refine WL.nil (WQ.thenNormal ?_)
  refine WC.cond rfl (fun hc1 => ?_) (fun hc1 => ?_)
  ·replace h := ite_t hc1 h
   refine WC.skip (WQ.thenNormal (WC.seq (WC.block (WC.seq (WC.region ?_)))))
   refine lr 3 rfl trivial ?_
   obtain ⟨g1, h⟩ := grd h
   replace h := bnd h; obtain ⟨x2, hxx2, h⟩ := h
   refine WL.q [] rfl rfl rfl (q_idx tbOk rfl (by exact trivial) g1 (map_get (f := eStr) hxx2)) ?_
   refine lr 1 rfl trivial ?_
   replace h := bnd h; obtain ⟨v2, hvv2, h⟩ := h
   refine WL.call0 fn40 rfl rfl rfl rfl (by exact trivial) rfl (refHas_con hw hvv2) ?_
   refine lr 1 rfl trivial ?_
   refine WL.nil (WQ.thenNormal ?_)
   refine WC.cond rfl (fun hc2 => ?_) (fun hc2 => ?_)
   ·replace h := ite_t hc2 h
    refine WC.seq (WC.region ?_)
    refine lr 1 rfl trivial ?_
    refine WL.nil (WQ.thenNormal (WC.ret (WQ.blockRet (WQ.thenRet ?_))))
    cases h
    have he := he1 _ hf1
    subst he
    have h : some false = some _ := hk1
    refine WQ.thenRet (WQ.blockRet (WQ.thenRet ?_))
    cases h
    exact WQ.rets tbOk hR [] (.inl rfl) rfl rfl (Le.refl _) (by exact trivial) rfl rfl rfl rfl
   ·replace h := ite_f hc2 h
    refine WC.skip (WQ.blockNormal (WQ.thenNormal (WC.region ?_)))
    refine lr 3 rfl trivial ?_
    refine WL.nil ?_
    cases h
    exact WQ.next [] (IntKind.i64.wrap (i + (1 : Int))) ⟨(by exact ⟨rfl, rfl, rfl, trivial⟩), (by exact trivial), rfl, rfl, rfl, rfl⟩ (hn1 _ hf1)
  ·replace h := ite_f hc1 h
   refine WC.exit (WQ.thenExit ?_)
   cases h
   have he := he1 _ hf1
   subst he
   replace h := hk1
   try dsimp only at h
   refine WQ.thenExit (WQ.blockExit ?_)
   exact WQ.cut [] () ⟨(by exact trivial), (by exact trivial), rfl, rfl, rfl, rfl⟩ h
 ·intro _ h
  replace h : refSubset_j1 = some _ := h
  unfold refSubset_j1 at h
  show WC _ _ _ ⟨[], []⟩ _ _
  refine WC.seq (WC.region ?_)
  refine lr 1 rfl trivial ?_
  refine WL.nil (WQ.thenNormal (WC.ret ?_))
  cases h
  exact WQ.rets tbOk hR [] (.inl rfl) rfl rfl (Le.refl _) (by exact trivial) rfl rfl rfl rfl
theorem refWith_con {wg : World} (hw : WG wg) {l : (List Str)} {s : Str} {r : (List Str)} (h : refWith l s = some r) : Con Tryz.prog wg gl 81 [.v (.sl 1 (l.map eStr)), .v (.str s)] [] (.v (.sl 1 (r.map eStr))) [] := by
 unfold refWith at h
 refine con_of_WC (S := slotsOf 0 _) Tryz.func81 rfl Tryz.ntmps81 rfl (fun t x hx => (slotsOf_get hx).2) ?_
 intro F L w ρ0 R hR
 show WC _ _ _ ⟨[(0, .v (.sl 1 (l.map eStr))), (1, .v (.str s))], []⟩ _ _
 refine WC.seq (WC.region ?_)
 refine lr 1 rfl trivial ?_
 refine WL.nil (WQ.thenNormal (WC.seq (WC.region ?_)))
 refine lr 1 rfl trivial ?_
 refine WL.nil (WQ.thenNormal (WC.seq ?_))
 refine WC.thenCut (X := Int) (fun gG => ⟨[(5, .v (.int .i64 gG)), (0, .v (.sl 1 (l.map eStr))), (1, .v (.str s))], []⟩) (fun gG => refWith_j1 l s gG = some r) ?_ ?_
 ·refine WC.block ?_
  obtain ⟨eQ1, hl1, hk1⟩ := bnd h
  clear h
  refine WC.loop (σ := Int) (τ := (Int)) (fun sS => ⟨[(5, .v (.int .i64 sS)), (0, .v (.sl 1 (l.map eStr))), (1, .v (.str s))], []⟩) (refWith_b1 l s) [] (0 : Int) hl1 ⟨(by exact ⟨rfl, rfl, rfl, trivial⟩), (by exact trivial), rfl, rfl, rfl, rfl⟩ ?_
  intro k2 m hn1 he1 hx1
  obtain ⟨o1, hf1⟩ := some_of hx1
  have h := hf1
  unfold refWith_b1 at h
  show WC _ _ _ ⟨[(5, .v (.int .i64 k2)), (0, .v (.sl 1 (l.map eStr))), (1, .v (.str s))], []⟩ _ _
  refine WC.seq (WC.seq (WC.region ?_))
  refine lr 2 rfl trivial ?_
  refine WL.q [] rfl rfl rfl (q_ev tbOk (.v (.int .i64 (l.length : Int))) rfl (by exact trivial) (by exact lenT)) ?_
  refine lr 4 rfl (by exact sideR) ?_
  obtain ⟨g7, h⟩ := grd h
  refine WL.gq [] rfl rfl rfl rfl (fun hg => q_idx tbOk rfl (by exact sideR) (g7 hg).1 (map_getD (f := eStr) (g7 hg).2 (g7 hg).1)) ?_
  refine lr 4 rfl (by exact sideR) ?_
  refine WL.nil (WQ.thenNormal ?_)
  refine WC.cond rfl (fun hc2 => ?_) (fun hc2 => ?_)
  ·replace h := ite_t hc2 h
   refine WC.skip (WQ.thenNormal (WC.block (WC.region ?_)))
   refine lr 3 rfl trivial ?_
   refine WL.nil (WQ.blockNormal ?_)
   cases h
   exact WQ.next [] (IntKind.i64.wrap (k2 + (1 : Int))) ⟨(by exact ⟨rfl, rfl, rfl, trivial⟩), (by exact trivial), rfl, rfl, rfl, rfl⟩ (hn1 _ hf1)
  ·replace h := ite_f hc2 h
   refine WC.exit (WQ.thenExit ?_)
   cases h
   have he := he1 _ hf1
   subst he
   replace h := hk1
   try dsimp only at h
   refine WQ.thenExit (WQ.blockExit ?_)
   exact WQ.cut [] k2 ⟨(by exact ⟨rfl, rfl, rfl, trivial⟩), (by exact trivial), rfl, rfl, rfl, rfl⟩ h
 ·intro k h
  replace h : refWith_j1 l s k = some _ := h
  unfold refWith_j1 at h
  show WC _ _ _ ⟨[(5, .v (.int .i64 k)), (0, .v (.sl 1 (l.map eStr))), (1, .v (.str s))], []⟩ _ _
  refine WC.seq (WC.seq (WC.region ?_))
  refine lr 2 rfl trivial ?_
  refine WL.q [] rfl rfl rfl (q_ev tbOk (.v (.int .i64 (l.length : Int))) rfl (by exact trivial) (by exact lenT)) ?_
  refine lr 4 rfl (by exact sideR) ?_
  obtain ⟨g1, h⟩ := grd h
  refine WL.gq [] rfl rfl rfl rfl (fun hg => q_idx tbOk rfl (by exact sideR) (g1 hg).1 (map_getD (f := eStr) (g1 hg).2 (g1 hg).1)) ?_
  refine lr 4 rfl (by exact sideR) ?_
  refine WL.nil (WQ.thenNormal ?_)
  refine WC.cond rfl (fun hc1 => ?_) (fun hc1 => ?_)
  ·replace h := ite_t hc1 h
   refine WC.seq (WC.region ?_)
   refine lr 2 rfl trivial ?_
   refine WL.nil (WQ.thenNormal (WC.ret (WQ.thenRet ?_)))
   cases h
   exact WQ.rets tbOk hR [] (.inl rfl) rfl rfl (Le.refl _) (by exact trivial) rfl rfl rfl rfl
  ·replace h := ite_f hc1 h
   refine WC.skip (WQ.thenNormal (WC.seq (WC.order mixed ?_)))
   refine WR.buildRow tbOk (([] : (List Str)).map eStr) rfl rfl rfl rfl (by exact trivial) rfl rfl ?_
   refine wr 2 rfl trivial ?_
   obtain ⟨g2, h⟩ := grd h
   refine WR.q [] rfl rfl rfl (q_ev tbOk (.v (.sl 1 (((l.take k.toNat).drop (0 : Int).toNat).map eStr))) rfl (by exact sideR) (by exact tdT)) ?_
   obtain ⟨g3, h⟩ := grd h
   refine WR.append tbOk (((l.take k.toNat).drop (0 : Int).toNat).map eStr) [37, 33] ap31 rfl rfl rfl rfl (fun _ e => by cases e; rfl) (by exact trivial) (map_cells (f := eStr) (xs := ((l.take k.toNat).drop (0 : Int).toNat)) fun _ => rfl) (by have := g3; simp only [List.length_map, List.length_nil, List.length_cons] at this ⊢; omega) rfl rfl rfl rfl rfl ?_
   refine wr 2 rfl trivial ?_
   obtain ⟨g4, h⟩ := grd h
   refine WR.append tbOk ((((l.take k.toNat).drop (0 : Int).toNat) ++ [s]).map eStr) [40, 37] ap31 rfl rfl rfl rfl (fun _ e => by cases e; rfl) (by exact trivial) (map_cells (f := eStr) (xs := [s]) fun _ => rfl) (by have := g4; simp only [List.length_map, List.length_nil, List.length_cons] at this ⊢; omega) rfl rfl (by simp only [List.map_append]; try rfl) rfl rfl ?_
   refine wr 2 rfl trivial ?_
   obtain ⟨g5, h⟩ := grd h
   refine WR.q [] rfl rfl rfl (q_ev tbOk (.v (.sl 1 ((l.drop k.toNat).map eStr))) rfl (by exact sideR) (by exact tdT)) ?_
   obtain ⟨g6, h⟩ := grd h
   refine WR.append tbOk (((((l.take k.toNat).drop (0 : Int).toNat) ++ [s]) ++ (l.drop k.toNat)).map eStr) [44, 40] ap31 rfl rfl rfl rfl (fun _ e => by cases e; rfl) (by exact trivial) (map_cells (f := eStr) (xs := (l.drop k.toNat)) fun _ => rfl) (by have := g6; simp only [List.length_map, List.length_nil, List.length_cons] at this ⊢; omega) rfl rfl (by simp only [List.map_append]; try rfl) rfl rfl ?_
   refine wr 1 rfl trivial ?_
   refine WR.nil (by kernel_rfl) (WQ.thenNormal (WC.ret ?_))
   refine WQ.publish 44 rfl rfl ?_
   cases h
   exact WQ.rets tbOk hR [] (.inl rfl) rfl rfl (Le.refl _) (by exact trivial) rfl rfl rfl rfl
theorem refUnion_con {wg : World} (hw : WG wg) {a : (List Str)} {b : (List Str)} {r : (List Str)} (h : refUnion a b = some r) : Con Tryz.prog wg gl 82 [.v (.sl 1 (a.map eStr)), .v (.sl 1 (b.map eStr))] [] (.v (.sl 1 (r.map eStr))) [] := by
 unfold refUnion at h
 refine con_of_WC (S := slotsOf 0 _) Tryz.func82 rfl Tryz.ntmps82 rfl (fun t x hx => (slotsOf_get hx).2) ?_
 intro F L w ρ0 R hR
 show WC _ _ _ ⟨[(0, .v (.sl 1 (a.map eStr))), (1, .v (.sl 1 (b.map eStr)))], []⟩ _ _
 refine WC.seq (WC.region ?_)
 refine lr 1 rfl trivial ?_
 refine WL.nil (WQ.thenNormal (WC.seq (WC.region ?_)))
 refine lr 1 rfl trivial ?_
 refine WL.nil (WQ.thenNormal (WC.seq (WC.seq (WC.region ?_))))
 refine lr 1 rfl trivial ?_
 refine WL.nil (WQ.thenNormal ?_)
 refine WC.thenCut (X := (List Str)) (fun gG => ⟨[(5, .v (.sl 1 (gG.map eStr))), (1, .v (.sl 1 (b.map eStr)))], []⟩) (fun gG => refUnion_j1 b gG = some r) ?_ ?_
 ·refine WC.block ?_
  obtain ⟨eQ2, hl2, hk2⟩ := bnd h
  clear h
  refine WC.weaken 5 (.v (.sl 1 [])) rfl (Le.nil 1) ?_
  refine WC.loop (σ := Int × (List Str)) (τ := ((List Str))) (fun sS => ⟨[(6, .v (.int .i64 sS.1)), (5, .v (.sl 1 (sS.2.map eStr))), (0, .v (.sl 1 (a.map eStr))), (1, .v (.sl 1 (b.map eStr)))], []⟩) (refUnion_b2 a b) [] ((0 : Int), []) hl2 ⟨(by exact ⟨rfl, rfl, rfl, rfl, trivial⟩), (by exact trivial), rfl, rfl, rfl, rfl⟩ ?_
  rintro ⟨i4, out6⟩ m hn2 he2 hx2
  obtain ⟨o2, hf2⟩ := some_of hx2
  have h := hf2
  unfold refUnion_b2 at h
  show WC _ _ _ ⟨[(6, .v (.int .i64 i4)), (5, .v (.sl 1 (out6.map eStr))), (0, .v (.sl 1 (a.map eStr))), (1, .v (.sl 1 (b.map eStr)))], []⟩ _ _
  refine WC.seq (WC.seq (WC.region ?_))
  refine lr 2 rfl trivial ?_
  refine WL.q [] rfl rfl rfl (q_ev tbOk (.v (.int .i64 (a.length : Int))) rfl (by exact trivial) (by exact lenT)) ?_
  refine lr 1 rfl trivial ?_
  refine WL.nil (WQ.thenNormal ?_)
  refine WC.cond rfl (fun hc2 => ?_) (fun hc2 => ?_)
  ·replace h := ite_t hc2 h
   refine WC.skip (WQ.thenNormal (WC.seq (WC.block (WC.region ?_))))
   refine lr 3 rfl trivial ?_
   obtain ⟨g2, h⟩ := grd h
   replace h := bnd h; obtain ⟨x5, hxx5, h⟩ := h
   refine WL.q [] rfl rfl rfl (q_idx tbOk rfl (by exact trivial) g2 (map_get (f := eStr) hxx5)) ?_
   refine lr 1 rfl trivial ?_
   replace h := bnd h; obtain ⟨v5, hvv5, h⟩ := h
   refine WL.call0 fn81 rfl rfl rfl rfl (by exact trivial) rfl (refWith_con hw hvv5) ?_
   refine lr 1 rfl trivial ?_
   refine WL.nil (WQ.blockNormal (WQ.thenNormal (WC.region ?_)))
   refine lr 3 rfl trivial ?_
   refine WL.nil ?_
   cases h
   exact WQ.next [] ((IntKind.i64.wrap (i4 + (1 : Int))), v5) ⟨(by exact ⟨rfl, rfl, rfl, rfl, trivial⟩), (by exact trivial), rfl, rfl, rfl, rfl⟩ (hn2 _ hf2)
  ·replace h := ite_f hc2 h
   refine WC.exit (WQ.thenExit ?_)
   cases h
   have he := he2 _ hf2
   subst he
   replace h := hk2
   try dsimp only at h
   refine WQ.thenExit (WQ.blockExit ?_)
   exact WQ.cut [] out6 ⟨(by exact ⟨rfl, rfl, trivial⟩), (by exact trivial), rfl, rfl, rfl, rfl⟩ h
 ·intro out h
  replace h : refUnion_j1 b out = some _ := h
  unfold refUnion_j1 at h
  show WC _ _ _ ⟨[(5, .v (.sl 1 (out.map eStr))), (1, .v (.sl 1 (b.map eStr)))], []⟩ _ _
  refine WC.seq (WC.seq (WC.region ?_))
  refine lr 1 rfl trivial ?_
  refine WL.nil (WQ.thenNormal ?_)
  refine WC.thenCut (X := (List Str)) (fun gG => ⟨[(5, .v (.sl 1 (gG.map eStr)))], []⟩) (fun gG => refUnion_j2 gG = some r) ?_ ?_
  ·refine WC.block ?_
   obtain ⟨eQ1, hl1, hk1⟩ := bnd h
   clear h
   refine WC.loop (σ := Int × (List Str)) (τ := ((List Str))) (fun sS => ⟨[(7, .v (.int .i64 sS.1)), (5, .v (.sl 1 (sS.2.map eStr))), (1, .v (.sl 1 (b.map eStr)))], []⟩) (refUnion_b1 b) [] ((0 : Int), out) hl1 ⟨(by exact ⟨rfl, rfl, rfl, trivial⟩), (by exact trivial), rfl, rfl, rfl, rfl⟩ ?_
   rintro ⟨i, out3⟩ m hn1 he1 hx1
   obtain ⟨o1, hf1⟩ := some_of hx1
   have h := hf1
   unfold refUnion_b1 at h
   show WC _ _ _ ⟨[(7, .v (.int .i64 i)), (5, .v (.sl 1 (out3.map eStr))), (1, .v (.sl 1 (b.map eStr)))], []⟩ _ _
   refine WC.seq (WC.seq (WC.region ?_))
   refine lr 2 rfl trivial ?_
   refine WL.q [] rfl rfl rfl (q_ev tbOk (.v (.int .i64 (b.length : Int))) rfl (by exact trivial) (by exact lenT)) ?_
   refine lr 1 rfl trivial ?_
   refine WL.nil (WQ.thenNormal ?_)
   refine WC.cond rfl (fun hc1 => ?_) (fun hc1 => ?_)
   ·replace h := ite_t hc1 h
    refine WC.skip (WQ.thenNormal (WC.seq (WC.block (WC.region ?_))))
    refine lr 3 rfl trivial ?_
    obtain ⟨g1, h⟩ := grd h
    replace h := bnd h; obtain ⟨x2, hxx2, h⟩ := h
    refine WL.q [] rfl rfl rfl (q_idx tbOk rfl (by exact trivial) g1 (map_get (f := eStr) hxx2)) ?_
    refine lr 1 rfl trivial ?_
    replace h := bnd h; obtain ⟨v2, hvv2, h⟩ := h
    refine WL.call0 fn81 rfl rfl rfl rfl (by exact trivial) rfl (refWith_con hw hvv2) ?_
    refine lr 1 rfl trivial ?_
    refine WL.nil (WQ.blockNormal (WQ.thenNormal (WC.region ?_)))
    refine lr 3 rfl trivial ?_
    refine WL.nil ?_
    cases h
    exact WQ.next [] ((IntKind.i64.wrap (i + (1 : Int))), v2) ⟨(by exact ⟨rfl, rfl, rfl, trivial⟩), (by exact trivial), rfl, rfl, rfl, rfl⟩ (hn1 _ hf1)
   ·replace h := ite_f hc1 h
    refine WC.exit (WQ.thenExit ?_)
    cases h
    have he := he1 _ hf1
    subst he
    replace h := hk1
    try dsimp only at h
    refine WQ.thenExit (WQ.blockExit ?_)
    exact WQ.cut [] out3 ⟨(by exact ⟨rfl, trivial⟩), (by exact trivial), rfl, rfl, rfl, rfl⟩ h
  ·intro out2 h
   replace h : refUnion_j2 out2 = some _ := h
   unfold refUnion_j2 at h
   show WC _ _ _ ⟨[(5, .v (.sl 1 (out2.map eStr)))], []⟩ _ _
   refine WC.seq (WC.region ?_)
   refine lr 2 rfl trivial ?_
   refine WL.nil (WQ.thenNormal (WC.ret ?_))
   cases h
   exact WQ.rets tbOk hR [] (.inl rfl) rfl rfl (Le.refl _) (by exact trivial) rfl rfl rfl rfl
theorem refPrefix_con {wg : World} (hw : WG wg) {code : Str} {p : Str} {r : Bool} (h : refPrefix code p = some r) : Con Tryz.prog wg gl 120 [.v (.str code), .v (.str p)] [] (.v (.bool r)) [] := by
 unfold refPrefix at h
 refine con_of_WC (S := slotsOf 0 _) Tryz.func120 rfl Tryz.ntmps120 rfl (fun t x hx => (slotsOf_get hx).2) ?_
 intro F L w ρ0 R hR
 show WC _ _ _ ⟨[(0, .v (.str code)), (1, .v (.str p))], []⟩ _ _
 refine WC.seq (WC.region ?_)
 refine lr 1 rfl trivial ?_
 refine WL.nil (WQ.thenNormal (WC.seq (WC.region ?_)))
 obtain ⟨g1, h⟩ := grd h
 refine lr 14 rfl (by repeat' (first | exact trivial | assumption | intro _ | exact g1 (by assumption) | apply And.intro | exact sideT | (refine and_i ?_ ?_))) ?_
 refine WL.nil (WQ.thenNormal (WC.ret ?_))
 cases h
 exact WQ.rets tbOk hR [] (.inl rfl) rfl rfl (Le.refl _) (by exact trivial) rfl rfl rfl rfl
theorem refExcluded_con {wg : World} (hw : WG wg) {b : ApiNomenclature} {code : Str} {words : (List Str)} {r : Bool} (h : refExcluded b code words = some r) : Con Tryz.prog wg gl 80 [.v (.agg [.sl 5 (b.Entries.map eApiCodeEntry), .sl 3 (b.Notes.map eApiCodeNote)]), .v (.str code), .v (.sl 1 (words.map eStr))] [] (.v (.bool r)) [] := by
 unfold refExcluded at h
 refine con_of_WC (S := slotsOf 0 _) Tryz.func80 rfl Tryz.ntmps80 rfl (fun t x hx => (slotsOf_get hx).2) ?_
 intro F L w ρ0 R hR
 show WC _ _ _ ⟨[(0, .v (.agg [.sl 5 (b.Entries.map eApiCodeEntry), .sl 3 (b.Notes.map eApiCodeNote)])), (1, .v (.str code)), (2, .v (.sl 1 (words.map eStr)))], []⟩ _ _
 refine WC.seq (WC.region ?_)
 refine lr 2 rfl trivial ?_
 refine WL.nil (WQ.thenNormal (WC.seq (WC.seq (WC.region ?_))))
 refine lr 1 rfl trivial ?_
 refine WL.nil (WQ.thenNormal ?_)
 refine WC.thenCut (X := Unit) (fun gG => ⟨[], []⟩) (fun gG => refExcluded_j1  = some r) ?_ ?_
 ·refine WC.block ?_
  obtain ⟨eQ1, hl1, hk1⟩ := bnd h
  clear h
  refine WC.loop (σ := Int) (τ := ((Bool) ⊕ (Unit))) (fun sS => ⟨[(7, .v (.int .i64 sS)), (3, .p 3 0), (1, .v (.str code)), (2, .v (.sl 1 (words.map eStr)))], [(3, .blk 28 [.v (.sl 5 (b.Entries.map eApiCodeEntry)), .v (.sl 3 (b.Notes.map eApiCodeNote))])]⟩) (refExcluded_b1 b code words) [] (0 : Int) hl1 ⟨(by exact ⟨rfl, rfl, rfl, rfl, trivial⟩), (by exact ⟨rfl, trivial⟩), rfl, rfl, rfl, rfl⟩ ?_
  intro i m hn1 he1 hx1
  obtain ⟨o1, hf1⟩ := some_of hx1
  have h := hf1
  unfold refExcluded_b1 at h
  show WC _ _ _ ⟨[(7, .v (.int .i64 i)), (3, .p 3 0), (1, .v (.str code)), (2, .v (.sl 1 (words.map eStr)))], [(3, .blk 28 [.v (.sl 5 (b.Entries.map eApiCodeEntry)), .v (.sl 3 (b.Notes.map eApiCodeNote))])]⟩ _ _
  refine WC.seq (WC.seq (WC.region ?_))
  refine lr 3 rfl trivial ?_
  refine WL.q [] rfl rfl rfl (q_ev tbOk (.v (.int .i64 (b.Notes.length : Int))) rfl (by exact trivial) (by exact lenT)) ?_
  refine lr 1 rfl trivial ?_
  refine WL.nil (WQ.thenNormal ?_)
  refine WC.cond rfl (fun hc1 => ?_) (fun hc1 => ?_)
  ·replace h := ite_t hc1 h
   refine WC.skip (WQ.thenNormal (WC.seq (WC.block (WC.seq (WC.region ?_)))))
   refine lr 4 rfl trivial ?_
   obtain ⟨g1, h⟩ := grd h
   replace h := bnd h; obtain ⟨x2, hxx2, h⟩ := h
   refine WL.q [] rfl rfl rfl (q_idx tbOk rfl (by exact trivial) g1 (map_get (f := eApiCodeNote) hxx2)) ?_
   refine lr 2 rfl trivial ?_
   replace h := bnd h; obtain ⟨v3, hvv3, h⟩ := h
   refine WL.call0 fn120 rfl rfl rfl rfl (by exact trivial) rfl (refPrefix_con hw hvv3) ?_
   refine lr 4 rfl (by exact sideR) ?_
   obtain ⟨g2, h⟩ := grd h
   refine WL.gq [] rfl rfl rfl rfl (fun hg => q_idx tbOk rfl (by exact sideR) (g2 hg).1 (map_getD (f := eApiCodeNote) (g2 hg).2 (g2 hg).1)) ?_
   refine lr 3 rfl (by exact sideR) ?_
   replace h := bnd h; obtain ⟨v4, hvv4, h⟩ := h
   refine WL.gcall0 fn135 rfl rfl rfl rfl rfl (fun _ => (by exact sideR)) rfl (fun hg => (refSubset_con hw (ite_t hg hvv4))) ?_
   refine lr 1 rfl (by exact sideR) ?_
   refine WL.nil (WQ.thenNormal ?_)
   refine WC.cond rfl (fun hc2 => ?_) (fun hc2 => ?_)
   ·replace h := ite_t hc2 h
    refine WC.seq (WC.region ?_)
    refine lr 1 rfl trivial ?_
    refine WL.nil (WQ.thenNormal (WC.ret (WQ.blockRet (WQ.thenRet ?_))))
    cases h
    have he := he1 _ hf1
    subst he
    have h : some true = some _ := hk1
    refine WQ.thenRet (WQ.blockRet (WQ.thenRet ?_))
    cases h
    exact WQ.rets tbOk hR [] (.inl rfl) rfl rfl (Le.refl _) (by exact trivial) rfl rfl rfl rfl
   ·replace h := ite_f hc2 h
    refine WC.skip (WQ.blockNormal (WQ.thenNormal (WC.region ?_)))
    refine lr 3 rfl trivial ?_
    refine WL.nil ?_
    cases h
    exact WQ.next [] (IntKind.i64.wrap (i + (1 : Int))) ⟨(by exact ⟨rfl, rfl, rfl, rfl, trivial⟩), (by exact ⟨rfl, trivial⟩), rfl, rfl, rfl, rfl⟩ (hn1 _ hf1)
  ·replace h := ite_f hc1 h
   refine WC.exit (WQ.thenExit ?_)
   cases h
   have he := he1 _ hf1
   subst he
   replace h := hk1
   try dsimp only at h
   refine WQ.thenExit (WQ.blockExit ?_)
   exact WQ.cut [] () ⟨(by exact trivial), (by exact trivial), rfl, rfl, rfl, rfl⟩ h
 ·intro _ h
  replace h : refExcluded_j1 = some _ := h
  unfold refExcluded_j1 at h
  show WC _ _ _ ⟨[], []⟩ _ _
  refine WC.seq (WC.region ?_)
  refine lr 1 rfl trivial ?_
  refine WL.nil (WQ.thenNormal (WC.ret ?_))
  cases h
  exact WQ.rets tbOk hR [] (.inl rfl) rfl rfl (Le.refl _) (by exact trivial) rfl rfl rfl rfl
theorem refAlts_con {wg : World} (hw : WG wg) {b : ApiNomenclature} {x : ApiCodeEntry} {r : (List (List Str))} (h : refAlts b x = some r) : Con Tryz.prog wg gl 83 [.v (.agg [.sl 5 (b.Entries.map eApiCodeEntry), .sl 3 (b.Notes.map eApiCodeNote)]), .v (.agg [.str x.Code, .int .i64 x.From, .int .i64 x.To, .sl 1 (x.Terms.map eLStr), .bool x.Other])] [] (.v (.sl 1 (r.map eLStr))) [] := by
 unfold refAlts at h
 refine con_of_WC (S := slotsOf 0 _) Tryz.func83 rfl Tryz.ntmps83 rfl (fun t x hx => (slotsOf_get hx).2) ?_
 intro F L w ρ0 R hR
 show WC _ _ _ ⟨[(0, .v (.agg [.sl 5 (b.Entries.map eApiCodeEntry), .sl 3 (b.Notes.map eApiCodeNote)])), (1, .v (.agg [.str x.Code, .int .i64 x.From, .int .i64 x.To, .sl 1 (x.Terms.map eLStr), .bool x.Other]))], []⟩ _ _
 refine WC.seq (WC.region ?_)
 refine lr 3 rfl trivial ?_
 refine WL.nil (WQ.thenNormal (WC.seq (WC.region ?_)))
 refine WL.buildRow tbOk (([] : (List (List Str))).map eLStr) rfl rfl rfl rfl (by exact trivial) rfl rfl ?_
 refine lr 2 rfl trivial ?_
 obtain ⟨g1, h⟩ := grd h
 refine WL.append tbOk (x.Terms.map eLStr) [10, 7] ap52 rfl rfl rfl rfl (fun _ e => by cases e; rfl) (by exact trivial) (map_cells (f := eLStr) (xs := x.Terms) fun _ => rfl) (by have := g1; simp only [List.length_map, List.length_nil, List.length_cons] at this ⊢; omega) rfl rfl rfl rfl ?_
 refine lr 1 rfl trivial ?_
 refine WL.nil (WQ.thenNormal (WC.seq (WC.seq (WC.region ?_))))
 refine lr 1 rfl trivial ?_
 refine WL.nil (WQ.thenNormal ?_)
 refine WC.thenCut (X := (List (List Str))) (fun gG => ⟨[(5, .r 1005)], [(1005, .row 31 1 (gG.map eLStr))]⟩) (fun gG => refAlts_j1 gG = some r) ?_ ?_
 ·refine WC.block ?_
  obtain ⟨eQ1, hl1, hk1⟩ := bnd h
  clear h
  refine WC.loop (σ := Int × (List (List Str))) (τ := ((List (List Str)))) (fun sS => ⟨[(6, .v (.int .i64 sS.1)), (5, .r 1005), (3, .p 3 0), (2, .p 2 0)], [(1005, .row 31 1 (sS.2.map eLStr)), (2, .blk 28 [.v (.sl 5 (b.Entries.map eApiCodeEntry)), .v (.sl 3 (b.Notes.map eApiCodeNote))]), (3, .blk 54 [.v (.str x.Code), .v (.int .i64 x.From), .v (.int .i64 x.To), .v (.sl 1 (x.Terms.map eLStr)), .v (.bool x.Other)])]⟩) (refAlts_b1 b x) [(1005, 10)] ((0 : Int), x.Terms) hl1 ⟨(by exact ⟨rfl, rfl, rfl, rfl, trivial⟩), (by exact ⟨rfl, rfl, rfl, trivial⟩), rfl, rfl, rfl, rfl⟩ ?_
  rintro ⟨i, out2⟩ m hn1 he1 hx1
  obtain ⟨o1, hf1⟩ := some_of hx1
  have h := hf1
  unfold refAlts_b1 at h
  show WC _ _ _ ⟨[(6, .v (.int .i64 i)), (5, .r 1005), (3, .p 3 0), (2, .p 2 0)], [(1005, .row 31 1 (out2.map eLStr)), (2, .blk 28 [.v (.sl 5 (b.Entries.map eApiCodeEntry)), .v (.sl 3 (b.Notes.map eApiCodeNote))]), (3, .blk 54 [.v (.str x.Code), .v (.int .i64 x.From), .v (.int .i64 x.To), .v (.sl 1 (x.Terms.map eLStr)), .v (.bool x.Other)])]⟩ _ _
  refine WC.seq (WC.seq (WC.region ?_))
  refine lr 3 rfl trivial ?_
  refine WL.q [] rfl rfl rfl (q_ev tbOk (.v (.int .i64 (b.Notes.length : Int))) rfl (by exact trivial) (by exact lenT)) ?_
  refine lr 1 rfl trivial ?_
  refine WL.nil (WQ.thenNormal ?_)
  refine WC.cond rfl (fun hc1 => ?_) (fun hc1 => ?_)
  ·replace h := ite_t hc1 h
   refine WC.skip (WQ.thenNormal (WC.seq ?_))
   refine WC.thenCut (X := (List (List Str))) (fun gG => ⟨[(5, .r 1005), (6, .v (.int .i64 i)), (3, .p 3 0), (2, .p 2 0)], [(1005, .row 31 1 (gG.map eLStr)), (2, .blk 28 [.v (.sl 5 (b.Entries.map eApiCodeEntry)), .v (.sl 3 (b.Notes.map eApiCodeNote))]), (3, .blk 54 [.v (.str x.Code), .v (.int .i64 x.From), .v (.int .i64 x.To), .v (.sl 1 (x.Terms.map eLStr)), .v (.bool x.Other)])]⟩) (fun gG => refAlts_j2 b x i gG = some o1) ?_ ?_
   ·refine WC.block (WC.seq (WC.order mixed ?_))
    refine wr 3 rfl trivial ?_
    obtain ⟨g2, h⟩ := grd h
    replace h := bnd h; obtain ⟨x4, hxx4, h⟩ := h
    refine WR.q [] rfl rfl rfl (q_idx tbOk rfl (by exact trivial) g2 (map_get (f := eApiCodeNote) hxx4)) ?_
    refine wr 5 rfl trivial ?_
    refine WR.nil (by kernel_rfl) (WQ.thenNormal ?_)
    refine WC.cond rfl (fun hc2 => ?_) (fun hc2 => ?_)
    ·replace h := ite_t hc2 h
     refine WC.region ?_
     refine lr 4 rfl trivial ?_
     obtain ⟨g3, h⟩ := grd h
     replace h := bnd h; obtain ⟨x5, hxx5, h⟩ := h
     refine WL.q [] rfl rfl rfl (q_idx tbOk rfl (by exact trivial) g3 (map_get (f := eApiCodeNote) hxx5)) ?_
     refine lr 3 rfl trivial ?_
     obtain ⟨g4, h⟩ := grd h
     refine WL.append tbOk ((out2 ++ [x5.Words]).map eLStr) [35, 1005] ap52 rfl rfl rfl rfl (fun _ e => by cases e; rfl) (by exact trivial) (map_cells (f := eLStr) (xs := [x5.Words]) fun _ => rfl) (by have := g4; simp only [List.length_map, List.length_nil, List.length_cons] at this ⊢; omega) rfl rfl (by simp only [List.map_append]; try rfl) rfl ?_
     refine lr 1 rfl trivial ?_
     refine WL.nil (WQ.blockNormal ?_)
     exact WQ.cut [(1005, 35)] (out2 ++ [x5.Words]) ⟨(by exact ⟨rfl, rfl, rfl, rfl, trivial⟩), (by exact ⟨rfl, rfl, rfl, trivial⟩), rfl, rfl, rfl, rfl⟩ h
    ·replace h := ite_f hc2 h
     refine WC.skip (WQ.blockNormal ?_)
     exact WQ.cut [] out2 ⟨(by exact ⟨rfl, rfl, rfl, rfl, trivial⟩), (by exact ⟨rfl, rfl, rfl, trivial⟩), rfl, rfl, rfl, rfl⟩ h
   ·intro out6 h
    replace h : refAlts_j2 b x i out6 = some _ := h
    unfold refAlts_j2 at h
    show WC _ _ _ ⟨[(5, .r 1005), (6, .v (.int .i64 i)), (3, .p 3 0), (2, .p 2 0)], [(1005, .row 31 1 (out6.map eLStr)), (2, .blk 28 [.v (.sl 5 (b.Entries.map eApiCodeEntry)), .v (.sl 3 (b.Notes.map eApiCodeNote))]), (3, .blk 54 [.v (.str x.Code), .v (.int .i64 x.From), .v (.int .i64 x.To), .v (.sl 1 (x.Terms.map eLStr)), .v (.bool x.Other)])]⟩ _ _
    refine WC.region ?_
    refine lr 3 rfl trivial ?_
    refine WL.nil ?_
    cases h
    exact WQ.next [] ((IntKind.i64.wrap (i + (1 : Int))), out6) ⟨(by exact ⟨rfl, rfl, rfl, rfl, trivial⟩), (by exact ⟨rfl, rfl, rfl, trivial⟩), rfl, rfl, rfl, rfl⟩ (hn1 _ hf1)
  ·replace h := ite_f hc1 h
   refine WC.exit (WQ.thenExit ?_)
   cases h
   have he := he1 _ hf1
   subst he
   replace h := hk1
   try dsimp only at h
   refine WQ.thenExit (WQ.blockExit ?_)
   exact WQ.cut [] out2 ⟨(by exact ⟨rfl, trivial⟩), (by exact ⟨rfl, trivial⟩), rfl, rfl, rfl, rfl⟩ h
 ·intro out h
  replace h : refAlts_j1 out = some _ := h
  unfold refAlts_j1 at h
  show WC _ _ _ ⟨[(5, .r 1005)], [(1005, .row 31 1 (out.map eLStr))]⟩ _ _
  refine WC.seq (WC.region ?_)
  refine lr 2 rfl trivial ?_
  refine WL.nil (WQ.thenNormal (WC.ret ?_))
  refine WQ.publish 1005 rfl rfl ?_
  cases h
  exact WQ.rets tbOk hR [] (.inl rfl) rfl rfl (Le.refl _) (by exact trivial) rfl rfl rfl rfl
end Go.Proofs.YtfkefolbabniaaaGreatDoor
end
