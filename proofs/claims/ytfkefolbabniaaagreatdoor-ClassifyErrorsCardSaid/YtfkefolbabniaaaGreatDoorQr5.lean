/- Packed by pack.py. -/
import Derived.Test.YtfkefolbabniaaaGreatDoorQr3
import Derived.Test.YtfkefolbabniaaaGreatDoorQr4
section
set_option linter.unusedVariables false
set_option linter.unusedSimpArgs false
set_option maxHeartbeats 4000000
set_option maxRecDepth 20000
namespace Go.Proofs.YtfkefolbabniaaaGreatDoor
open Go.V Go.C
theorem isWord_con {wg : World} (hw : WG wg) {s : Str} {r : Bool} (h : isWord s = some r) : Con Tryz.prog wg gl 154 [.v (.str s)] [] (.v (.bool r)) [] := by
 unfold isWord at h
 refine con_of_WC (S := slotsOf 0 _) Tryz.func154 rfl Tryz.ntmps154 rfl (fun t x hx => (slotsOf_get hx).2) ?_
 intro F L w ρ0 R hR
 try dsimp only [slotsOf]
 refine sr (lr1 rfl (nn (WC.seq (sr ?_))))
 refine lr 8 rfl (by exact sideR) ?_
 refine nn ?_
 refine WC.cond rfl (fun hc1 => ?_) (fun hc1 => ?_)
 ·replace h := ite_t hc1 h
  refine sr (lr1 rfl (nr (WQ.thenRet ?_)))
  cases h
  exact rt tbOk hR
 ·replace h := ite_f hc1 h
  refine kn (WC.seq (sr (lr1 rfl ?_)))
  refine WL.range tbOk rfl rfl rfl rfl (by exact trivial) rfl ?_
  refine nn ?_
  refine WC.thenCut (X := Unit) (fun gG => ⟨[], []⟩) (fun gG => isWord_j1  = some r) ?_ ?_
  ·refine WC.block ?_
   obtain ⟨eQ1, hl1, hk1⟩ := bnd h
   clear h
   refine WC.loop (σ := Nat) (τ := ((Bool) ⊕ (Unit))) (fun sS => ⟨[(14, .r 14)], [(14, .it s sS)]⟩) (isWord_b1 s) [] 0 hl1 sub ?_
   intro pos m hn1 he1 hx1
   obtain ⟨o1, hf1⟩ := some_of hx1
   have h := hf1
   unfold isWord_b1 at h
   try dsimp only [slotsOf]
   refine sr ?_
   refine WL.next rfl rfl rfl rfl (by exact sideR) rfl (fun hx1 => ?_) (fun hx1 => ?_)
   ·replace h := ifp hx1 h
    refine lr1 rfl (nn (WC.seq ?_))
    refine WC.cond (b := true) rfl (fun hc2 => ?_) (fun hc2 => by cases hc2)
    refine kn (WC.block (sr (lr2 rfl (ns ?_))))
    refine lr 6 rfl (by exact sideR) ?_
    refine nn ?_
    refine WC.cond rfl (fun hc3 => ?_) (fun hc3 => ?_)
    ·replace h := ite_t hc3 h
     refine sr (lr1 rfl (nr (WQ.blockRet ?_)))
     cases h
     have he := he1 _ hf1
     subst he
     have h : some false = some _ := hk1
     refine WQ.thenRet (rb ?_)
     cases h
     exact rt tbOk hR
    ·replace h := ite_f hc3 h
     refine WC.skip (WQ.blockNormal ?_)
     cases h
     exact WQ.next [] (pos + runeW s pos) sub (hn1 _ hf1)
   ·replace h := ifn hx1 h
    refine lr1 rfl (nn (WC.seq ?_))
    refine WC.cond (b := false) rfl (fun hc4 => by cases hc4) (fun hc4 => ?_)
    refine WC.exit (WQ.thenExit ?_)
    cases h
    have he := he1 _ hf1
    subst he
    replace h := hk1
    try dsimp only at h
    refine eb ?_
    exact WQ.cut [] () sub h
  ·intro _ h
   replace h : isWord_j1 = some _ := h
   unfold isWord_j1 at h
   try dsimp only [slotsOf]
   refine sr (lr1 rfl (nr ?_))
   cases h
   exact rt tbOk hR
theorem validWords_con {wg : World} (hw : WG wg) {l : (List Str)} {r : Bool} (h : validWords l = some r) : Con Tryz.prog wg gl 107 [.v (.sl 1 (l.map eStr))] [] (.v (.bool r)) [] := by
 unfold validWords at h
 refine con_of_WC (S := slotsOf 0 _) Tryz.func107 rfl Tryz.ntmps107 rfl (fun t x hx => (slotsOf_get hx).2) ?_
 intro F L w ρ0 R hR
 try dsimp only [slotsOf]
 refine sr (lr1 rfl (nn (WC.seq (sr (lr1 rfl ?_)))))
 refine WL.q [] rfl rfl rfl (q_ev tbOk (.v (.int .i64 (l.length : Int))) rfl (by exact trivial) (by exact lenT)) ?_
 refine lr1 rfl (nn ?_)
 refine WC.cond rfl (fun hc1 => ?_) (fun hc1 => ?_)
 ·replace h := ite_t hc1 h
  refine sr (lr1 rfl (nr (WQ.thenRet ?_)))
  cases h
  exact rt tbOk hR
 ·replace h := ite_f hc1 h
  refine kn (WC.seq (sr (lr1 rfl ?_)))
  refine WL.q [] rfl rfl rfl (q_ev tbOk (.v (.int .i64 (l.length : Int))) rfl (by exact trivial) (by exact lenT)) ?_
  refine lr1 rfl (nn ?_)
  refine WC.thenCut (X := Unit) (fun gG => ⟨[], []⟩) (fun gG => validWords_j1  = some r) ?_ ?_
  ·refine WC.block ?_
   obtain ⟨eQ1, hl1, hk1⟩ := bnd h
   clear h
   refine WC.loop (σ := Int) (τ := ((Bool) ⊕ (Unit))) (fun sS => ⟨[(10, .v (.int .i64 sS)), (9, .v (.int .i64 (l.length : Int))), (8, .v (.sl 1 (l.map eStr))), (0, .v (.sl 1 (l.map eStr)))], []⟩) (validWords_b1 l) [] (0 : Int) hl1 sub ?_
   intro t10 m hn1 he1 hx1
   obtain ⟨o1, hf1⟩ := some_of hx1
   have h := hf1
   unfold validWords_b1 at h
   try dsimp only [slotsOf]
   refine sr (lr1 rfl (nn (WC.seq ?_)))
   refine WC.cond rfl (fun hc2 => ?_) (fun hc2 => ?_)
   ·replace h := ite_t hc2 h
    refine kn (sb (sr (lr1 rfl ?_)))
    obtain ⟨g1, h⟩ := grd h
    replace h := bnd h; obtain ⟨x2, hxx2, h⟩ := h
    refine WL.q [] rfl rfl rfl (q_idx tbOk rfl (by exact trivial) g1 (map_get (f := eStr) hxx2)) ?_
    refine lr3 rfl (ns (lr1 rfl ?_))
    replace h := bnd h; obtain ⟨v2, hvv2, h⟩ := h
    refine WL.call0 fn154 rfl rfl rfl rfl (by exact trivial) rfl (isWord_con hw hvv2) ?_
    refine lr 9 rfl (by exact sideR) ?_
    obtain ⟨g2, h⟩ := grd h
    refine WL.gq [] rfl rfl rfl rfl (fun hg => q_idx tbOk rfl (by exact sideR) (g2 hg).1 (map_getD (f := eStr) (g2 hg).2 (g2 hg).1)) ?_
    refine lr 4 rfl (by exact sideR) ?_
    refine nn ?_
    refine WC.cond rfl (fun hc3 => ?_) (fun hc3 => ?_)
    ·replace h := ite_t hc3 h
     refine sr (lr1 rfl (nr (rb ?_)))
     cases h
     have he := he1 _ hf1
     subst he
     have h : some false = some _ := hk1
     refine WQ.thenRet (rb ?_)
     cases h
     exact rt tbOk hR
    ·replace h := ite_f hc3 h
     refine WC.skip (bn (WC.region (lr2 rfl (WL.nil ?_))))
     cases h
     exact WQ.next [] (IntKind.i64.wrap (t10 + (1 : Int))) sub (hn1 _ hf1)
   ·replace h := ite_f hc2 h
    refine WC.exit (WQ.thenExit ?_)
    cases h
    have he := he1 _ hf1
    subst he
    replace h := hk1
    try dsimp only at h
    refine eb ?_
    exact WQ.cut [] () sub h
  ·intro _ h
   replace h : validWords_j1 = some _ := h
   unfold validWords_j1 at h
   try dsimp only [slotsOf]
   refine sr (lr1 rfl (nr ?_))
   cases h
   exact rt tbOk hR
theorem isNaNS_con {wg : World} (hw : WG wg) {x : Str} {r : Bool} (h : isNaNS x = some r) : Con Tryz.prog wg gl 185 [.v (.str x)] [] (.v (.bool r)) [] := by
 unfold isNaNS at h
 refine con_of_WC (S := slotsOf 0 _) Tryz.func185 rfl Tryz.ntmps185 rfl (fun t x hx => (slotsOf_get hx).2) ?_
 intro F L w ρ0 R hR
 try dsimp only [slotsOf]
 refine sr (lr1 rfl (ns (lr4 rfl (nr ?_))))
 cases h
 exact rt tbOk hR
theorem cmpStr_con {wg : World} (hw : WG wg) {x : Str} {y : Str} {r : Int} (h : cmpStr x y = some r) : Con Tryz.prog wg gl 165 [.v (.str x), .v (.str y)] [] (.v (.int .i64 r)) [] := by
 unfold cmpStr at h
 refine con_of_WC (S := slotsOf 0 _) Tryz.func165 rfl Tryz.ntmps165 rfl (fun t x hx => (slotsOf_get hx).2) ?_
 intro F L w ρ0 R hR
 try dsimp only [slotsOf]
 refine sr (lr1 rfl (ns (lr1 rfl ?_)))
 replace h := bnd h; obtain ⟨v, hvv, h⟩ := h
 refine WL.call0 fn185 rfl rfl rfl rfl (by exact trivial) rfl (isNaNS_con hw hvv) ?_
 refine lr1 rfl (ns (lr1 rfl ?_))
 replace h := bnd h; obtain ⟨v2, hvv2, h⟩ := h
 refine WL.call0 fn185 rfl rfl rfl rfl (by exact trivial) rfl (isNaNS_con hw hvv2) ?_
 refine lr1 rfl (nn (WC.seq (sr (lr1 rfl (nn ?_)))))
 refine WC.cond rfl (fun hc1 => ?_) (fun hc1 => ?_)
 ·replace h := ite_t hc1 h
  refine WC.seq (sr (lr1 rfl (nn ?_)))
  refine WC.cond rfl (fun hc2 => ?_) (fun hc2 => ?_)
  ·replace h := ite_t hc2 h
   refine sr (lr1 rfl (nr (WQ.thenRet (WQ.thenRet ?_))))
   cases h
   exact rt tbOk hR
  ·replace h := ite_f hc2 h
   refine kn (sr (lr1 rfl (nr (WQ.thenRet ?_))))
   cases h
   exact rt tbOk hR
 ·replace h := ite_f hc1 h
  refine kn (WC.seq (sr (lr1 rfl (nn ?_))))
  refine WC.cond rfl (fun hc3 => ?_) (fun hc3 => ?_)
  ·replace h := ite_t hc3 h
   refine sr (lr1 rfl (nr (WQ.thenRet ?_)))
   cases h
   exact rt tbOk hR
  ·replace h := ite_f hc3 h
   refine kn (WC.seq (sr (lr3 rfl (nn ?_))))
   refine WC.cond rfl (fun hc4 => ?_) (fun hc4 => ?_)
   ·replace h := ite_t hc4 h
    refine sr (lr1 rfl (nr (WQ.thenRet ?_)))
    cases h
    exact rt tbOk hR
   ·replace h := ite_f hc4 h
    refine kn (WC.seq (sr (lr3 rfl (nn ?_))))
    refine WC.cond rfl (fun hc5 => ?_) (fun hc5 => ?_)
    ·replace h := ite_t hc5 h
     refine sr (lr1 rfl (nr (WQ.thenRet ?_)))
     cases h
     exact rt tbOk hR
    ·replace h := ite_f hc5 h
     refine kn (sr (lr1 rfl (nr ?_)))
     cases h
     exact rt tbOk hR
theorem isNaN_con {wg : World} (hw : WG wg) {x : Int} {r : Bool} (h : isNaN x = some r) : Con Tryz.prog wg gl 162 [.v (.int .i64 x)] [] (.v (.bool r)) [] := by
 unfold isNaN at h
 refine con_of_WC (S := slotsOf 0 _) Tryz.func162 rfl Tryz.ntmps162 rfl (fun t x hx => (slotsOf_get hx).2) ?_
 intro F L w ρ0 R hR
 try dsimp only [slotsOf]
 refine sr (lr1 rfl (ns (lr4 rfl (nr ?_))))
 cases h
 exact rt tbOk hR
theorem cmpInt_con {wg : World} (hw : WG wg) {x : Int} {y : Int} {r : Int} (h : cmpInt x y = some r) : Con Tryz.prog wg gl 128 [.v (.int .i64 x), .v (.int .i64 y)] [] (.v (.int .i64 r)) [] := by
 unfold cmpInt at h
 refine con_of_WC (S := slotsOf 0 _) Tryz.func128 rfl Tryz.ntmps128 rfl (fun t x hx => (slotsOf_get hx).2) ?_
 intro F L w ρ0 R hR
 try dsimp only [slotsOf]
 refine sr (lr1 rfl (ns (lr1 rfl ?_)))
 replace h := bnd h; obtain ⟨v, hvv, h⟩ := h
 refine WL.call0 fn162 rfl rfl rfl rfl (by exact trivial) rfl (isNaN_con hw hvv) ?_
 refine lr1 rfl (ns (lr1 rfl ?_))
 replace h := bnd h; obtain ⟨v2, hvv2, h⟩ := h
 refine WL.call0 fn162 rfl rfl rfl rfl (by exact trivial) rfl (isNaN_con hw hvv2) ?_
 refine lr1 rfl (nn (WC.seq (sr (lr1 rfl (nn ?_)))))
 refine WC.cond rfl (fun hc1 => ?_) (fun hc1 => ?_)
 ·replace h := ite_t hc1 h
  refine WC.seq (sr (lr1 rfl (nn ?_)))
  refine WC.cond rfl (fun hc2 => ?_) (fun hc2 => ?_)
  ·replace h := ite_t hc2 h
   refine sr (lr1 rfl (nr (WQ.thenRet (WQ.thenRet ?_))))
   cases h
   exact rt tbOk hR
  ·replace h := ite_f hc2 h
   refine kn (sr (lr1 rfl (nr (WQ.thenRet ?_))))
   cases h
   exact rt tbOk hR
 ·replace h := ite_f hc1 h
  refine kn (WC.seq (sr (lr1 rfl (nn ?_))))
  refine WC.cond rfl (fun hc3 => ?_) (fun hc3 => ?_)
  ·replace h := ite_t hc3 h
   refine sr (lr1 rfl (nr (WQ.thenRet ?_)))
   cases h
   exact rt tbOk hR
  ·replace h := ite_f hc3 h
   refine kn (WC.seq (sr (lr3 rfl (nn ?_))))
   refine WC.cond rfl (fun hc4 => ?_) (fun hc4 => ?_)
   ·replace h := ite_t hc4 h
    refine sr (lr1 rfl (nr (WQ.thenRet ?_)))
    cases h
    exact rt tbOk hR
   ·replace h := ite_f hc4 h
    refine kn (WC.seq (sr (lr3 rfl (nn ?_))))
    refine WC.cond rfl (fun hc5 => ?_) (fun hc5 => ?_)
    ·replace h := ite_t hc5 h
     refine sr (lr1 rfl (nr (WQ.thenRet ?_)))
     cases h
     exact rt tbOk hR
    ·replace h := ite_f hc5 h
     refine kn (sr (lr1 rfl (nr ?_)))
     cases h
     exact rt tbOk hR
theorem versionOf_con {wg : World} (hw : WG wg) {e1 : ApiCodeEntry} {r : NomenclatureVersion} (h : versionOf e1 = some r) : Con Tryz.prog wg gl 138 [.v (.agg [.str e1.Code, .int .i64 e1.From, .int .i64 e1.To, .sl 1 (e1.Terms.map eLStr), .bool e1.Other])] [] (.v (.agg [.str r.code, .int .i64 r.from_])) [] := by
 unfold versionOf at h
 refine con_of_WC (S := slotsOf 0 _) Tryz.func138 rfl Tryz.ntmps138 rfl (fun t x hx => (slotsOf_get hx).2) ?_
 intro F L w ρ0 R hR
 try dsimp only [slotsOf]
 refine sr (lr2 rfl (ns (lr6 rfl (nr ?_))))
 cases h
 exact rt tbOk hR
theorem versionCmp_con {wg : World} (hw : WG wg) {v : NomenclatureVersion} {w1 : NomenclatureVersion} {r : Int} (h : versionCmp v w1 = some r) : Con Tryz.prog wg gl 139 [.v (.agg [.str v.code, .int .i64 v.from_]), .v (.agg [.str w1.code, .int .i64 w1.from_])] [] (.v (.int .i64 r)) [] := by
 unfold versionCmp at h
 refine con_of_WC (S := slotsOf 0 _) Tryz.func139 rfl Tryz.ntmps139 rfl (fun t x hx => (slotsOf_get hx).2) ?_
 intro F L w ρ0 R hR
 try dsimp only [slotsOf]
 refine sr (lr3 rfl (nn (WC.seq (sr (lr2 rfl ?_)))))
 refine WL.q [] rfl rfl rfl (q_eq rfl (by exact trivial) eg158 eqT158) ?_
 refine nn ?_
 refine WC.cond rfl (fun hc1 => ?_) (fun hc1 => ?_)
 ·replace h := ite_t hc1 h
  refine sr (lr1 rfl (nr (WQ.thenRet ?_)))
  cases h
  exact rt tbOk hR
 ·replace h := ite_f hc1 h
  refine kn (WC.seq (sr (lr5 rfl (nn ?_))))
  refine WC.cond rfl (fun hc2 => ?_) (fun hc2 => ?_)
  ·replace h := ite_t hc2 h
   refine sr (lr4 rfl ?_)
   replace h := bnd h; obtain ⟨v2, hvv2, h⟩ := h
   refine WL.call0 fn165 rfl rfl rfl rfl (by exact trivial) rfl (cmpStr_con hw hvv2) ?_
   refine lr1 rfl (nr (WQ.thenRet ?_))
   cases h
   exact rt tbOk hR
  ·replace h := ite_f hc2 h
   refine kn (sr (lr4 rfl ?_))
   replace h := bnd h; obtain ⟨v3, hvv3, h⟩ := h
   refine WL.call0 fn128 rfl rfl rfl rfl (by exact trivial) rfl (cmpInt_con hw hvv3) ?_
   refine lr1 rfl (nr ?_)
   cases h
   exact rt tbOk hR
theorem nomLevel_con {wg : World} (hw : WG wg) {code : Str} {r : Int} (h : nomLevel code = some r) : Con Tryz.prog wg gl 55 [.v (.str code)] [] (.v (.int .i64 r)) [] := by
 unfold nomLevel at h
 refine con_of_WC (S := slotsOf 0 _) Tryz.func55 rfl Tryz.ntmps55 rfl (fun t x hx => (slotsOf_get hx).2) ?_
 intro F L w ρ0 R hR
 try dsimp only [slotsOf]
 refine sr (lr1 rfl (nn (WC.seq (sr (lr2 rfl (nn ?_))))))
 refine WC.thenCut (X := Unit) (fun gG => ⟨[], []⟩) (fun gG => nomLevel_j1  = some r) ?_ ?_
 ·refine WC.block ?_
  refine WC.rounds 5 ?_
  refine sr (lr1 rfl (nn (WC.seq ?_)))
  refine WC.cond (b := true) rfl (fun hc1 => ?_) (fun hc1 => by cases hc1)
  refine kn (sb (sr ?_))
  refine WL.q [] rfl rfl rfl (q_aidx tbOk Tryz.underlying141 rfl rfl rfl rfl (by exact sideR) (by decide) rfl) ?_
  refine lr1 rfl (ns ?_)
  refine lr 6 rfl (by exact sideR) ?_
  replace h := bnd h; obtain ⟨v, hvv, h⟩ := h
  refine WL.gcall0 fn105 rfl rfl rfl rfl rfl (fun _ => (by exact sideR)) rfl (fun hg => (trimS_con hw (ite_t hg hvv))) ?_
  refine lr 2 rfl (by exact sideR) ?_
  refine nn ?_
  refine WC.cond rfl (fun hc2 => ?_) (fun hc2 => ?_)
  ·replace h := ite_t hc2 h
   refine sr (lr2 rfl (nr (rb (WQ.thenRet (rb ?_)))))
   cases h
   exact rt tbOk hR
  ·replace h := ite_f hc2 h
   refine WC.skip (bn (WC.region (lr2 rfl (WL.nil ?_))))
   refine WQ.round ?_
   refine sr (lr1 rfl (nn (WC.seq ?_)))
   refine WC.cond (b := true) rfl (fun hc3 => ?_) (fun hc3 => by cases hc3)
   refine kn (sb (sr ?_))
   refine WL.q [] rfl rfl rfl (q_aidx tbOk Tryz.underlying141 rfl rfl rfl rfl (by exact sideR) (by decide) rfl) ?_
   refine lr1 rfl (ns ?_)
   refine lr 6 rfl (by exact sideR) ?_
   replace h := bnd h; obtain ⟨v2, hvv2, h⟩ := h
   refine WL.gcall0 fn105 rfl rfl rfl rfl rfl (fun _ => (by exact sideR)) rfl (fun hg => (trimS_con hw (ite_t hg hvv2))) ?_
   refine lr 2 rfl (by exact sideR) ?_
   refine nn ?_
   refine WC.cond rfl (fun hc4 => ?_) (fun hc4 => ?_)
   ·replace h := ite_t hc4 h
    refine sr (lr2 rfl (nr (rb (WQ.thenRet (rb ?_)))))
    cases h
    exact rt tbOk hR
   ·replace h := ite_f hc4 h
    refine WC.skip (bn (WC.region (lr2 rfl (WL.nil ?_))))
    refine WQ.round ?_
    refine sr (lr1 rfl (nn (WC.seq ?_)))
    refine WC.cond (b := true) rfl (fun hc5 => ?_) (fun hc5 => by cases hc5)
    refine kn (sb (sr ?_))
    refine WL.q [] rfl rfl rfl (q_aidx tbOk Tryz.underlying141 rfl rfl rfl rfl (by exact sideR) (by decide) rfl) ?_
    refine lr1 rfl (ns ?_)
    refine lr 6 rfl (by exact sideR) ?_
    replace h := bnd h; obtain ⟨v3, hvv3, h⟩ := h
    refine WL.gcall0 fn105 rfl rfl rfl rfl rfl (fun _ => (by exact sideR)) rfl (fun hg => (trimS_con hw (ite_t hg hvv3))) ?_
    refine lr 2 rfl (by exact sideR) ?_
    refine nn ?_
    refine WC.cond rfl (fun hc6 => ?_) (fun hc6 => ?_)
    ·replace h := ite_t hc6 h
     refine sr (lr2 rfl (nr (rb (WQ.thenRet (rb ?_)))))
     cases h
     exact rt tbOk hR
    ·replace h := ite_f hc6 h
     refine WC.skip (bn (WC.region (lr2 rfl (WL.nil ?_))))
     refine WQ.round ?_
     refine sr (lr1 rfl (nn (WC.seq ?_)))
     refine WC.cond (b := true) rfl (fun hc7 => ?_) (fun hc7 => by cases hc7)
     refine kn (sb (sr ?_))
     refine WL.q [] rfl rfl rfl (q_aidx tbOk Tryz.underlying141 rfl rfl rfl rfl (by exact sideR) (by decide) rfl) ?_
     refine lr1 rfl (ns ?_)
     refine lr 6 rfl (by exact sideR) ?_
     replace h := bnd h; obtain ⟨v4, hvv4, h⟩ := h
     refine WL.gcall0 fn105 rfl rfl rfl rfl rfl (fun _ => (by exact sideR)) rfl (fun hg => (trimS_con hw (ite_t hg hvv4))) ?_
     refine lr 2 rfl (by exact sideR) ?_
     refine nn ?_
     refine WC.cond rfl (fun hc8 => ?_) (fun hc8 => ?_)
     ·replace h := ite_t hc8 h
      refine sr (lr2 rfl (nr (rb (WQ.thenRet (rb ?_)))))
      cases h
      exact rt tbOk hR
     ·replace h := ite_f hc8 h
      refine WC.skip (bn (WC.region (lr2 rfl (WL.nil ?_))))
      refine WQ.round ?_
      refine sr (lr1 rfl (nn (WC.seq ?_)))
      refine WC.cond (b := false) rfl (fun hc9 => by cases hc9) (fun hc9 => ?_)
      refine WC.exit (WQ.thenExit (eb ?_))
      exact WQ.cut [] () sub h
 ·intro _ h
  replace h : nomLevel_j1 = some _ := h
  unfold nomLevel_j1 at h
  try dsimp only [slotsOf]
  refine sr (lr1 rfl (nr ?_))
  cases h
  exact rt tbOk hR
theorem nomDescribed_con {wg : World} (hw : WG wg) {l : (List Str)} {r : Bool} (h : nomDescribed l = some r) : Con Tryz.prog wg gl 137 [.v (.sl 1 (l.map eStr))] [] (.v (.bool r)) [] := by
 unfold nomDescribed at h
 refine con_of_WC (S := slotsOf 0 _) Tryz.func137 rfl Tryz.ntmps137 rfl (fun t x hx => (slotsOf_get hx).2) ?_
 intro F L w ρ0 R hR
 try dsimp only [slotsOf]
 refine sr (lr1 rfl (ns (lr1 rfl ?_)))
 refine WL.q [] rfl rfl rfl (q_ev tbOk (.v (.int .i64 (l.length : Int))) rfl (by exact trivial) (by exact lenT)) ?_
 refine lr 3 rfl (by exact sideR) ?_
 replace h := bnd h; obtain ⟨v, hvv, h⟩ := h
 refine WL.gcall0 fn107 rfl rfl rfl rfl rfl (fun _ => (by exact sideR)) rfl (fun hg => (validWords_con hw (ite_t hg hvv))) ?_
 refine lr 2 rfl (by exact sideR) ?_
 refine nr ?_
 cases h
 exact rt tbOk hR
theorem validateEntry_con {wg : World} (hw : WG wg) {e1 : ApiCodeEntry} {r : Int} (h : validateEntry e1 = some r) : Con Tryz.prog wg gl 87 [.v (.agg [.str e1.Code, .int .i64 e1.From, .int .i64 e1.To, .sl 1 (e1.Terms.map eLStr), .bool e1.Other])] [] (.v (.int .i64 r)) [] := by
 unfold validateEntry at h
 refine con_of_WC (S := slotsOf 0 _) Tryz.func87 rfl Tryz.ntmps87 rfl (fun t x hx => (slotsOf_get hx).2) ?_
 intro F L w ρ0 R hR
 try dsimp only [slotsOf]
 refine sr (lr2 rfl (ns (lr2 rfl ?_)))
 replace h := bnd h; obtain ⟨v, hvv, h⟩ := h
 refine WL.call0 fn55 rfl rfl rfl rfl (by exact trivial) rfl (nomLevel_con hw hvv) ?_
 refine lr1 rfl (nn (sb (sr (lr3 rfl (nn ?_)))))
 refine WC.cond rfl (fun hc1 => ?_) (fun hc1 => ?_)
 ·replace h := ite_t hc1 h
  refine sr (lr1 rfl (nr (rb ?_)))
  cases h
  exact rt tbOk hR
 ·replace h := ite_f hc1 h
  refine sr ?_
  refine lr 16 rfl (by exact sideR) ?_
  refine nn ?_
  refine WC.cond rfl (fun hc2 => ?_) (fun hc2 => ?_)
  ·replace h := ite_t hc2 h
   refine sr (lr1 rfl (nr (rb ?_)))
   cases h
   exact rt tbOk hR
  ·replace h := ite_f hc2 h
   refine sr (lr2 rfl ?_)
   refine WL.q [] rfl rfl rfl (q_ev tbOk (.v (.int .i64 (e1.Terms.length : Int))) rfl (by exact trivial) (by exact lenT)) ?_
   refine lr2 rfl (nn ?_)
   refine WC.cond rfl (fun hc3 => ?_) (fun hc3 => ?_)
   ·replace h := ite_t hc3 h
    refine sr (lr1 rfl (nr (rb ?_)))
    cases h
    exact rt tbOk hR
   ·replace h := ite_f hc3 h
    refine WC.skip (bn (WC.seq (sr (lr2 rfl ?_))))
    refine WL.q [] rfl rfl rfl (q_ev tbOk (.v (.int .i64 (e1.Terms.length : Int))) rfl (by exact trivial) (by exact lenT)) ?_
    refine lr1 rfl (nn ?_)
    refine WC.thenCut (X := Unit) (fun gG => ⟨[(3, .v (.int .i64 v)), (1, .p 1 0)], [(1, .blk 54 [.v (.str e1.Code), .v (.int .i64 e1.From), .v (.int .i64 e1.To), .v (.sl 1 (e1.Terms.map eLStr)), .v (.bool e1.Other)])]⟩) (fun gG => validateEntry_j1 e1 v = some r) ?_ ?_
    ·refine WC.block ?_
     obtain ⟨eQ1, hl1, hk1⟩ := bnd h
     clear h
     refine WC.loop (σ := Int) (τ := ((Int) ⊕ (Unit))) (fun sS => ⟨[(38, .v (.int .i64 sS)), (37, .v (.int .i64 (e1.Terms.length : Int))), (36, .v (.sl 1 (e1.Terms.map eLStr))), (3, .v (.int .i64 v)), (1, .p 1 0)], [(1, .blk 54 [.v (.str e1.Code), .v (.int .i64 e1.From), .v (.int .i64 e1.To), .v (.sl 1 (e1.Terms.map eLStr)), .v (.bool e1.Other)])]⟩) (validateEntry_b1 e1 v) [] (0 : Int) hl1 sub ?_
     intro t38 m hn1 he1 hx1
     obtain ⟨o1, hf1⟩ := some_of hx1
     have h := hf1
     unfold validateEntry_b1 at h
     try dsimp only [slotsOf]
     refine sr (lr1 rfl (nn (WC.seq ?_)))
     refine WC.cond rfl (fun hc7 => ?_) (fun hc7 => ?_)
     ·replace h := ite_t hc7 h
      refine kn (sb (sr ?_))
      obtain ⟨g1, h⟩ := grd h
      replace h := bnd h; obtain ⟨x2, hxx2, h⟩ := h
      refine WL.q [] rfl rfl rfl (q_idx tbOk rfl (by exact trivial) g1 (map_get (f := eLStr) hxx2)) ?_
      refine lr2 rfl (ns (lr1 rfl ?_))
      replace h := bnd h; obtain ⟨v3, hvv3, h⟩ := h
      refine WL.call0 fn137 rfl rfl rfl rfl (by exact trivial) rfl (nomDescribed_con hw hvv3) ?_
      refine lr1 rfl (nn ?_)
      refine WC.cond rfl (fun hc8 => ?_) (fun hc8 => ?_)
      ·replace h := ite_t hc8 h
       refine sr (lr1 rfl (nr (rb ?_)))
       cases h
       have he := he1 _ hf1
       subst he
       have h : some (1 : Int) = some _ := hk1
       refine WQ.thenRet (rb ?_)
       cases h
       exact rt tbOk hR
      ·replace h := ite_f hc8 h
       refine WC.skip (bn (WC.region (lr2 rfl (WL.nil ?_))))
       cases h
       exact WQ.next [] (IntKind.i64.wrap (t38 + (1 : Int))) sub (hn1 _ hf1)
     ·replace h := ite_f hc7 h
      refine WC.exit (WQ.thenExit ?_)
      cases h
      have he := he1 _ hf1
      subst he
      replace h := hk1
      try dsimp only at h
      refine eb ?_
      exact WQ.cut [] () sub h
    ·intro _ h
     replace h : validateEntry_j1 e1 v = some _ := h
     unfold validateEntry_j1 at h
     try dsimp only [slotsOf]
     refine sr (lr2 rfl ?_)
     refine WL.q [] rfl rfl rfl (q_ev tbOk (.v (.int .i64 (e1.Terms.length : Int))) rfl (by exact trivial) (by exact lenT)) ?_
     refine lr2 rfl (ns (lr5 rfl (nn (WC.seq (sr (lr1 rfl (nn ?_)))))))
     refine WC.thenCut (X := Bool) (fun gG => ⟨[(7, .v (.bool gG))], []⟩) (fun gG => validateEntry_j2 gG = some r) ?_ ?_
     ·refine WC.block (sr (lr2 rfl (nn ?_)))
      refine WC.cond rfl (fun hc5 => ?_) (fun hc5 => ?_)
      ·replace h := ite_t hc5 h
       refine WC.region ?_
       refine lr 6 rfl (by exact sideR) ?_
       refine WL.nil (WQ.blockNormal ?_)
       exact WQ.cut [] (bif (decide ((0 : Int) < (e1.Terms.length : Int))) then true else e1.Other) sub h
      ·replace h := ite_f hc5 h
       refine sr (lr2 rfl (nn ?_))
       refine WC.cond rfl (fun hc6 => ?_) (fun hc6 => ?_)
       ·replace h := ite_t hc6 h
        refine WC.region ?_
        refine lr 7 rfl (by exact sideR) ?_
        refine WL.nil (WQ.blockNormal ?_)
        exact WQ.cut [] (bif (!(decide ((0 : Int) < (e1.Terms.length : Int)))) then true else e1.Other) sub h
       ·replace h := ite_f hc6 h
        refine WC.skip (WQ.blockNormal ?_)
        exact WQ.cut [] ((decide ((0 : Int) < (e1.Terms.length : Int))) == e1.Other) sub h
     ·intro wrong h
      replace h : validateEntry_j2 wrong = some _ := h
      unfold validateEntry_j2 at h
      try dsimp only [slotsOf]
      refine WC.seq (sr (lr1 rfl (nn ?_)))
      refine WC.cond rfl (fun hc4 => ?_) (fun hc4 => ?_)
      ·replace h := ite_t hc4 h
       refine sr (lr1 rfl (nr (WQ.thenRet ?_)))
       cases h
       exact rt tbOk hR
      ·replace h := ite_f hc4 h
       refine kn (sr (lr1 rfl (nr ?_)))
       cases h
       exact rt tbOk hR
theorem validateNote_con {wg : World} (hw : WG wg) {n1 : ApiCodeNote} {r : Int} (h : validateNote n1 = some r) : Con Tryz.prog wg gl 90 [.v (.agg [.str n1.Scope, .sl 1 (n1.Words.map eStr), .str n1.Target])] [] (.v (.int .i64 r)) [] := by
 unfold validateNote at h
 refine con_of_WC (S := slotsOf 0 _) Tryz.func90 rfl Tryz.ntmps90 rfl (fun t x hx => (slotsOf_get hx).2) ?_
 intro F L w ρ0 R hR
 try dsimp only [slotsOf]
 refine sr (lr2 rfl (nn (WC.seq (sr (lr2 rfl ?_)))))
 replace h := bnd h; obtain ⟨v, hvv, h⟩ := h
 refine WL.call0 fn55 rfl rfl rfl rfl (by exact trivial) rfl (nomLevel_con hw hvv) ?_
 refine lr 4 rfl (by exact sideR) ?_
 replace h := bnd h; obtain ⟨v2, hvv2, h⟩ := h
 refine WL.gcall0 fn137 rfl rfl rfl rfl rfl (fun _ => (by exact sideR)) rfl (fun hg => (nomDescribed_con hw (ite_t hg hvv2))) ?_
 refine lr 2 rfl (by exact sideR) ?_
 refine nn ?_
 refine WC.cond rfl (fun hc1 => ?_) (fun hc1 => ?_)
 ·replace h := ite_t hc1 h
  refine sr (lr1 rfl (nr (WQ.thenRet ?_)))
  cases h
  exact rt tbOk hR
 ·replace h := ite_f hc1 h
  refine kn (WC.seq (sr ?_))
  refine lr 6 rfl (by exact sideR) ?_
  replace h := bnd h; obtain ⟨v3, hvv3, h⟩ := h
  refine WL.gcall0 fn55 rfl rfl rfl rfl rfl (fun _ => (by exact sideR)) rfl (fun hg => (nomLevel_con hw (ite_t hg hvv3))) ?_
  refine lr 2 rfl (by exact sideR) ?_
  refine nn ?_
  refine WC.cond rfl (fun hc2 => ?_) (fun hc2 => ?_)
  ·replace h := ite_t hc2 h
   refine sr (lr1 rfl (nr (WQ.thenRet ?_)))
   cases h
   exact rt tbOk hR
  ·replace h := ite_f hc2 h
   refine kn (sr (lr1 rfl (nr ?_)))
   cases h
   exact rt tbOk hR
theorem validateOrder_con {wg : World} (hw : WG wg) {before : ApiCodeEntry} {e1 : ApiCodeEntry} {r : Int} (h : validateOrder before e1 = some r) : Con Tryz.prog wg gl 88 [.v (.agg [.str before.Code, .int .i64 before.From, .int .i64 before.To, .sl 1 (before.Terms.map eLStr), .bool before.Other]), .v (.agg [.str e1.Code, .int .i64 e1.From, .int .i64 e1.To, .sl 1 (e1.Terms.map eLStr), .bool e1.Other])] [] (.v (.int .i64 r)) [] := by
 unfold validateOrder at h
 refine con_of_WC (S := slotsOf 0 _) Tryz.func88 rfl Tryz.ntmps88 rfl (fun t x hx => (slotsOf_get hx).2) ?_
 intro F L w ρ0 R hR
 try dsimp only [slotsOf]
 refine sr (lr3 rfl (nn (WC.seq (WC.seq (WC.order mixed ?_)))))
 refine wr 1 rfl trivial ?_
 replace h := bnd h; obtain ⟨v, hvv, h⟩ := h
 refine WR.call0 fn138 rfl rfl rfl rfl (by exact trivial) rfl (versionOf_con hw hvv) ?_
 refine wr 1 rfl trivial ?_
 replace h := bnd h; obtain ⟨v2, hvv2, h⟩ := h
 refine WR.call0 fn138 rfl rfl rfl rfl (by exact trivial) rfl (versionOf_con hw hvv2) ?_
 replace h := bnd h; obtain ⟨v3, hvv3, h⟩ := h
 refine WR.call0 fn139 rfl rfl rfl rfl (by exact trivial) rfl (versionCmp_con hw hvv3) ?_
 refine wr 1 rfl trivial ?_
 refine WR.nil (by kernel_rfl) (WQ.thenNormal ?_)
 refine WC.cond rfl (fun hc1 => ?_) (fun hc1 => ?_)
 ·replace h := ite_t hc1 h
  refine sr (lr1 rfl (nr (WQ.thenRet ?_)))
  cases h
  exact rt tbOk hR
 ·replace h := ite_f hc1 h
  refine kn (WC.seq (sr ?_))
  refine lr 12 rfl (by exact sideR) ?_
  refine nn ?_
  refine WC.cond rfl (fun hc2 => ?_) (fun hc2 => ?_)
  ·replace h := ite_t hc2 h
   refine sr (lr1 rfl (nr (WQ.thenRet ?_)))
   cases h
   exact rt tbOk hR
  ·replace h := ite_f hc2 h
   refine kn (sr (lr1 rfl (nr ?_)))
   cases h
   exact rt tbOk hR
theorem hasParent_con {wg : World} (hw : WG wg) {b : ApiNomenclature} {e1 : ApiCodeEntry} {r : Bool} (h : hasParent b e1 = some r) : Con Tryz.prog wg gl 89 [.v (.agg [.sl 5 (b.Entries.map eApiCodeEntry), .sl 3 (b.Notes.map eApiCodeNote)]), .v (.agg [.str e1.Code, .int .i64 e1.From, .int .i64 e1.To, .sl 1 (e1.Terms.map eLStr), .bool e1.Other])] [] (.v (.bool r)) [] := by
 unfold hasParent at h
 refine con_of_WC (S := slotsOf 0 _) Tryz.func89 rfl Tryz.ntmps89 rfl (fun t x hx => (slotsOf_get hx).2) ?_
 intro F L w ρ0 R hR
 try dsimp only [slotsOf]
 refine sr (lr3 rfl (nn (WC.seq (sr (lr4 rfl (nn ?_))))))
 refine WC.cond rfl (fun hc1 => ?_) (fun hc1 => ?_)
 ·replace h := ite_t hc1 h
  refine sr (lr1 rfl (nr (WQ.thenRet ?_)))
  cases h
  exact rt tbOk hR
 ·replace h := ite_f hc1 h
  refine kn (sr ?_)
  obtain ⟨g1, h⟩ := grd h
  refine lr 8 rfl (by repeat' (first | exact trivial | assumption | intro _ | exact g1 (by assumption) | apply And.intro | exact sideT | (refine and_i ?_ ?_))) ?_
  refine ns (lr3 rfl (nn (WC.seq (sr (lr2 rfl ?_)))))
  refine WL.q [] rfl rfl rfl (q_ev tbOk (.v (.int .i64 (b.Entries.length : Int))) rfl (by exact trivial) (by exact lenT)) ?_
  refine lr1 rfl (nn ?_)
  refine WC.thenCut (X := Int) (fun gG => ⟨[(6, .v (.int .i64 gG)), (3, .p 3 0)], [(3, .blk 54 [.v (.str e1.Code), .v (.int .i64 e1.From), .v (.int .i64 e1.To), .v (.sl 1 (e1.Terms.map eLStr)), .v (.bool e1.Other)])]⟩) (fun gG => hasParent_j1 e1 gG = some r) ?_ ?_
  ·refine WC.block ?_
   obtain ⟨eQ1, hl1, hk1⟩ := bnd h
   clear h
   refine WC.loop (σ := Int × Int) (τ := (Int)) (fun sS => ⟨[(25, .v (.int .i64 sS.1)), (24, .v (.int .i64 (b.Entries.length : Int))), (23, .v (.sl 5 (b.Entries.map eApiCodeEntry))), (6, .v (.int .i64 sS.2)), (5, .v (.str ((e1.Code.take (IntKind.i64.wrap ((e1.Code.length : Int) - (2 : Int))).toNat).drop (0 : Int).toNat))), (3, .p 3 0)], [(3, .blk 54 [.v (.str e1.Code), .v (.int .i64 e1.From), .v (.int .i64 e1.To), .v (.sl 1 (e1.Terms.map eLStr)), .v (.bool e1.Other)])]⟩) (hasParent_b1 b e1) [] ((0 : Int), e1.From) hl1 sub ?_
   rintro ⟨t25, day2⟩ m hn1 he1 hx1
   obtain ⟨o1, hf1⟩ := some_of hx1
   have h := hf1
   unfold hasParent_b1 at h
   try dsimp only [slotsOf]
   refine sr (lr1 rfl (nn (WC.seq ?_)))
   refine WC.cond rfl (fun hc2 => ?_) (fun hc2 => ?_)
   ·replace h := ite_t hc2 h
    refine kn (WC.seq ?_)
    refine WC.thenCut (X := Int) (fun gG => ⟨[(6, .v (.int .i64 gG)), (25, .v (.int .i64 t25)), (24, .v (.int .i64 (b.Entries.length : Int))), (23, .v (.sl 5 (b.Entries.map eApiCodeEntry))), (5, .v (.str ((e1.Code.take (IntKind.i64.wrap ((e1.Code.length : Int) - (2 : Int))).toNat).drop (0 : Int).toNat))), (3, .p 3 0)], [(3, .blk 54 [.v (.str e1.Code), .v (.int .i64 e1.From), .v (.int .i64 e1.To), .v (.sl 1 (e1.Terms.map eLStr)), .v (.bool e1.Other)])]⟩) (fun gG => hasParent_j2 b e1 t25 gG = some o1) ?_ ?_
    ·refine WC.block (sr ?_)
     obtain ⟨g2, h⟩ := grd h
     replace h := bnd h; obtain ⟨x2, hxx2, h⟩ := h
     refine WL.q [] rfl rfl rfl (q_idx tbOk rfl (by exact trivial) g2 (map_get (f := eApiCodeEntry) hxx2)) ?_
     refine lr3 rfl (ns ?_)
     refine lr 16 rfl (by exact sideR) ?_
     refine nn ?_
     refine WC.cond rfl (fun hc3 => ?_) (fun hc3 => ?_)
     ·replace h := ite_t hc3 h
      refine WC.region (lr3 rfl (WL.nil (WQ.blockNormal ?_)))
      exact WQ.cut [] x2.To sub h
     ·replace h := ite_f hc3 h
      refine WC.skip (WQ.blockNormal ?_)
      exact WQ.cut [] day2 sub h
    ·intro day6 h
     replace h : hasParent_j2 b e1 t25 day6 = some _ := h
     unfold hasParent_j2 at h
     try dsimp only [slotsOf]
     refine WC.region (lr2 rfl (WL.nil ?_))
     cases h
     exact WQ.next [] ((IntKind.i64.wrap (t25 + (1 : Int))), day6) sub (hn1 _ hf1)
   ·replace h := ite_f hc2 h
    refine WC.exit (WQ.thenExit ?_)
    cases h
    have he := he1 _ hf1
    subst he
    replace h := hk1
    try dsimp only at h
    refine eb ?_
    exact WQ.cut [] day2 sub h
  ·intro day h
   replace h : hasParent_j1 e1 day = some _ := h
   unfold hasParent_j1 at h
   try dsimp only [slotsOf]
   refine sr (lr5 rfl (nr ?_))
   cases h
   exact rt tbOk hR
theorem nomValidate_con {wg : World} (hw : WG wg) {b : ApiNomenclature} {r : Int} (h : nomValidate b = some r) : Con Tryz.prog wg gl 36 [.v (.agg [.sl 5 (b.Entries.map eApiCodeEntry), .sl 3 (b.Notes.map eApiCodeNote)])] [] (.v (.int .i64 r)) [] := by
 unfold nomValidate at h
 refine con_of_WC (S := slotsOf 0 _) Tryz.func36 rfl Tryz.ntmps36 rfl (fun t x hx => (slotsOf_get hx).2) ?_
 intro F L w ρ0 R hR
 try dsimp only [slotsOf]
 refine sr (lr2 rfl (nn (WC.seq (sr (lr2 rfl ?_)))))
 refine WL.q [] rfl rfl rfl (q_ev tbOk (.v (.int .i64 (b.Entries.length : Int))) rfl (by exact trivial) (by exact lenT)) ?_
 refine lr 4 rfl (by exact sideR) ?_
 refine WL.gq [] rfl rfl rfl rfl (fun hg => q_ev tbOk (.v (.int .i64 (b.Notes.length : Int))) rfl (by exact sideR) (by exact lenT)) ?_
 refine lr 2 rfl (by exact sideR) ?_
 refine nn ?_
 refine WC.cond rfl (fun hc1 => ?_) (fun hc1 => ?_)
 ·replace h := ite_t hc1 h
  refine sr (lr1 rfl (nr (WQ.thenRet ?_)))
  cases h
  exact rt tbOk hR
 ·replace h := ite_f hc1 h
  refine kn (WC.seq (sr (lr2 rfl ?_)))
  refine WL.q [] rfl rfl rfl (q_ev tbOk (.v (.int .i64 (b.Entries.length : Int))) rfl (by exact trivial) (by exact lenT)) ?_
  refine lr1 rfl (nn ?_)
  refine WC.thenCut (X := Unit) (fun gG => ⟨[(1, .p 1 0)], [(1, .blk 28 [.v (.sl 5 (b.Entries.map eApiCodeEntry)), .v (.sl 3 (b.Notes.map eApiCodeNote))])]⟩) (fun gG => nomValidate_j1 b = some r) ?_ ?_
  ·refine WC.block ?_
   obtain ⟨eQ3, hl3, hk3⟩ := bnd h
   clear h
   refine WC.loop (σ := Int) (τ := ((Int) ⊕ (Unit))) (fun sS => ⟨[(25, .v (.int .i64 sS)), (24, .v (.int .i64 (b.Entries.length : Int))), (23, .v (.sl 5 (b.Entries.map eApiCodeEntry))), (1, .p 1 0)], [(1, .blk 28 [.v (.sl 5 (b.Entries.map eApiCodeEntry)), .v (.sl 3 (b.Notes.map eApiCodeNote))])]⟩) (nomValidate_b3 b) [] (0 : Int) hl3 sub ?_
   intro t25 m hn3 he3 hx3
   obtain ⟨o3, hf3⟩ := some_of hx3
   have h := hf3
   unfold nomValidate_b3 at h
   try dsimp only [slotsOf]
   refine sr (lr1 rfl (nn (WC.seq ?_)))
   refine WC.cond rfl (fun hc6 => ?_) (fun hc6 => ?_)
   ·replace h := ite_t hc6 h
    refine kn (WC.seq ?_)
    refine WC.thenCut (X := Unit) (fun gG => ⟨[(25, .v (.int .i64 t25)), (24, .v (.int .i64 (b.Entries.length : Int))), (23, .v (.sl 5 (b.Entries.map eApiCodeEntry))), (1, .p 1 0)], [(1, .blk 28 [.v (.sl 5 (b.Entries.map eApiCodeEntry)), .v (.sl 3 (b.Notes.map eApiCodeNote))])]⟩) (fun gG => nomValidate_j4 b t25 = some o3) ?_ ?_
    ·refine WC.block (sr (lr1 rfl ?_))
     obtain ⟨g3, h⟩ := grd h
     replace h := bnd h; obtain ⟨x7, hxx7, h⟩ := h
     refine WL.q [] rfl rfl rfl (q_idx tbOk rfl (by exact trivial) g3 (map_get (f := eApiCodeEntry) hxx7)) ?_
     refine lr4 rfl (nn (WC.seq (sr (lr1 rfl ?_))))
     replace h := bnd h; obtain ⟨v7, hvv7, h⟩ := h
     refine WL.call0 fn87 rfl rfl rfl rfl (by exact trivial) rfl (validateEntry_con hw hvv7) ?_
     refine lr1 rfl (ns (lr2 rfl (nn ?_)))
     refine WC.cond rfl (fun hc7 => ?_) (fun hc7 => ?_)
     ·replace h := ite_t hc7 h
      refine sr (lr2 rfl (nr (WQ.thenRet (rb ?_))))
      cases h
      have he := he3 _ hf3
      subst he
      have h : some v7 = some _ := hk3
      refine WQ.thenRet (rb ?_)
      cases h
      exact rt tbOk hR
     ·replace h := ite_f hc7 h
      refine kn (WC.seq (sr (lr2 rfl (nn ?_))))
      refine WC.cond rfl (fun hc8 => ?_) (fun hc8 => ?_)
      ·replace h := ite_t hc8 h
       refine WC.exit (eb ?_)
       exact WQ.cut [] () sub h
      ·replace h := ite_f hc8 h
       refine kn (WC.seq (WC.order mixed ?_))
       refine wr 4 rfl trivial ?_
       obtain ⟨g4, h⟩ := grd h
       replace h := bnd h; obtain ⟨x8, hxx8, h⟩ := h
       refine WR.q [] rfl rfl rfl (q_idx tbOk rfl (by exact trivial) g4 (map_get (f := eApiCodeEntry) hxx8)) ?_
       refine wr 2 rfl trivial ?_
       replace h := bnd h; obtain ⟨v8, hvv8, h⟩ := h
       refine WR.call0 fn88 rfl rfl rfl rfl (by exact trivial) rfl (validateOrder_con hw hvv8) ?_
       refine wr 1 rfl trivial ?_
       refine WR.nil (by kernel_rfl) (WQ.thenNormal (sr (lr2 rfl (nn ?_))))
       refine WC.cond rfl (fun hc9 => ?_) (fun hc9 => ?_)
       ·replace h := ite_t hc9 h
        refine sr (lr2 rfl (nr (rb ?_)))
        cases h
        have he := he3 _ hf3
        subst he
        have h : some v8 = some _ := hk3
        refine WQ.thenRet (rb ?_)
        cases h
        exact rt tbOk hR
       ·replace h := ite_f hc9 h
        refine WC.skip (WQ.blockNormal ?_)
        exact WQ.cut [] () sub h
    ·intro _ h
     replace h : nomValidate_j4 b t25 = some _ := h
     unfold nomValidate_j4 at h
     try dsimp only [slotsOf]
     refine WC.region (lr2 rfl (WL.nil ?_))
     cases h
     exact WQ.next [] (IntKind.i64.wrap (t25 + (1 : Int))) sub (hn3 _ hf3)
   ·replace h := ite_f hc6 h
    refine WC.exit (WQ.thenExit ?_)
    cases h
    have he := he3 _ hf3
    subst he
    replace h := hk3
    try dsimp only at h
    refine eb ?_
    exact WQ.cut [] () sub h
  ·intro _ h
   replace h : nomValidate_j1 b = some _ := h
   unfold nomValidate_j1 at h
   try dsimp only [slotsOf]
   refine WC.seq (sr (lr2 rfl ?_))
   refine WL.q [] rfl rfl rfl (q_ev tbOk (.v (.int .i64 (b.Entries.length : Int))) rfl (by exact trivial) (by exact lenT)) ?_
   refine lr1 rfl (nn ?_)
   refine WC.thenCut (X := Unit) (fun gG => ⟨[(1, .p 1 0)], [(1, .blk 28 [.v (.sl 5 (b.Entries.map eApiCodeEntry)), .v (.sl 3 (b.Notes.map eApiCodeNote))])]⟩) (fun gG => nomValidate_j2 b = some r) ?_ ?_
   ·refine WC.block ?_
    obtain ⟨eQ2, hl2, hk2⟩ := bnd h
    clear h
    refine WC.loop (σ := Int) (τ := ((Int) ⊕ (Unit))) (fun sS => ⟨[(52, .v (.int .i64 sS)), (51, .v (.int .i64 (b.Entries.length : Int))), (50, .v (.sl 5 (b.Entries.map eApiCodeEntry))), (1, .p 1 0)], [(1, .blk 28 [.v (.sl 5 (b.Entries.map eApiCodeEntry)), .v (.sl 3 (b.Notes.map eApiCodeNote))])]⟩) (nomValidate_b2 b) [] (0 : Int) hl2 sub ?_
    intro t52 m hn2 he2 hx2
    obtain ⟨o2, hf2⟩ := some_of hx2
    have h := hf2
    unfold nomValidate_b2 at h
    try dsimp only [slotsOf]
    refine sr (lr1 rfl (nn (WC.seq ?_)))
    refine WC.cond rfl (fun hc4 => ?_) (fun hc4 => ?_)
    ·replace h := ite_t hc4 h
     refine kn (sb (sr ?_))
     obtain ⟨g2, h⟩ := grd h
     replace h := bnd h; obtain ⟨x4, hxx4, h⟩ := h
     refine WL.q [] rfl rfl rfl (q_idx tbOk rfl (by exact trivial) g2 (map_get (f := eApiCodeEntry) hxx4)) ?_
     refine lr3 rfl (ns (lr2 rfl ?_))
     replace h := bnd h; obtain ⟨v4, hvv4, h⟩ := h
     refine WL.call0 fn89 rfl rfl rfl rfl (by exact trivial) rfl (hasParent_con hw hvv4) ?_
     refine lr1 rfl (nn ?_)
     refine WC.cond rfl (fun hc5 => ?_) (fun hc5 => ?_)
     ·replace h := ite_t hc5 h
      refine sr (lr1 rfl (nr (rb ?_)))
      cases h
      have he := he2 _ hf2
      subst he
      have h : some (6 : Int) = some _ := hk2
      refine WQ.thenRet (rb ?_)
      cases h
      exact rt tbOk hR
     ·replace h := ite_f hc5 h
      refine WC.skip (bn (WC.region (lr2 rfl (WL.nil ?_))))
      cases h
      exact WQ.next [] (IntKind.i64.wrap (t52 + (1 : Int))) sub (hn2 _ hf2)
    ·replace h := ite_f hc4 h
     refine WC.exit (WQ.thenExit ?_)
     cases h
     have he := he2 _ hf2
     subst he
     replace h := hk2
     try dsimp only at h
     refine eb ?_
     exact WQ.cut [] () sub h
   ·intro _ h
    replace h : nomValidate_j2 b = some _ := h
    unfold nomValidate_j2 at h
    try dsimp only [slotsOf]
    refine WC.seq (sr (lr2 rfl ?_))
    refine WL.q [] rfl rfl rfl (q_ev tbOk (.v (.int .i64 (b.Notes.length : Int))) rfl (by exact trivial) (by exact lenT)) ?_
    refine lr1 rfl (nn ?_)
    refine WC.thenCut (X := Unit) (fun gG => ⟨[], []⟩) (fun gG => nomValidate_j3  = some r) ?_ ?_
    ·refine WC.block ?_
     obtain ⟨eQ1, hl1, hk1⟩ := bnd h
     clear h
     refine WC.loop (σ := Int) (τ := ((Int) ⊕ (Unit))) (fun sS => ⟨[(64, .v (.int .i64 sS)), (63, .v (.int .i64 (b.Notes.length : Int))), (62, .v (.sl 3 (b.Notes.map eApiCodeNote)))], []⟩) (nomValidate_b1 b) [] (0 : Int) hl1 sub ?_
     intro t64 m hn1 he1 hx1
     obtain ⟨o1, hf1⟩ := some_of hx1
     have h := hf1
     unfold nomValidate_b1 at h
     try dsimp only [slotsOf]
     refine sr (lr1 rfl (nn (WC.seq ?_)))
     refine WC.cond rfl (fun hc2 => ?_) (fun hc2 => ?_)
     ·replace h := ite_t hc2 h
      refine kn (sb (sr ?_))
      obtain ⟨g1, h⟩ := grd h
      replace h := bnd h; obtain ⟨x2, hxx2, h⟩ := h
      refine WL.q [] rfl rfl rfl (q_idx tbOk rfl (by exact trivial) g1 (map_get (f := eApiCodeNote) hxx2)) ?_
      refine lr3 rfl (ns (lr1 rfl ?_))
      replace h := bnd h; obtain ⟨v2, hvv2, h⟩ := h
      refine WL.call0 fn90 rfl rfl rfl rfl (by exact trivial) rfl (validateNote_con hw hvv2) ?_
      refine lr1 rfl (ns (lr2 rfl (nn ?_)))
      refine WC.cond rfl (fun hc3 => ?_) (fun hc3 => ?_)
      ·replace h := ite_t hc3 h
       refine sr (lr2 rfl (nr (rb ?_)))
       cases h
       have he := he1 _ hf1
       subst he
       have h : some v2 = some _ := hk1
       refine WQ.thenRet (rb ?_)
       cases h
       exact rt tbOk hR
      ·replace h := ite_f hc3 h
       refine WC.skip (bn (WC.region (lr2 rfl (WL.nil ?_))))
       cases h
       exact WQ.next [] (IntKind.i64.wrap (t64 + (1 : Int))) sub (hn1 _ hf1)
     ·replace h := ite_f hc2 h
      refine WC.exit (WQ.thenExit ?_)
      cases h
      have he := he1 _ hf1
      subst he
      replace h := hk1
      try dsimp only at h
      refine eb ?_
      exact WQ.cut [] () sub h
    ·intro _ h
     replace h : nomValidate_j3 = some _ := h
     unfold nomValidate_j3 at h
     try dsimp only [slotsOf]
     refine sr (lr1 rfl (nr ?_))
     cases h
     exact rt tbOk hR
theorem refWord_con {wg : World} (hw : WG wg) {s : Str} {r : Bool} (h : refWord s = some r) : Con Tryz.prog wg gl 110 [.v (.str s)] [] (.v (.bool r)) [] := by
 unfold refWord at h
 refine con_of_WC (S := slotsOf 0 _) Tryz.func110 rfl Tryz.ntmps110 rfl (fun t x hx => (slotsOf_get hx).2) ?_
 intro F L w ρ0 R hR
 try dsimp only [slotsOf]
 refine sr (lr1 rfl (nn (WC.seq (sr (lr1 rfl (nn ?_))))))
 refine WC.thenCut (X := Unit) (fun gG => ⟨[(0, .v (.str s))], []⟩) (fun gG => refWord_j1 s = some r) ?_ ?_
 ·refine WC.block ?_
  obtain ⟨eQ1, hl1, hk1⟩ := bnd h
  clear h
  refine WC.loop (σ := Int) (τ := ((Bool) ⊕ (Unit))) (fun sS => ⟨[(3, .v (.int .i64 sS)), (0, .v (.str s))], []⟩) (refWord_b1 s) [] (0 : Int) hl1 sub ?_
  intro i m hn1 he1 hx1
  obtain ⟨o1, hf1⟩ := some_of hx1
  have h := hf1
  unfold refWord_b1 at h
  try dsimp only [slotsOf]
  refine WC.seq (sr (lr4 rfl (nn ?_)))
  refine WC.cond rfl (fun hc1 => ?_) (fun hc1 => ?_)
  ·replace h := ite_t hc1 h
   refine kn (sb (sr ?_))
   obtain ⟨g1, h⟩ := grd h
   obtain ⟨g2, h⟩ := grd h
   refine lr 10 rfl (by repeat' (first | exact trivial | assumption | intro _ | exact g1 (by assumption) | exact g2 (by assumption) | apply And.intro | exact sideT | (refine and_i ?_ ?_))) ?_
   refine nn ?_
   refine WC.cond rfl (fun hc2 => ?_) (fun hc2 => ?_)
   ·replace h := ite_t hc2 h
    refine sr (lr1 rfl (nr (rb ?_)))
    cases h
    have he := he1 _ hf1
    subst he
    have h : some false = some _ := hk1
    refine WQ.thenRet (rb ?_)
    cases h
    exact rt tbOk hR
   ·replace h := ite_f hc2 h
    refine WC.skip (bn (WC.region (lr3 rfl (WL.nil ?_))))
    cases h
    exact WQ.next [] (IntKind.i64.wrap (i + (1 : Int))) sub (hn1 _ hf1)
  ·replace h := ite_f hc1 h
   refine WC.exit (WQ.thenExit ?_)
   cases h
   have he := he1 _ hf1
   subst he
   replace h := hk1
   try dsimp only at h
   refine eb ?_
   exact WQ.cut [] () sub h
 ·intro _ h
  replace h : refWord_j1 s = some _ := h
  unfold refWord_j1 at h
  try dsimp only [slotsOf]
  refine sr ?_
  refine lr 9 rfl (by exact sideR) ?_
  refine nr ?_
  cases h
  exact rt tbOk hR
theorem refWords_con {wg : World} (hw : WG wg) {l : (List Str)} {r : Bool} (h : refWords l = some r) : Con Tryz.prog wg gl 104 [.v (.sl 1 (l.map eStr))] [] (.v (.bool r)) [] := by
 unfold refWords at h
 refine con_of_WC (S := slotsOf 0 _) Tryz.func104 rfl Tryz.ntmps104 rfl (fun t x hx => (slotsOf_get hx).2) ?_
 intro F L w ρ0 R hR
 try dsimp only [slotsOf]
 refine sr (lr1 rfl (nn (WC.seq (sr (lr1 rfl (nn ?_))))))
 refine WC.thenCut (X := Unit) (fun gG => ⟨[(0, .v (.sl 1 (l.map eStr)))], []⟩) (fun gG => refWords_j1 l = some r) ?_ ?_
 ·refine WC.block ?_
  obtain ⟨eQ1, hl1, hk1⟩ := bnd h
  clear h
  refine WC.loop (σ := Int) (τ := ((Bool) ⊕ (Unit))) (fun sS => ⟨[(3, .v (.int .i64 sS)), (0, .v (.sl 1 (l.map eStr)))], []⟩) (refWords_b1 l) [] (0 : Int) hl1 sub ?_
  intro i m hn1 he1 hx1
  obtain ⟨o1, hf1⟩ := some_of hx1
  have h := hf1
  unfold refWords_b1 at h
  try dsimp only [slotsOf]
  refine WC.seq (sr (lr2 rfl ?_))
  refine WL.q [] rfl rfl rfl (q_ev tbOk (.v (.int .i64 (l.length : Int))) rfl (by exact trivial) (by exact lenT)) ?_
  refine lr1 rfl (nn ?_)
  refine WC.cond rfl (fun hc1 => ?_) (fun hc1 => ?_)
  ·replace h := ite_t hc1 h
   refine kn (sb (WC.seq (WC.order mixed ?_)))
   refine wr 2 rfl trivial ?_
   obtain ⟨g1, h⟩ := grd h
   replace h := bnd h; obtain ⟨x2, hxx2, h⟩ := h
   refine WR.q [] rfl rfl rfl (q_idx tbOk rfl (by exact trivial) g1 (map_get (f := eStr) hxx2)) ?_
   refine wr 1 rfl trivial ?_
   replace h := bnd h; obtain ⟨v2, hvv2, h⟩ := h
   refine WR.call0 fn110 rfl rfl rfl rfl (by exact trivial) rfl (refWord_con hw hvv2) ?_
   refine wr 8 rfl (by exact sideR) ?_
   obtain ⟨g2, h⟩ := grd h
   refine WR.gq [] rfl rfl rfl rfl (fun hg => q_idx tbOk rfl (by exact sideR) (g2 hg).1 (map_getD (f := eStr) (g2 hg).2 (g2 hg).1)) ?_
   refine wr 3 rfl (by exact sideR) ?_
   obtain ⟨g3, h⟩ := grd h
   refine WR.gq [] rfl rfl rfl rfl (fun hg => q_idx tbOk rfl (by exact sideR) (g3 hg).1 (map_getD (f := eStr) (g3 hg).2 (g3 hg).1)) ?_
   refine wr 4 rfl (by exact sideR) ?_
   refine WR.nil (by kernel_rfl) (WQ.thenNormal ?_)
   refine WC.cond rfl (fun hc2 => ?_) (fun hc2 => ?_)
   ·replace h := ite_t hc2 h
    refine sr (lr1 rfl (nr (rb ?_)))
    cases h
    have he := he1 _ hf1
    subst he
    have h : some false = some _ := hk1
    refine WQ.thenRet (rb ?_)
    cases h
    exact rt tbOk hR
   ·replace h := ite_f hc2 h
    refine WC.skip (bn (WC.region (lr3 rfl (WL.nil ?_))))
    cases h
    exact WQ.next [] (IntKind.i64.wrap (i + (1 : Int))) sub (hn1 _ hf1)
  ·replace h := ite_f hc1 h
   refine WC.exit (WQ.thenExit ?_)
   cases h
   have he := he1 _ hf1
   subst he
   replace h := hk1
   try dsimp only at h
   refine eb ?_
   exact WQ.cut [] () sub h
 ·intro _ h
  replace h : refWords_j1 l = some _ := h
  unfold refWords_j1 at h
  try dsimp only [slotsOf]
  refine sr (lr1 rfl ?_)
  refine WL.q [] rfl rfl rfl (q_ev tbOk (.v (.int .i64 (l.length : Int))) rfl (by exact trivial) (by exact lenT)) ?_
  refine lr2 rfl (nr ?_)
  cases h
  exact rt tbOk hR
theorem refLevel_con {wg : World} (hw : WG wg) {s : Str} {r : Int} (h : refLevel s = some r) : Con Tryz.prog wg gl 103 [.v (.str s)] [] (.v (.int .i64 r)) [] := by
 unfold refLevel at h
 refine con_of_WC (S := slotsOf 0 _) Tryz.func103 rfl Tryz.ntmps103 rfl (fun t x hx => (slotsOf_get hx).2) ?_
 intro F L w ρ0 R hR
 try dsimp only [slotsOf]
 refine sr (lr1 rfl (nn (WC.seq (sr (lr1 rfl (nn ?_))))))
 refine WC.thenCut (X := Unit) (fun gG => ⟨[(0, .v (.str s))], []⟩) (fun gG => refLevel_j1 s = some r) ?_ ?_
 ·refine WC.block ?_
  obtain ⟨eQ1, hl1, hk1⟩ := bnd h
  clear h
  refine WC.loop (σ := Int) (τ := ((Int) ⊕ (Unit))) (fun sS => ⟨[(3, .v (.int .i64 sS)), (0, .v (.str s))], []⟩) (refLevel_b1 s) [] (0 : Int) hl1 sub ?_
  intro i m hn1 he1 hx1
  obtain ⟨o1, hf1⟩ := some_of hx1
  have h := hf1
  unfold refLevel_b1 at h
  try dsimp only [slotsOf]
  refine WC.seq (sr (lr4 rfl (nn ?_)))
  refine WC.cond rfl (fun hc2 => ?_) (fun hc2 => ?_)
  ·replace h := ite_t hc2 h
   refine kn (sb (sr ?_))
   obtain ⟨g1, h⟩ := grd h
   obtain ⟨g2, h⟩ := grd h
   refine lr 10 rfl (by repeat' (first | exact trivial | assumption | intro _ | exact g1 (by assumption) | exact g2 (by assumption) | apply And.intro | exact sideT | (refine and_i ?_ ?_))) ?_
   refine nn ?_
   refine WC.cond rfl (fun hc3 => ?_) (fun hc3 => ?_)
   ·replace h := ite_t hc3 h
    refine sr (lr1 rfl (nr (rb ?_)))
    cases h
    have he := he1 _ hf1
    subst he
    have h : some (0 : Int) = some _ := hk1
    refine WQ.thenRet (rb ?_)
    cases h
    exact rt tbOk hR
   ·replace h := ite_f hc3 h
    refine WC.skip (bn (WC.region (lr3 rfl (WL.nil ?_))))
    cases h
    exact WQ.next [] (IntKind.i64.wrap (i + (1 : Int))) sub (hn1 _ hf1)
  ·replace h := ite_f hc2 h
   refine WC.exit (WQ.thenExit ?_)
   cases h
   have he := he1 _ hf1
   subst he
   replace h := hk1
   try dsimp only at h
   refine eb ?_
   exact WQ.cut [] () sub h
 ·intro _ h
  replace h : refLevel_j1 s = some _ := h
  unfold refLevel_j1 at h
  try dsimp only [slotsOf]
  refine WC.seq (sr ?_)
  refine lr 9 rfl (by exact sideR) ?_
  refine nn ?_
  refine WC.cond rfl (fun hc1 => ?_) (fun hc1 => ?_)
  ·replace h := ite_t hc1 h
   refine sr (lr1 rfl (nr (WQ.thenRet ?_)))
   cases h
   exact rt tbOk hR
  ·replace h := ite_f hc1 h
   refine kn (sr (lr3 rfl (nr ?_)))
   cases h
   exact rt tbOk hR
theorem refOne_con {wg : World} (hw : WG wg) {x : ApiCodeEntry} {r : Int} (h : refOne x = some r) : Con Tryz.prog wg gl 53 [.v (.agg [.str x.Code, .int .i64 x.From, .int .i64 x.To, .sl 1 (x.Terms.map eLStr), .bool x.Other])] [] (.v (.int .i64 r)) [] := by
 unfold refOne at h
 refine con_of_WC (S := slotsOf 0 _) Tryz.func53 rfl Tryz.ntmps53 rfl (fun t x hx => (slotsOf_get hx).2) ?_
 intro F L w ρ0 R hR
 try dsimp only [slotsOf]
 refine sr (lr2 rfl (nn (WC.seq (sr (lr2 rfl ?_)))))
 replace h := bnd h; obtain ⟨v, hvv, h⟩ := h
 refine WL.call0 fn103 rfl rfl rfl rfl (by exact trivial) rfl (refLevel_con hw hvv) ?_
 refine lr1 rfl (nn ?_)
 refine WC.cond rfl (fun hc1 => ?_) (fun hc1 => ?_)
 ·replace h := ite_t hc1 h
  refine sr (lr1 rfl (nr (WQ.thenRet ?_)))
  cases h
  exact rt tbOk hR
 ·replace h := ite_f hc1 h
  refine kn (WC.seq (sr ?_))
  refine lr 15 rfl (by exact sideR) ?_
  refine nn ?_
  refine WC.cond rfl (fun hc2 => ?_) (fun hc2 => ?_)
  ·replace h := ite_t hc2 h
   refine sr (lr1 rfl (nr (WQ.thenRet ?_)))
   cases h
   exact rt tbOk hR
  ·replace h := ite_f hc2 h
   refine kn (WC.seq (sr (lr2 rfl ?_)))
   refine WL.q [] rfl rfl rfl (q_ev tbOk (.v (.int .i64 (x.Terms.length : Int))) rfl (by exact trivial) (by exact lenT)) ?_
   refine lr1 rfl (nn ?_)
   refine WC.cond rfl (fun hc3 => ?_) (fun hc3 => ?_)
   ·replace h := ite_t hc3 h
    refine sr (lr1 rfl (nr (WQ.thenRet ?_)))
    cases h
    exact rt tbOk hR
   ·replace h := ite_f hc3 h
    refine kn (WC.seq (sr (lr1 rfl (nn ?_))))
    refine WC.thenCut (X := Unit) (fun gG => ⟨[(1, .p 1 0)], [(1, .blk 54 [.v (.str x.Code), .v (.int .i64 x.From), .v (.int .i64 x.To), .v (.sl 1 (x.Terms.map eLStr)), .v (.bool x.Other)])]⟩) (fun gG => refOne_j1 x = some r) ?_ ?_
    ·refine WC.block ?_
     obtain ⟨eQ1, hl1, hk1⟩ := bnd h
     clear h
     refine WC.loop (σ := Int) (τ := ((Int) ⊕ (Unit))) (fun sS => ⟨[(3, .v (.int .i64 sS)), (1, .p 1 0)], [(1, .blk 54 [.v (.str x.Code), .v (.int .i64 x.From), .v (.int .i64 x.To), .v (.sl 1 (x.Terms.map eLStr)), .v (.bool x.Other)])]⟩) (refOne_b1 x) [] (0 : Int) hl1 sub ?_
     intro i m hn1 he1 hx1
     obtain ⟨o1, hf1⟩ := some_of hx1
     have h := hf1
     unfold refOne_b1 at h
     try dsimp only [slotsOf]
     refine WC.seq (sr (lr3 rfl ?_))
     refine WL.q [] rfl rfl rfl (q_ev tbOk (.v (.int .i64 (x.Terms.length : Int))) rfl (by exact trivial) (by exact lenT)) ?_
     refine lr1 rfl (nn ?_)
     refine WC.cond rfl (fun hc9 => ?_) (fun hc9 => ?_)
     ·replace h := ite_t hc9 h
      refine kn (sb (sr (lr3 rfl ?_)))
      obtain ⟨g1, h⟩ := grd h
      replace h := bnd h; obtain ⟨x3, hxx3, h⟩ := h
      refine WL.q [] rfl rfl rfl (q_idx tbOk rfl (by exact trivial) g1 (map_get (f := eLStr) hxx3)) ?_
      refine lr1 rfl ?_
      replace h := bnd h; obtain ⟨v4, hvv4, h⟩ := h
      refine WL.call0 fn104 rfl rfl rfl rfl (by exact trivial) rfl (refWords_con hw hvv4) ?_
      refine lr 5 rfl (by exact sideR) ?_
      obtain ⟨g2, h⟩ := grd h
      refine WL.gq [] rfl rfl rfl rfl (fun hg => q_idx tbOk rfl (by exact sideR) (g2 hg).1 (map_getD (f := eLStr) (g2 hg).2 (g2 hg).1)) ?_
      refine lr 1 rfl (by exact sideR) ?_
      refine WL.gq [] rfl rfl rfl rfl (fun hg => q_ev tbOk (.v (.int .i64 ((x.Terms.getD i.toNat default).length : Int))) rfl (by exact sideR) (by exact lenT)) ?_
      refine lr 2 rfl (by exact sideR) ?_
      refine nn ?_
      refine WC.cond rfl (fun hc10 => ?_) (fun hc10 => ?_)
      ·replace h := ite_t hc10 h
       refine sr (lr1 rfl (nr (rb ?_)))
       cases h
       have he := he1 _ hf1
       subst he
       have h : some (1 : Int) = some _ := hk1
       refine WQ.thenRet (rb ?_)
       cases h
       exact rt tbOk hR
      ·replace h := ite_f hc10 h
       refine WC.skip (bn (WC.region (lr3 rfl (WL.nil ?_))))
       cases h
       exact WQ.next [] (IntKind.i64.wrap (i + (1 : Int))) sub (hn1 _ hf1)
     ·replace h := ite_f hc9 h
      refine WC.exit (WQ.thenExit ?_)
      cases h
      have he := he1 _ hf1
      subst he
      replace h := hk1
      try dsimp only at h
      refine eb ?_
      exact WQ.cut [] () sub h
    ·intro _ h
     replace h : refOne_j1 x = some _ := h
     unfold refOne_j1 at h
     try dsimp only [slotsOf]
     refine sr (lr2 rfl ?_)
     refine WL.q [] rfl rfl rfl (q_ev tbOk (.v (.int .i64 (x.Terms.length : Int))) rfl (by exact trivial) (by exact lenT)) ?_
     refine lr2 rfl (nn (WC.seq (sr (lr2 rfl ?_))))
     replace h := bnd h; obtain ⟨v2, hvv2, h⟩ := h
     refine WL.call0 fn103 rfl rfl rfl rfl (by exact trivial) rfl (refLevel_con hw hvv2) ?_
     refine nn ?_
     refine WC.thenCut (X := Unit) (fun gG => ⟨[], []⟩) (fun gG => refOne_j2  = some r) ?_ ?_
     ·refine WC.block (sr (lr2 rfl (nn ?_)))
      refine WC.cond rfl (fun hc4 => ?_) (fun hc4 => ?_)
      ·replace h := ite_t hc4 h
       refine sr ?_
       refine lr 5 rfl (by exact sideR) ?_
       refine nn ?_
       refine WC.cond rfl (fun hc5 => ?_) (fun hc5 => ?_)
       ·replace h := ite_t hc5 h
        refine sr (lr1 rfl (nr (rb ?_)))
        cases h
        exact rt tbOk hR
       ·replace h := ite_f hc5 h
        refine WC.skip (WQ.blockNormal ?_)
        exact WQ.cut [] () sub h
      ·replace h := ite_f hc4 h
       refine sr (lr2 rfl (nn ?_))
       refine WC.cond rfl (fun hc6 => ?_) (fun hc6 => ?_)
       ·replace h := ite_t hc6 h
        refine sr ?_
        refine lr 6 rfl (by exact sideR) ?_
        refine nn ?_
        refine WC.cond rfl (fun hc7 => ?_) (fun hc7 => ?_)
        ·replace h := ite_t hc7 h
         refine sr (lr1 rfl (nr (rb ?_)))
         cases h
         exact rt tbOk hR
        ·replace h := ite_f hc7 h
         refine WC.skip (WQ.blockNormal ?_)
         exact WQ.cut [] () sub h
       ·replace h := ite_f hc6 h
        refine sr (lr4 rfl (nn ?_))
        refine WC.cond rfl (fun hc8 => ?_) (fun hc8 => ?_)
        ·replace h := ite_t hc8 h
         refine sr (lr1 rfl (nr (rb ?_)))
         cases h
         exact rt tbOk hR
        ·replace h := ite_f hc8 h
         refine WC.skip (WQ.blockNormal ?_)
         exact WQ.cut [] () sub h
     ·intro _ h
      replace h : refOne_j2 = some _ := h
      unfold refOne_j2 at h
      try dsimp only [slotsOf]
      refine sr (lr1 rfl (nr ?_))
      cases h
      exact rt tbOk hR
theorem refNote_con {wg : World} (hw : WG wg) {x : ApiCodeNote} {r : Bool} (h : refNote x = some r) : Con Tryz.prog wg gl 51 [.v (.agg [.str x.Scope, .sl 1 (x.Words.map eStr), .str x.Target])] [] (.v (.bool r)) [] := by
 unfold refNote at h
 refine con_of_WC (S := slotsOf 0 _) Tryz.func51 rfl Tryz.ntmps51 rfl (fun t x hx => (slotsOf_get hx).2) ?_
 intro F L w ρ0 R hR
 try dsimp only [slotsOf]
 refine sr (lr2 rfl (ns (lr2 rfl ?_)))
 replace h := bnd h; obtain ⟨v, hvv, h⟩ := h
 refine WL.call0 fn103 rfl rfl rfl rfl (by exact trivial) rfl (refLevel_con hw hvv) ?_
 refine lr 4 rfl (by exact sideR) ?_
 replace h := bnd h; obtain ⟨v2, hvv2, h⟩ := h
 refine WL.gcall0 fn104 rfl rfl rfl rfl rfl (fun _ => (by exact sideR)) rfl (fun hg => (refWords_con hw (ite_t hg hvv2))) ?_
 refine lr 4 rfl (by exact sideR) ?_
 refine WL.gq [] rfl rfl rfl rfl (fun hg => q_ev tbOk (.v (.int .i64 (x.Words.length : Int))) rfl (by exact sideR) (by exact lenT)) ?_
 refine lr 9 rfl (by exact sideR) ?_
 replace h := bnd h; obtain ⟨v3, hvv3, h⟩ := h
 refine WL.gcall0 fn103 rfl rfl rfl rfl rfl (fun _ => (by exact sideR)) rfl (fun hg => (refLevel_con hw (ite_t hg hvv3))) ?_
 refine lr 4 rfl (by exact sideR) ?_
 refine nr ?_
 cases h
 exact rt tbOk hR
theorem refCovered_con {wg : World} (hw : WG wg) {b : ApiNomenclature} {code : Str} {from_ : Int} {to_ : Int} {r : Bool} (h : refCovered b code from_ to_ = some r) : Con Tryz.prog wg gl 96 [.v (.agg [.sl 5 (b.Entries.map eApiCodeEntry), .sl 3 (b.Notes.map eApiCodeNote)]), .v (.str code), .v (.int .i64 from_), .v (.int .i64 to_)] [] (.v (.bool r)) [] := by
 unfold refCovered at h
 refine con_of_WC (S := slotsOf 0 _) Tryz.func96 rfl Tryz.ntmps96 rfl (fun t x hx => (slotsOf_get hx).2) ?_
 intro F L w ρ0 R hR
 try dsimp only [slotsOf]
 refine sr (lr2 rfl (nn (WC.seq (sr (lr1 rfl (nn ?_))))))
 refine WC.thenCut (X := Int) (fun gG => ⟨[(2, .v (.int .i64 gG)), (3, .v (.int .i64 to_))], []⟩) (fun gG => refCovered_j1 to_ gG = some r) ?_ ?_
 ·refine WC.block ?_
  obtain ⟨eQ1, hl1, hk1⟩ := bnd h
  clear h
  refine WC.loop (σ := Int × Int) (τ := (Int)) (fun sS => ⟨[(9, .v (.int .i64 sS.1)), (4, .p 4 0), (1, .v (.str code)), (2, .v (.int .i64 sS.2)), (3, .v (.int .i64 to_))], [(4, .blk 28 [.v (.sl 5 (b.Entries.map eApiCodeEntry)), .v (.sl 3 (b.Notes.map eApiCodeNote))])]⟩) (refCovered_b1 b code to_) [] ((0 : Int), from_) hl1 sub ?_
  rintro ⟨i, from_3⟩ m hn1 he1 hx1
  obtain ⟨o1, hf1⟩ := some_of hx1
  have h := hf1
  unfold refCovered_b1 at h
  try dsimp only [slotsOf]
  refine WC.seq (sr (lr3 rfl ?_))
  refine WL.q [] rfl rfl rfl (q_ev tbOk (.v (.int .i64 (b.Entries.length : Int))) rfl (by exact trivial) (by exact lenT)) ?_
  refine lr1 rfl (nn ?_)
  refine WC.cond rfl (fun hc1 => ?_) (fun hc1 => ?_)
  ·replace h := ite_t hc1 h
   refine kn (WC.seq ?_)
   refine WC.thenCut (X := Int) (fun gG => ⟨[(2, .v (.int .i64 gG)), (9, .v (.int .i64 i)), (4, .p 4 0), (1, .v (.str code)), (3, .v (.int .i64 to_))], [(4, .blk 28 [.v (.sl 5 (b.Entries.map eApiCodeEntry)), .v (.sl 3 (b.Notes.map eApiCodeNote))])]⟩) (fun gG => refCovered_j2 b code to_ i gG = some o1) ?_ ?_
   ·refine WC.block (sr (lr3 rfl ?_))
    obtain ⟨g1, h⟩ := grd h
    replace h := bnd h; obtain ⟨x2, hxx2, h⟩ := h
    refine WL.q [] rfl rfl rfl (q_idx tbOk rfl (by exact trivial) g1 (map_get (f := eApiCodeEntry) hxx2)) ?_
    refine lr3 rfl (ns ?_)
    refine lr 10 rfl (by exact sideR) ?_
    refine nn ?_
    refine WC.cond rfl (fun hc2 => ?_) (fun hc2 => ?_)
    ·replace h := ite_t hc2 h
     refine WC.region (lr5 rfl (WL.nil (WQ.blockNormal ?_)))
     exact WQ.cut [] (if x2.To > from_3 then x2.To else from_3) sub h
    ·replace h := ite_f hc2 h
     refine WC.skip (WQ.blockNormal ?_)
     exact WQ.cut [] from_3 sub h
   ·intro from_7 h
    replace h : refCovered_j2 b code to_ i from_7 = some _ := h
    unfold refCovered_j2 at h
    try dsimp only [slotsOf]
    refine WC.region (lr3 rfl (WL.nil ?_))
    cases h
    exact WQ.next [] ((IntKind.i64.wrap (i + (1 : Int))), from_7) sub (hn1 _ hf1)
  ·replace h := ite_f hc1 h
   refine WC.exit (WQ.thenExit ?_)
   cases h
   have he := he1 _ hf1
   subst he
   replace h := hk1
   try dsimp only at h
   refine eb ?_
   exact WQ.cut [] from_3 sub h
 ·intro from_2 h
  replace h : refCovered_j1 to_ from_2 = some _ := h
  unfold refCovered_j1 at h
  try dsimp only [slotsOf]
  refine sr (lr4 rfl (nr ?_))
  cases h
  exact rt tbOk hR
theorem refBook_con {wg : World} (hw : WG wg) {b : ApiNomenclature} {r : Int} (h : refBook b = some r) : Con Tryz.prog wg gl 42 [.v (.agg [.sl 5 (b.Entries.map eApiCodeEntry), .sl 3 (b.Notes.map eApiCodeNote)])] [] (.v (.int .i64 r)) [] := by
 unfold refBook at h
 refine con_of_WC (S := slotsOf 0 _) Tryz.func42 rfl Tryz.ntmps42 rfl (fun t x hx => (slotsOf_get hx).2) ?_
 intro F L w ρ0 R hR
 try dsimp only [slotsOf]
 refine sr (lr2 rfl (nn (WC.seq (sr (lr2 rfl ?_)))))
 refine WL.q [] rfl rfl rfl (q_ev tbOk (.v (.int .i64 (b.Entries.length : Int))) rfl (by exact trivial) (by exact lenT)) ?_
 refine lr 4 rfl (by exact sideR) ?_
 refine WL.gq [] rfl rfl rfl rfl (fun hg => q_ev tbOk (.v (.int .i64 (b.Notes.length : Int))) rfl (by exact sideR) (by exact lenT)) ?_
 refine lr 2 rfl (by exact sideR) ?_
 refine nn ?_
 refine WC.cond rfl (fun hc1 => ?_) (fun hc1 => ?_)
 ·replace h := ite_t hc1 h
  refine sr (lr1 rfl (nr (WQ.thenRet ?_)))
  cases h
  exact rt tbOk hR
 ·replace h := ite_f hc1 h
  refine kn (WC.seq (sr (lr1 rfl (nn ?_))))
  refine WC.thenCut (X := Unit) (fun gG => ⟨[(1, .p 1 0)], [(1, .blk 28 [.v (.sl 5 (b.Entries.map eApiCodeEntry)), .v (.sl 3 (b.Notes.map eApiCodeNote))])]⟩) (fun gG => refBook_j1 b = some r) ?_ ?_
  ·refine WC.block ?_
   obtain ⟨eQ3, hl3, hk3⟩ := bnd h
   clear h
   refine WC.loop (σ := Int) (τ := ((Int) ⊕ (Unit))) (fun sS => ⟨[(3, .v (.int .i64 sS)), (1, .p 1 0)], [(1, .blk 28 [.v (.sl 5 (b.Entries.map eApiCodeEntry)), .v (.sl 3 (b.Notes.map eApiCodeNote))])]⟩) (refBook_b3 b) [] (0 : Int) hl3 sub ?_
   intro i5 m hn3 he3 hx3
   obtain ⟨o3, hf3⟩ := some_of hx3
   have h := hf3
   unfold refBook_b3 at h
   try dsimp only [slotsOf]
   refine WC.seq (sr (lr3 rfl ?_))
   refine WL.q [] rfl rfl rfl (q_ev tbOk (.v (.int .i64 (b.Entries.length : Int))) rfl (by exact trivial) (by exact lenT)) ?_
   refine lr1 rfl (nn ?_)
   refine WC.cond rfl (fun hc6 => ?_) (fun hc6 => ?_)
   ·replace h := ite_t hc6 h
    refine kn (WC.seq ?_)
    refine WC.thenCut (X := Unit) (fun gG => ⟨[(3, .v (.int .i64 i5)), (1, .p 1 0)], [(1, .blk 28 [.v (.sl 5 (b.Entries.map eApiCodeEntry)), .v (.sl 3 (b.Notes.map eApiCodeNote))])]⟩) (fun gG => refBook_j4 b i5 = some o3) ?_ ?_
    ·refine WC.block (sr (lr3 rfl ?_))
     obtain ⟨g4, h⟩ := grd h
     replace h := bnd h; obtain ⟨x7, hxx7, h⟩ := h
     refine WL.q [] rfl rfl rfl (q_idx tbOk rfl (by exact trivial) g4 (map_get (f := eApiCodeEntry) hxx7)) ?_
     refine lr3 rfl (nn (WC.seq (sr (lr1 rfl ?_))))
     replace h := bnd h; obtain ⟨v6, hvv6, h⟩ := h
     refine WL.call0 fn53 rfl rfl rfl rfl (by exact trivial) rfl (refOne_con hw hvv6) ?_
     refine lr1 rfl (ns (lr2 rfl (nn ?_)))
     refine WC.cond rfl (fun hc7 => ?_) (fun hc7 => ?_)
     ·replace h := ite_t hc7 h
      refine sr (lr2 rfl (nr (WQ.thenRet (rb ?_))))
      cases h
      have he := he3 _ hf3
      subst he
      have h : some v6 = some _ := hk3
      refine WQ.thenRet (rb ?_)
      cases h
      exact rt tbOk hR
     ·replace h := ite_f hc7 h
      refine kn (WC.seq (sr (lr2 rfl (nn ?_))))
      refine WC.cond rfl (fun hc8 => ?_) (fun hc8 => ?_)
      ·replace h := ite_t hc8 h
       refine WC.exit (eb ?_)
       exact WQ.cut [] () sub h
      ·replace h := ite_f hc8 h
       refine kn (sr (lr4 rfl ?_))
       obtain ⟨g5, h⟩ := grd h
       replace h := bnd h; obtain ⟨x8, hxx8, h⟩ := h
       refine WL.q [] rfl rfl rfl (q_idx tbOk rfl (by exact trivial) g5 (map_get (f := eApiCodeEntry) hxx8)) ?_
       refine lr3 rfl (nn (WC.seq (sr ?_)))
       refine lr 19 rfl (by exact sideR) ?_
       refine nn ?_
       refine WC.cond rfl (fun hc9 => ?_) (fun hc9 => ?_)
       ·replace h := ite_t hc9 h
        refine sr (lr1 rfl (nr (WQ.thenRet (rb ?_))))
        cases h
        have he := he3 _ hf3
        subst he
        have h : some (9 : Int) = some _ := hk3
        refine WQ.thenRet (rb ?_)
        cases h
        exact rt tbOk hR
       ·replace h := ite_f hc9 h
        refine kn (sr ?_)
        refine lr 12 rfl (by exact sideR) ?_
        refine nn ?_
        refine WC.cond rfl (fun hc10 => ?_) (fun hc10 => ?_)
        ·replace h := ite_t hc10 h
         refine sr (lr1 rfl (nr (rb ?_)))
         cases h
         have he := he3 _ hf3
         subst he
         have h : some (1 : Int) = some _ := hk3
         refine WQ.thenRet (rb ?_)
         cases h
         exact rt tbOk hR
        ·replace h := ite_f hc10 h
         refine WC.skip (WQ.blockNormal ?_)
         exact WQ.cut [] () sub h
    ·intro _ h
     replace h : refBook_j4 b i5 = some _ := h
     unfold refBook_j4 at h
     try dsimp only [slotsOf]
     refine WC.region (lr3 rfl (WL.nil ?_))
     cases h
     exact WQ.next [] (IntKind.i64.wrap (i5 + (1 : Int))) sub (hn3 _ hf3)
   ·replace h := ite_f hc6 h
    refine WC.exit (WQ.thenExit ?_)
    cases h
    have he := he3 _ hf3
    subst he
    replace h := hk3
    try dsimp only at h
    refine eb ?_
    exact WQ.cut [] () sub h
  ·intro _ h
   replace h : refBook_j1 b = some _ := h
   unfold refBook_j1 at h
   try dsimp only [slotsOf]
   refine WC.seq (sr (lr1 rfl (nn ?_)))
   refine WC.thenCut (X := Unit) (fun gG => ⟨[(1, .p 1 0)], [(1, .blk 28 [.v (.sl 5 (b.Entries.map eApiCodeEntry)), .v (.sl 3 (b.Notes.map eApiCodeNote))])]⟩) (fun gG => refBook_j2 b = some r) ?_ ?_
   ·refine WC.block ?_
    obtain ⟨eQ2, hl2, hk2⟩ := bnd h
    clear h
    refine WC.loop (σ := Int) (τ := ((Int) ⊕ (Unit))) (fun sS => ⟨[(7, .v (.int .i64 sS)), (1, .p 1 0)], [(1, .blk 28 [.v (.sl 5 (b.Entries.map eApiCodeEntry)), .v (.sl 3 (b.Notes.map eApiCodeNote))])]⟩) (refBook_b2 b) [] (0 : Int) hl2 sub ?_
    intro i3 m hn2 he2 hx2
    obtain ⟨o2, hf2⟩ := some_of hx2
    have h := hf2
    unfold refBook_b2 at h
    try dsimp only [slotsOf]
    refine WC.seq (sr (lr3 rfl ?_))
    refine WL.q [] rfl rfl rfl (q_ev tbOk (.v (.int .i64 (b.Entries.length : Int))) rfl (by exact trivial) (by exact lenT)) ?_
    refine lr1 rfl (nn ?_)
    refine WC.cond rfl (fun hc4 => ?_) (fun hc4 => ?_)
    ·replace h := ite_t hc4 h
     refine kn (sb (sr (lr3 rfl ?_)))
     obtain ⟨g2, h⟩ := grd h
     replace h := bnd h; obtain ⟨x4, hxx4, h⟩ := h
     refine WL.q [] rfl rfl rfl (q_idx tbOk rfl (by exact trivial) g2 (map_get (f := eApiCodeEntry) hxx4)) ?_
     refine lr3 rfl (nn (WC.seq (WC.order mixed ?_)))
     obtain ⟨g3, h⟩ := grd h
     refine wr 17 rfl (by repeat' (first | exact trivial | assumption | intro _ | exact g3 (by assumption) | apply And.intro | exact sideT | (refine and_i ?_ ?_))) ?_
     replace h := bnd h; obtain ⟨v4, hvv4, h⟩ := h
     refine WR.gcall0 fn96 rfl rfl rfl rfl rfl (fun _ => (by exact sideR)) rfl (fun hg => (refCovered_con hw (ite_t hg hvv4))) ?_
     refine wr 2 rfl (by exact sideR) ?_
     refine WR.nil (by kernel_rfl) (WQ.thenNormal ?_)
     refine WC.cond rfl (fun hc5 => ?_) (fun hc5 => ?_)
     ·replace h := ite_t hc5 h
      refine sr (lr1 rfl (nr (rb ?_)))
      cases h
      have he := he2 _ hf2
      subst he
      have h : some (6 : Int) = some _ := hk2
      refine WQ.thenRet (rb ?_)
      cases h
      exact rt tbOk hR
     ·replace h := ite_f hc5 h
      refine WC.skip (bn (WC.region (lr3 rfl (WL.nil ?_))))
      cases h
      exact WQ.next [] (IntKind.i64.wrap (i3 + (1 : Int))) sub (hn2 _ hf2)
    ·replace h := ite_f hc4 h
     refine WC.exit (WQ.thenExit ?_)
     cases h
     have he := he2 _ hf2
     subst he
     replace h := hk2
     try dsimp only at h
     refine eb ?_
     exact WQ.cut [] () sub h
   ·intro _ h
    replace h : refBook_j2 b = some _ := h
    unfold refBook_j2 at h
    try dsimp only [slotsOf]
    refine WC.seq (sr (lr1 rfl (nn ?_)))
    refine WC.thenCut (X := Unit) (fun gG => ⟨[], []⟩) (fun gG => refBook_j3  = some r) ?_ ?_
    ·refine WC.block ?_
     obtain ⟨eQ1, hl1, hk1⟩ := bnd h
     clear h
     refine WC.loop (σ := Int) (τ := ((Int) ⊕ (Unit))) (fun sS => ⟨[(9, .v (.int .i64 sS)), (1, .p 1 0)], [(1, .blk 28 [.v (.sl 5 (b.Entries.map eApiCodeEntry)), .v (.sl 3 (b.Notes.map eApiCodeNote))])]⟩) (refBook_b1 b) [] (0 : Int) hl1 sub ?_
     intro i m hn1 he1 hx1
     obtain ⟨o1, hf1⟩ := some_of hx1
     have h := hf1
     unfold refBook_b1 at h
     try dsimp only [slotsOf]
     refine WC.seq (sr (lr3 rfl ?_))
     refine WL.q [] rfl rfl rfl (q_ev tbOk (.v (.int .i64 (b.Notes.length : Int))) rfl (by exact trivial) (by exact lenT)) ?_
     refine lr1 rfl (nn ?_)
     refine WC.cond rfl (fun hc2 => ?_) (fun hc2 => ?_)
     ·replace h := ite_t hc2 h
      refine kn (sb (sr (lr3 rfl ?_)))
      obtain ⟨g1, h⟩ := grd h
      replace h := bnd h; obtain ⟨x2, hxx2, h⟩ := h
      refine WL.q [] rfl rfl rfl (q_idx tbOk rfl (by exact trivial) g1 (map_get (f := eApiCodeNote) hxx2)) ?_
      refine lr1 rfl ?_
      replace h := bnd h; obtain ⟨v2, hvv2, h⟩ := h
      refine WL.call0 fn51 rfl rfl rfl rfl (by exact trivial) rfl (refNote_con hw hvv2) ?_
      refine lr1 rfl (nn ?_)
      refine WC.cond rfl (fun hc3 => ?_) (fun hc3 => ?_)
      ·replace h := ite_t hc3 h
       refine sr (lr1 rfl (nr (rb ?_)))
       cases h
       have he := he1 _ hf1
       subst he
       have h : some (1 : Int) = some _ := hk1
       refine WQ.thenRet (rb ?_)
       cases h
       exact rt tbOk hR
      ·replace h := ite_f hc3 h
       refine WC.skip (bn (WC.region (lr3 rfl (WL.nil ?_))))
       cases h
       exact WQ.next [] (IntKind.i64.wrap (i + (1 : Int))) sub (hn1 _ hf1)
     ·replace h := ite_f hc2 h
      refine WC.exit (WQ.thenExit ?_)
      cases h
      have he := he1 _ hf1
      subst he
      replace h := hk1
      try dsimp only at h
      refine eb ?_
      exact WQ.cut [] () sub h
    ·intro _ h
     replace h : refBook_j3 = some _ := h
     unfold refBook_j3 at h
     try dsimp only [slotsOf]
     refine sr (lr1 rfl (nr ?_))
     cases h
     exact rt tbOk hR
end Go.Proofs.YtfkefolbabniaaaGreatDoor
end

section
set_option linter.unusedVariables false
set_option linter.unusedSimpArgs false
set_option maxHeartbeats 4000000
set_option maxRecDepth 20000
namespace Go.Proofs.YtfkefolbabniaaaGreatDoor
open Go.V Go.C
theorem sIndex_con {wg : World} (hw : WG wg) {s : (List Str)} {v : Str} {r : Int} (h : sIndex s v = some r) : Con Tryz.prog wg gl 156 [.v (.sl 1 (s.map eStr)), .v (.str v)] [] (.v (.int .i64 r)) [] := by
 unfold sIndex at h
 refine con_of_WC (S := slotsOf 0 _) Tryz.func156 rfl Tryz.ntmps156 rfl (fun t x hx => (slotsOf_get hx).2) ?_
 intro F L w ρ0 R hR
 try dsimp only [slotsOf]
 refine sr (lr1 rfl (nn (WC.seq (sr (lr1 rfl ?_)))))
 refine WL.q [] rfl rfl rfl (q_ev tbOk (.v (.int .i64 (s.length : Int))) rfl (by exact trivial) (by exact lenT)) ?_
 refine lr1 rfl (nn ?_)
 refine WC.thenCut (X := Unit) (fun gG => ⟨[], []⟩) (fun gG => sIndex_j1  = some r) ?_ ?_
 ·refine WC.block ?_
  obtain ⟨eQ1, hl1, hk1⟩ := bnd h
  clear h
  refine WC.loop (σ := Int) (τ := ((Int) ⊕ (Unit))) (fun sS => ⟨[(8, .v (.int .i64 sS)), (7, .v (.int .i64 (s.length : Int))), (0, .v (.sl 1 (s.map eStr))), (1, .v (.str v))], []⟩) (sIndex_b1 s v) [] (0 : Int) hl1 sub ?_
  intro t8 m hn1 he1 hx1
  obtain ⟨o1, hf1⟩ := some_of hx1
  have h := hf1
  unfold sIndex_b1 at h
  try dsimp only [slotsOf]
  refine sr (lr1 rfl (nn (WC.seq ?_)))
  refine WC.cond rfl (fun hc1 => ?_) (fun hc1 => ?_)
  ·replace h := ite_t hc1 h
   refine kn (sb (sr (lr2 rfl (ns (lr3 rfl ?_)))))
   obtain ⟨g1, h⟩ := grd h
   replace h := bnd h; obtain ⟨x2, hxx2, h⟩ := h
   refine WL.q [] rfl rfl rfl (q_idx tbOk rfl (by exact trivial) g1 (map_get (f := eStr) hxx2)) ?_
   refine lr2 rfl (nn ?_)
   refine WC.cond rfl (fun hc2 => ?_) (fun hc2 => ?_)
   ·replace h := ite_t hc2 h
    refine sr (lr2 rfl (nr (rb ?_)))
    cases h
    have he := he1 _ hf1
    subst he
    have h : some t8 = some _ := hk1
    refine WQ.thenRet (rb ?_)
    cases h
    exact rt tbOk hR
   ·replace h := ite_f hc2 h
    refine WC.skip (bn (WC.region (lr2 rfl (WL.nil ?_))))
    cases h
    exact WQ.next [] (IntKind.i64.wrap (t8 + (1 : Int))) sub (hn1 _ hf1)
  ·replace h := ite_f hc1 h
   refine WC.exit (WQ.thenExit ?_)
   cases h
   have he := he1 _ hf1
   subst he
   replace h := hk1
   try dsimp only at h
   refine eb ?_
   exact WQ.cut [] () sub h
 ·intro _ h
  replace h : sIndex_j1 = some _ := h
  unfold sIndex_j1 at h
  try dsimp only [slotsOf]
  refine sr (lr1 rfl (nr ?_))
  cases h
  exact rt tbOk hR
theorem sContains_con {wg : World} (hw : WG wg) {s : (List Str)} {v : Str} {r : Bool} (h : sContains s v = some r) : Con Tryz.prog wg gl 113 [.v (.sl 1 (s.map eStr)), .v (.str v)] [] (.v (.bool r)) [] := by
 unfold sContains at h
 refine con_of_WC (S := slotsOf 0 _) Tryz.func113 rfl Tryz.ntmps113 rfl (fun t x hx => (slotsOf_get hx).2) ?_
 intro F L w ρ0 R hR
 try dsimp only [slotsOf]
 refine sr (lr1 rfl (ns (lr2 rfl ?_)))
 replace h := bnd h; obtain ⟨v2, hvv2, h⟩ := h
 refine WL.call0 fn156 rfl rfl rfl rfl (by exact trivial) rfl (sIndex_con hw hvv2) ?_
 refine lr2 rfl (nr ?_)
 cases h
 exact rt tbOk hR
theorem memberIn_con {wg : World} (hw : WG wg) {s : Str} {a1 : (List Str)} {r : Bool} (h : memberIn s a1 = some r) : Con Tryz.prog wg gl 163 [.v (.str s), .p 1 0] [(1, .blk 31 [.v (.sl 1 (a1.map eStr))])] (.v (.bool r)) [(1, .blk 31 [.v (.sl 1 (a1.map eStr))])] := by
 unfold memberIn at h
 refine con_of_WC (S := slotsOf 0 _) Tryz.func163 rfl Tryz.ntmps163 rfl (fun t x hx => (slotsOf_get hx).2) ?_
 intro F L w ρ0 R hR
 try dsimp only [slotsOf]
 refine sr (lr1 rfl (ns (lr2 rfl ?_)))
 replace h := bnd h; obtain ⟨v, hvv, h⟩ := h
 refine WL.call0 fn113 rfl rfl rfl rfl (by exact trivial) rfl (sContains_con hw hvv) ?_
 refine lr1 rfl (nr ?_)
 cases h
 exact rt tbOk hR
theorem member_con {wg : World} (hw : WG wg) {l : (List Str)} {r : (List Str)} (h : member l = some r) : Con Tryz.prog wg gl 133 [.v (.sl 1 (l.map eStr))] [] (.fn 163 [.p 500 0]) [(500, .blk 31 [.v (.sl 1 (r.map eStr))])] := by
 unfold member at h
 refine con_of_WC (S := slotsOf 0 _) Tryz.func133 rfl Tryz.ntmps133 rfl (fun t x hx => (slotsOf_get hx).2) ?_
 intro F L w ρ0 R hR
 try dsimp only [slotsOf]
 refine sr (lr2 rfl (nn (WC.seq (sr (lr1 rfl ?_)))))
 refine WL.q [] rfl rfl rfl (q_ev tbOk (.v (.int .i64 (l.length : Int))) rfl (by exact trivial) (by exact lenT)) ?_
 refine lr1 rfl (nn ?_)
 refine WC.cond rfl (fun hc1 => ?_) (fun hc1 => ?_)
 ·replace h := ite_t hc1 h
  refine sr (lr2 rfl (nr (WQ.thenRet ?_)))
  cases h
  exact WQ.rets tbOk hR [(500, 1)] (.inl rfl) rfl rfl (Le.refl _) (by exact eqs) rfl rfl rfl rfl
 ·replace h := ite_f hc1 h
  refine kn (WC.seq ?_)
  cases h
theorem subset_con {wg : World} (hw : WG wg) {a : (List Str)} {b : (List Str)} {r : Bool} (h : subset a b = some r) : Con Tryz.prog wg gl 85 [.v (.sl 1 (a.map eStr)), .v (.sl 1 (b.map eStr))] [] (.v (.bool r)) [] := by
 unfold subset at h
 refine con_of_WC (S := slotsOf 0 _) Tryz.func85 rfl Tryz.ntmps85 rfl (fun t x hx => (slotsOf_get hx).2) ?_
 intro F L w ρ0 R hR
 try dsimp only [slotsOf]
 refine sr (lr1 rfl (ns (lr1 rfl ?_)))
 replace h := bnd h; obtain ⟨v, hvv, h⟩ := h
 refine WL.callO [] [(500, 9)] [9] fn133 rfl rfl rfl rfl (by exact trivial) (member_con hw hvv) rfl rfl (by exact trivial) rfl rfl rfl rfl rfl rfl ?_
 refine lr1 rfl (nn (WC.seq (sr (lr1 rfl ?_))))
 refine WL.q [] rfl rfl rfl (q_ev tbOk (.v (.int .i64 (a.length : Int))) rfl (by exact trivial) (by exact lenT)) ?_
 refine lr1 rfl (nn ?_)
 refine WC.thenCut (X := Unit) (fun gG => ⟨[], []⟩) (fun gG => subset_j1  = some r) ?_ ?_
 ·refine WC.block ?_
  obtain ⟨eQ1, hl1, hk1⟩ := bnd h
  clear h
  refine WC.loop (σ := Int) (τ := ((Bool) ⊕ (Unit))) (fun sS => ⟨[(12, .v (.int .i64 sS)), (11, .v (.int .i64 (a.length : Int))), (10, .v (.sl 1 (a.map eStr))), (5, .fn 163 [.p 9 0])], [(9, .blk 31 [.v (.sl 1 (v.map eStr))])]⟩) (subset_b1 a v) [] (0 : Int) hl1 sub ?_
  intro t12 m hn1 he1 hx1
  obtain ⟨o1, hf1⟩ := some_of hx1
  have h := hf1
  unfold subset_b1 at h
  try dsimp only [slotsOf]
  refine sr (lr1 rfl (nn (WC.seq ?_)))
  refine WC.cond rfl (fun hc1 => ?_) (fun hc1 => ?_)
  ·replace h := ite_t hc1 h
   refine kn (sb (sr ?_))
   obtain ⟨g1, h⟩ := grd h
   replace h := bnd h; obtain ⟨x2, hxx2, h⟩ := h
   refine WL.q [] rfl rfl rfl (q_idx tbOk rfl (by exact trivial) g1 (map_get (f := eStr) hxx2)) ?_
   refine lr2 rfl (ns (lr2 rfl ?_))
   replace h := bnd h; obtain ⟨v3, hvv3, h⟩ := h
   refine WL.callO [(1, 9)] [(1, 9)] [9] fn163 rfl rfl rfl rfl (by exact trivial) (memberIn_con hw hvv3) rfl rfl (by exact eqs) rfl rfl rfl rfl rfl rfl ?_
   refine lr1 rfl (nn ?_)
   refine WC.cond rfl (fun hc2 => ?_) (fun hc2 => ?_)
   ·replace h := ite_t hc2 h
    refine sr (lr1 rfl (nr (rb ?_)))
    cases h
    have he := he1 _ hf1
    subst he
    have h : some false = some _ := hk1
    refine WQ.thenRet (rb ?_)
    cases h
    exact rt tbOk hR
   ·replace h := ite_f hc2 h
    refine WC.skip (bn (WC.region (lr2 rfl (WL.nil ?_))))
    cases h
    exact WQ.next [] (IntKind.i64.wrap (t12 + (1 : Int))) sub (hn1 _ hf1)
  ·replace h := ite_f hc1 h
   refine WC.exit (WQ.thenExit ?_)
   cases h
   have he := he1 _ hf1
   subst he
   replace h := hk1
   try dsimp only at h
   refine eb ?_
   exact WQ.cut [] () sub h
 ·intro _ h
  replace h : subset_j1 = some _ := h
  unfold subset_j1 at h
  try dsimp only [slotsOf]
  refine sr (lr1 rfl (nr ?_))
  cases h
  exact rt tbOk hR
theorem cloneWords_con {wg : World} (hw : WG wg) {l : (List (List Str))} {r : (List (List Str))} (h : cloneWords l = some r) : Con Tryz.prog wg gl 132 [.v (.sl 1 (l.map eLStr))] [] (.r 500) [(500, .row 31 1 (r.map eLStr))] := by
 unfold cloneWords at h
 refine con_of_WC (S := slotsOf 0 _) Tryz.func132 rfl Tryz.ntmps132 rfl (fun t x hx => (slotsOf_get hx).2) ?_
 intro F L w ρ0 R hR
 try dsimp only [slotsOf]
 refine sr (lr1 rfl (ns (lr1 rfl (nn (WC.seq (sr (lr1 rfl ?_)))))))
 refine WL.q [] rfl rfl rfl (q_ev tbOk (.v (.int .i64 (l.length : Int))) rfl (by exact trivial) (by exact lenT)) ?_
 refine lr1 rfl (nn ?_)
 refine WC.thenCut (X := (List (List Str))) (fun gG => ⟨[(3, .r 1003)], [(1003, .row 31 1 (gG.map eLStr))]⟩) (fun gG => cloneWords_j1 gG = some r) ?_ ?_
 ·refine WC.block ?_
  obtain ⟨eQ1, hl1, hk1⟩ := bnd h
  clear h
  refine WC.rowNil 3 1003 31 1 rfl rfl ?_
  refine WC.loop (σ := Int × (List (List Str))) (τ := ((List (List Str)))) (fun sS => ⟨[(8, .v (.int .i64 sS.1)), (7, .v (.int .i64 (l.length : Int))), (6, .v (.sl 1 (l.map eLStr))), (3, .r 1003)], [(1003, .row 31 1 (sS.2.map eLStr))]⟩) (cloneWords_b1 l) [] ((0 : Int), []) hl1 sub ?_
  rintro ⟨t82, result2⟩ m hn1 he1 hx1
  obtain ⟨o1, hf1⟩ := some_of hx1
  have h := hf1
  unfold cloneWords_b1 at h
  try dsimp only [slotsOf]
  refine sr (lr1 rfl (nn (WC.seq ?_)))
  refine WC.cond rfl (fun hc1 => ?_) (fun hc1 => ?_)
  ·replace h := ite_t hc1 h
   refine kn (sb (sr ?_))
   obtain ⟨g1, h⟩ := grd h
   replace h := bnd h; obtain ⟨x3, hxx3, h⟩ := h
   refine WL.q [] rfl rfl rfl (q_idx tbOk rfl (by exact trivial) g1 (map_get (f := eLStr) hxx3)) ?_
   refine lr2 rfl (nn (WC.region (lr2 rfl ?_)))
   replace h := bnd h; obtain ⟨v3, hvv3, h⟩ := h
   refine WL.call0 fn77 rfl rfl rfl rfl (by exact trivial) rfl (cloneS_con hw hvv3) ?_
   refine lr1 rfl ?_
   obtain ⟨g2, h⟩ := grd h
   refine WL.append tbOk ((result2 ++ [v3]).map eLStr) [16, 1003] ap52 rfl rfl rfl rfl (fun _ e => by cases e; rfl) (by exact trivial) (map_cells (f := eLStr) (xs := [v3]) fun _ => rfl) (by have := g2; simp only [List.length_map, List.length_nil, List.length_cons] at this ⊢; omega) rfl rfl (by simp only [List.map_append]; try rfl) rfl ?_
   refine lr1 rfl (WL.nil (bn (WC.region (lr2 rfl (WL.nil ?_)))))
   cases h
   exact WQ.next [(1003, 16)] ((IntKind.i64.wrap (t82 + (1 : Int))), (result2 ++ [v3])) sub (hn1 _ hf1)
  ·replace h := ite_f hc1 h
   refine WC.exit (WQ.thenExit ?_)
   cases h
   have he := he1 _ hf1
   subst he
   replace h := hk1
   try dsimp only at h
   refine eb ?_
   exact WQ.cut [] result2 sub h
 ·intro result h
  replace h : cloneWords_j1 result = some _ := h
  unfold cloneWords_j1 at h
  try dsimp only [slotsOf]
  refine sr (lr2 rfl (nr ?_))
  cases h
  exact WQ.rets tbOk hR [(500, 1003)] (.inl rfl) rfl rfl (Le.refl _) (by exact eqs) rfl rfl rfl rfl
theorem nomAt_con {wg : World} (hw : WG wg) {b : ApiNomenclature} {day : Int} {r : (List ApiCodeEntry)} (h : nomAt b day = some r) : Con Tryz.prog wg gl 95 [.v (.agg [.sl 5 (b.Entries.map eApiCodeEntry), .sl 3 (b.Notes.map eApiCodeNote)]), .v (.int .i64 day)] [] (.v (.sl 5 (r.map eApiCodeEntry))) [] := by
 unfold nomAt at h
 refine con_of_WC (S := slotsOf 0 _) Tryz.func95 rfl Tryz.ntmps95 rfl (fun t x hx => (slotsOf_get hx).2) ?_
 intro F L w ρ0 R hR
 try dsimp only [slotsOf]
 refine sr (lr2 rfl (ns (lr1 rfl (nn (WC.seq (sr (lr2 rfl ?_)))))))
 refine WL.q [] rfl rfl rfl (q_ev tbOk (.v (.int .i64 (b.Entries.length : Int))) rfl (by exact trivial) (by exact lenT)) ?_
 refine lr1 rfl (nn ?_)
 refine WC.thenCut (X := (List ApiCodeEntry)) (fun gG => ⟨[(5, .r 1005)], [(1005, .row 54 5 (gG.map eApiCodeEntry))]⟩) (fun gG => nomAt_j1 gG = some r) ?_ ?_
 ·refine WC.block ?_
  obtain ⟨eQ1, hl1, hk1⟩ := bnd h
  clear h
  refine WC.rowNil 5 1005 54 5 rfl rfl ?_
  refine WC.loop (σ := Int × (List ApiCodeEntry)) (τ := ((List ApiCodeEntry))) (fun sS => ⟨[(11, .v (.int .i64 sS.1)), (10, .v (.int .i64 (b.Entries.length : Int))), (9, .v (.sl 5 (b.Entries.map eApiCodeEntry))), (5, .r 1005), (1, .v (.int .i64 day))], [(1005, .row 54 5 (sS.2.map eApiCodeEntry))]⟩) (nomAt_b1 b day) [] ((0 : Int), []) hl1 sub ?_
  rintro ⟨t112, l3⟩ m hn1 he1 hx1
  obtain ⟨o1, hf1⟩ := some_of hx1
  have h := hf1
  unfold nomAt_b1 at h
  try dsimp only [slotsOf]
  refine sr (lr1 rfl (nn (WC.seq ?_)))
  refine WC.cond rfl (fun hc1 => ?_) (fun hc1 => ?_)
  ·replace h := ite_t hc1 h
   refine kn (WC.seq ?_)
   refine WC.thenCut (X := (List ApiCodeEntry)) (fun gG => ⟨[(5, .r 1005), (11, .v (.int .i64 t112)), (10, .v (.int .i64 (b.Entries.length : Int))), (9, .v (.sl 5 (b.Entries.map eApiCodeEntry))), (1, .v (.int .i64 day))], [(1005, .row 54 5 (gG.map eApiCodeEntry))]⟩) (fun gG => nomAt_j2 b day t112 gG = some o1) ?_ ?_
   ·refine WC.block (sr ?_)
    obtain ⟨g1, h⟩ := grd h
    replace h := bnd h; obtain ⟨x3, hxx3, h⟩ := h
    refine WL.q [] rfl rfl rfl (q_idx tbOk rfl (by exact trivial) g1 (map_get (f := eApiCodeEntry) hxx3)) ?_
    refine lr3 rfl (ns ?_)
    refine lr 10 rfl (by exact sideR) ?_
    refine nn ?_
    refine WC.cond rfl (fun hc2 => ?_) (fun hc2 => ?_)
    ·replace h := ite_t hc2 h
     refine sr (lr2 rfl ?_)
     replace h := bnd h; obtain ⟨v3, hvv3, h⟩ := h
     refine WL.callO [] [(500, 27)] [27] fn132 rfl rfl rfl rfl (by exact trivial) (cloneWords_con hw hvv3) rfl rfl (by exact trivial) rfl rfl rfl rfl rfl rfl ?_
     refine lr2 rfl (nn ?_)
     refine WC.publish 27 rfl rfl ?_
     refine WC.region (lr3 rfl ?_)
     obtain ⟨g2, h⟩ := grd h
     refine WL.append tbOk ((l3 ++ [(⟨x3.Code, x3.From, x3.To, v3, x3.Other⟩ : ApiCodeEntry)]).map eApiCodeEntry) [32, 1005] ap25 rfl rfl rfl rfl (fun _ e => by cases e; rfl) (by exact trivial) (map_cells (f := eApiCodeEntry) (xs := [(⟨x3.Code, x3.From, x3.To, v3, x3.Other⟩ : ApiCodeEntry)]) fun _ => rfl) (by have := g2; simp only [List.length_map, List.length_nil, List.length_cons] at this ⊢; omega) rfl rfl (by simp only [List.map_append]; try rfl) rfl ?_
     refine lr1 rfl (WL.nil (WQ.blockNormal ?_))
     exact WQ.cut [(1005, 32)] (l3 ++ [(⟨x3.Code, x3.From, x3.To, v3, x3.Other⟩ : ApiCodeEntry)]) sub h
    ·replace h := ite_f hc2 h
     refine WC.skip (WQ.blockNormal ?_)
     exact WQ.cut [] l3 sub h
   ·intro l6 h
    replace h : nomAt_j2 b day t112 l6 = some _ := h
    unfold nomAt_j2 at h
    try dsimp only [slotsOf]
    refine WC.region (lr2 rfl (WL.nil ?_))
    cases h
    exact WQ.next [] ((IntKind.i64.wrap (t112 + (1 : Int))), l6) sub (hn1 _ hf1)
  ·replace h := ite_f hc1 h
   refine WC.exit (WQ.thenExit ?_)
   cases h
   have he := he1 _ hf1
   subst he
   replace h := hk1
   try dsimp only at h
   refine eb ?_
   exact WQ.cut [] l3 sub h
 ·intro l h
  replace h : nomAt_j1 l = some _ := h
  unfold nomAt_j1 at h
  try dsimp only [slotsOf]
  refine sr (lr2 rfl (nr ?_))
  refine WQ.publish 1005 rfl rfl ?_
  cases h
  exact rt tbOk hR
theorem nomBelow_con {wg : World} (hw : WG wg) {b : ApiNomenclature} {day : Int} {code : Str} {r : (List ApiCodeEntry)} (h : nomBelow b day code = some r) : Con Tryz.prog wg gl 41 [.v (.agg [.sl 5 (b.Entries.map eApiCodeEntry), .sl 3 (b.Notes.map eApiCodeNote)]), .v (.int .i64 day), .v (.str code)] [] (.v (.sl 5 (r.map eApiCodeEntry))) [] := by
 unfold nomBelow at h
 refine con_of_WC (S := slotsOf 0 _) Tryz.func41 rfl Tryz.ntmps41 rfl (fun t x hx => (slotsOf_get hx).2) ?_
 intro F L w ρ0 R hR
 try dsimp only [slotsOf]
 refine sr (lr2 rfl (ns (lr1 rfl (nn (WC.seq (sr (lr2 rfl ?_)))))))
 replace h := bnd h; obtain ⟨v, hvv, h⟩ := h
 refine WL.call0 fn95 rfl rfl rfl rfl (by exact trivial) rfl (nomAt_con hw hvv) ?_
 refine WL.q [] rfl rfl rfl (q_ev tbOk (.v (.int .i64 (v.length : Int))) rfl (by exact trivial) (by exact lenT)) ?_
 refine lr1 rfl (nn ?_)
 refine WC.thenCut (X := (List ApiCodeEntry)) (fun gG => ⟨[(7, .r 1007)], [(1007, .row 54 5 (gG.map eApiCodeEntry))]⟩) (fun gG => nomBelow_j1 gG = some r) ?_ ?_
 ·refine WC.block ?_
  obtain ⟨eQ1, hl1, hk1⟩ := bnd h
  clear h
  refine WC.rowNil 7 1007 54 5 rfl rfl ?_
  refine WC.loop (σ := Int × (List ApiCodeEntry)) (τ := ((List ApiCodeEntry))) (fun sS => ⟨[(15, .v (.int .i64 sS.1)), (14, .v (.int .i64 (v.length : Int))), (13, .v (.sl 5 (v.map eApiCodeEntry))), (7, .r 1007), (2, .v (.str code))], [(1007, .row 54 5 (sS.2.map eApiCodeEntry))]⟩) (nomBelow_b1 code v) [] ((0 : Int), []) hl1 sub ?_
  rintro ⟨t152, l3⟩ m hn1 he1 hx1
  obtain ⟨o1, hf1⟩ := some_of hx1
  have h := hf1
  unfold nomBelow_b1 at h
  try dsimp only [slotsOf]
  refine sr (lr1 rfl (nn (WC.seq ?_)))
  refine WC.cond rfl (fun hc1 => ?_) (fun hc1 => ?_)
  ·replace h := ite_t hc1 h
   refine kn (WC.seq ?_)
   refine WC.thenCut (X := (List ApiCodeEntry)) (fun gG => ⟨[(7, .r 1007), (15, .v (.int .i64 t152)), (14, .v (.int .i64 (v.length : Int))), (13, .v (.sl 5 (v.map eApiCodeEntry))), (2, .v (.str code))], [(1007, .row 54 5 (gG.map eApiCodeEntry))]⟩) (fun gG => nomBelow_j2 code v t152 gG = some o1) ?_ ?_
   ·refine WC.block (sr ?_)
    obtain ⟨g1, h⟩ := grd h
    replace h := bnd h; obtain ⟨x3, hxx3, h⟩ := h
    refine WL.q [] rfl rfl rfl (q_idx tbOk rfl (by exact trivial) g1 (map_get (f := eApiCodeEntry) hxx3)) ?_
    refine lr3 rfl (ns (lr4 rfl (ns ?_)))
    obtain ⟨g2, h⟩ := grd h
    refine lr 23 rfl (by repeat' (first | exact trivial | assumption | intro _ | exact g2 (by assumption) | apply And.intro | exact sideT | (refine and_i ?_ ?_))) ?_
    refine nn ?_
    refine WC.cond rfl (fun hc2 => ?_) (fun hc2 => ?_)
    ·replace h := ite_t hc2 h
     refine WC.region (lr3 rfl ?_)
     obtain ⟨g3, h⟩ := grd h
     refine WL.append tbOk ((l3 ++ [x3]).map eApiCodeEntry) [48, 1007] ap25 rfl rfl rfl rfl (fun _ e => by cases e; rfl) (by exact trivial) (map_cells (f := eApiCodeEntry) (xs := [x3]) fun _ => rfl) (by have := g3; simp only [List.length_map, List.length_nil, List.length_cons] at this ⊢; omega) rfl rfl (by simp only [List.map_append]; try rfl) rfl ?_
     refine lr1 rfl (WL.nil (WQ.blockNormal ?_))
     exact WQ.cut [(1007, 48)] (l3 ++ [x3]) sub h
    ·replace h := ite_f hc2 h
     refine WC.skip (WQ.blockNormal ?_)
     exact WQ.cut [] l3 sub h
   ·intro l6 h
    replace h : nomBelow_j2 code v t152 l6 = some _ := h
    unfold nomBelow_j2 at h
    try dsimp only [slotsOf]
    refine WC.region (lr2 rfl (WL.nil ?_))
    cases h
    exact WQ.next [] ((IntKind.i64.wrap (t152 + (1 : Int))), l6) sub (hn1 _ hf1)
  ·replace h := ite_f hc1 h
   refine WC.exit (WQ.thenExit ?_)
   cases h
   have he := he1 _ hf1
   subst he
   replace h := hk1
   try dsimp only at h
   refine eb ?_
   exact WQ.cut [] l3 sub h
 ·intro l h
  replace h : nomBelow_j1 l = some _ := h
  unfold nomBelow_j1 at h
  try dsimp only [slotsOf]
  refine sr (lr2 rfl (nr ?_))
  refine WQ.publish 1007 rfl rfl ?_
  cases h
  exact rt tbOk hR
theorem nomExcluded_con {wg : World} (hw : WG wg) {b : ApiNomenclature} {code : Str} {words : (List Str)} {r : Bool} (h : nomExcluded b code words = some r) : Con Tryz.prog wg gl 35 [.v (.agg [.sl 5 (b.Entries.map eApiCodeEntry), .sl 3 (b.Notes.map eApiCodeNote)]), .v (.str code), .v (.sl 1 (words.map eStr))] [] (.v (.bool r)) [] := by
 unfold nomExcluded at h
 refine con_of_WC (S := slotsOf 0 _) Tryz.func35 rfl Tryz.ntmps35 rfl (fun t x hx => (slotsOf_get hx).2) ?_
 intro F L w ρ0 R hR
 try dsimp only [slotsOf]
 refine sr (lr2 rfl (nn (WC.seq (sr (lr2 rfl ?_)))))
 refine WL.q [] rfl rfl rfl (q_ev tbOk (.v (.int .i64 (b.Notes.length : Int))) rfl (by exact trivial) (by exact lenT)) ?_
 refine lr1 rfl (nn ?_)
 refine WC.thenCut (X := Unit) (fun gG => ⟨[], []⟩) (fun gG => nomExcluded_j1  = some r) ?_ ?_
 ·refine WC.block ?_
  obtain ⟨eQ1, hl1, hk1⟩ := bnd h
  clear h
  refine WC.loop (σ := Int) (τ := ((Bool) ⊕ (Unit))) (fun sS => ⟨[(12, .v (.int .i64 sS)), (11, .v (.int .i64 (b.Notes.length : Int))), (10, .v (.sl 3 (b.Notes.map eApiCodeNote))), (1, .v (.str code)), (2, .v (.sl 1 (words.map eStr)))], []⟩) (nomExcluded_b1 b code words) [] (0 : Int) hl1 sub ?_
  intro t12 m hn1 he1 hx1
  obtain ⟨o1, hf1⟩ := some_of hx1
  have h := hf1
  unfold nomExcluded_b1 at h
  try dsimp only [slotsOf]
  refine sr (lr1 rfl (nn (WC.seq ?_)))
  refine WC.cond rfl (fun hc1 => ?_) (fun hc1 => ?_)
  ·replace h := ite_t hc1 h
   refine kn (sb (sr ?_))
   obtain ⟨g1, h⟩ := grd h
   replace h := bnd h; obtain ⟨x2, hxx2, h⟩ := h
   refine WL.q [] rfl rfl rfl (q_idx tbOk rfl (by exact trivial) g1 (map_get (f := eApiCodeNote) hxx2)) ?_
   refine lr3 rfl (ns (lr3 rfl ?_))
   replace h := bnd h; obtain ⟨v3, hvv3, h⟩ := h
   refine WL.call0 fn86 rfl rfl rfl rfl (by exact trivial) rfl (hasPrefixS_con hw hvv3) ?_
   refine lr 4 rfl (by exact sideR) ?_
   replace h := bnd h; obtain ⟨v4, hvv4, h⟩ := h
   refine WL.gcall0 fn85 rfl rfl rfl rfl rfl (fun _ => (by exact sideR)) rfl (fun hg => (subset_con hw (ite_t hg hvv4))) ?_
   refine lr 1 rfl (by exact sideR) ?_
   refine nn ?_
   refine WC.cond rfl (fun hc2 => ?_) (fun hc2 => ?_)
   ·replace h := ite_t hc2 h
    refine sr (lr1 rfl (nr (rb ?_)))
    cases h
    have he := he1 _ hf1
    subst he
    have h : some true = some _ := hk1
    refine WQ.thenRet (rb ?_)
    cases h
    exact rt tbOk hR
   ·replace h := ite_f hc2 h
    refine WC.skip (bn (WC.region (lr2 rfl (WL.nil ?_))))
    cases h
    exact WQ.next [] (IntKind.i64.wrap (t12 + (1 : Int))) sub (hn1 _ hf1)
  ·replace h := ite_f hc1 h
   refine WC.exit (WQ.thenExit ?_)
   cases h
   have he := he1 _ hf1
   subst he
   replace h := hk1
   try dsimp only at h
   refine eb ?_
   exact WQ.cut [] () sub h
 ·intro _ h
  replace h : nomExcluded_j1 = some _ := h
  unfold nomExcluded_j1 at h
  try dsimp only [slotsOf]
  refine sr (lr1 rfl (nr ?_))
  cases h
  exact rt tbOk hR
theorem nomAlts_con {wg : World} (hw : WG wg) {b : ApiNomenclature} {e1 : ApiCodeEntry} {r : (List (List Str))} (h : nomAlts b e1 = some r) : Con Tryz.prog wg gl 78 [.v (.agg [.sl 5 (b.Entries.map eApiCodeEntry), .sl 3 (b.Notes.map eApiCodeNote)]), .v (.agg [.str e1.Code, .int .i64 e1.From, .int .i64 e1.To, .sl 1 (e1.Terms.map eLStr), .bool e1.Other])] [] (.v (.sl 1 (r.map eLStr))) [] := by
 unfold nomAlts at h
 refine con_of_WC (S := slotsOf 0 _) Tryz.func78 rfl Tryz.ntmps78 rfl (fun t x hx => (slotsOf_get hx).2) ?_
 intro F L w ρ0 R hR
 try dsimp only [slotsOf]
 refine sr (lr3 rfl (ns (lr2 rfl ?_)))
 replace h := bnd h; obtain ⟨v, hvv, h⟩ := h
 refine WL.callO [] [(500, 10)] [10] fn132 rfl rfl rfl rfl (by exact trivial) (cloneWords_con hw hvv) rfl rfl (by exact trivial) rfl rfl rfl rfl rfl rfl ?_
 refine lr1 rfl (nn (WC.seq (sr (lr2 rfl ?_))))
 refine WL.q [] rfl rfl rfl (q_ev tbOk (.v (.int .i64 (b.Notes.length : Int))) rfl (by exact trivial) (by exact lenT)) ?_
 refine lr1 rfl (nn ?_)
 refine WC.thenCut (X := (List (List Str))) (fun gG => ⟨[(5, .r 1005)], [(1005, .row 31 1 (gG.map eLStr))]⟩) (fun gG => nomAlts_j1 gG = some r) ?_ ?_
 ·refine WC.block ?_
  obtain ⟨eQ1, hl1, hk1⟩ := bnd h
  clear h
  refine WC.loop (σ := Int × (List (List Str))) (τ := ((List (List Str)))) (fun sS => ⟨[(14, .v (.int .i64 sS.1)), (13, .v (.int .i64 (b.Notes.length : Int))), (12, .v (.sl 3 (b.Notes.map eApiCodeNote))), (5, .r 1005), (3, .p 3 0)], [(1005, .row 31 1 (sS.2.map eLStr)), (3, .blk 54 [.v (.str e1.Code), .v (.int .i64 e1.From), .v (.int .i64 e1.To), .v (.sl 1 (e1.Terms.map eLStr)), .v (.bool e1.Other)])]⟩) (nomAlts_b1 b e1) [(1005, 10)] ((0 : Int), v) hl1 sub ?_
  rintro ⟨t14, l2⟩ m hn1 he1 hx1
  obtain ⟨o1, hf1⟩ := some_of hx1
  have h := hf1
  unfold nomAlts_b1 at h
  try dsimp only [slotsOf]
  refine sr (lr1 rfl (nn (WC.seq ?_)))
  refine WC.cond rfl (fun hc1 => ?_) (fun hc1 => ?_)
  ·replace h := ite_t hc1 h
   refine kn (WC.seq ?_)
   refine WC.thenCut (X := (List (List Str))) (fun gG => ⟨[(5, .r 1005), (14, .v (.int .i64 t14)), (13, .v (.int .i64 (b.Notes.length : Int))), (12, .v (.sl 3 (b.Notes.map eApiCodeNote))), (3, .p 3 0)], [(1005, .row 31 1 (gG.map eLStr)), (3, .blk 54 [.v (.str e1.Code), .v (.int .i64 e1.From), .v (.int .i64 e1.To), .v (.sl 1 (e1.Terms.map eLStr)), .v (.bool e1.Other)])]⟩) (fun gG => nomAlts_j2 b e1 t14 gG = some o1) ?_ ?_
   ·refine WC.block (sr ?_)
    obtain ⟨g1, h⟩ := grd h
    replace h := bnd h; obtain ⟨x2, hxx2, h⟩ := h
    refine WL.q [] rfl rfl rfl (q_idx tbOk rfl (by exact trivial) g1 (map_get (f := eApiCodeNote) hxx2)) ?_
    refine lr3 rfl (ns (lr5 rfl (nn ?_)))
    refine WC.cond rfl (fun hc2 => ?_) (fun hc2 => ?_)
    ·replace h := ite_t hc2 h
     refine WC.region (lr3 rfl ?_)
     replace h := bnd h; obtain ⟨v3, hvv3, h⟩ := h
     refine WL.call0 fn77 rfl rfl rfl rfl (by exact trivial) rfl (cloneS_con hw hvv3) ?_
     refine lr1 rfl ?_
     obtain ⟨g2, h⟩ := grd h
     refine WL.append tbOk ((l2 ++ [v3]).map eLStr) [28, 1005] ap52 rfl rfl rfl rfl (fun _ e => by cases e; rfl) (by exact trivial) (map_cells (f := eLStr) (xs := [v3]) fun _ => rfl) (by have := g2; simp only [List.length_map, List.length_nil, List.length_cons] at this ⊢; omega) rfl rfl (by simp only [List.map_append]; try rfl) rfl ?_
     refine lr1 rfl (WL.nil (WQ.blockNormal ?_))
     exact WQ.cut [(1005, 28)] (l2 ++ [v3]) sub h
    ·replace h := ite_f hc2 h
     refine WC.skip (WQ.blockNormal ?_)
     exact WQ.cut [] l2 sub h
   ·intro l6 h
    replace h : nomAlts_j2 b e1 t14 l6 = some _ := h
    unfold nomAlts_j2 at h
    try dsimp only [slotsOf]
    refine WC.region (lr2 rfl (WL.nil ?_))
    cases h
    exact WQ.next [] ((IntKind.i64.wrap (t14 + (1 : Int))), l6) sub (hn1 _ hf1)
  ·replace h := ite_f hc1 h
   refine WC.exit (WQ.thenExit ?_)
   cases h
   have he := he1 _ hf1
   subst he
   replace h := hk1
   try dsimp only at h
   refine eb ?_
   exact WQ.cut [] l2 sub h
 ·intro l h
  replace h : nomAlts_j1 l = some _ := h
  unfold nomAlts_j1 at h
  try dsimp only [slotsOf]
  refine sr (lr2 rfl (nr ?_))
  refine WQ.publish 1005 rfl rfl ?_
  cases h
  exact rt tbOk hR
theorem nomScore_con {wg : World} (hw : WG wg) {b : ApiNomenclature} {e1 : ApiCodeEntry} {words : (List Str)} {r : Int} (h : nomScore b e1 words = some r) : Con Tryz.prog wg gl 34 [.v (.agg [.sl 5 (b.Entries.map eApiCodeEntry), .sl 3 (b.Notes.map eApiCodeNote)]), .v (.agg [.str e1.Code, .int .i64 e1.From, .int .i64 e1.To, .sl 1 (e1.Terms.map eLStr), .bool e1.Other]), .v (.sl 1 (words.map eStr))] [] (.v (.int .i64 r)) [] := by
 unfold nomScore at h
 refine con_of_WC (S := slotsOf 0 _) Tryz.func34 rfl Tryz.ntmps34 rfl (fun t x hx => (slotsOf_get hx).2) ?_
 intro F L w ρ0 R hR
 try dsimp only [slotsOf]
 refine sr (lr3 rfl (nn (WC.seq (sr (lr4 rfl ?_)))))
 replace h := bnd h; obtain ⟨v, hvv, h⟩ := h
 refine WL.call0 fn35 rfl rfl rfl rfl (by exact trivial) rfl (nomExcluded_con hw hvv) ?_
 refine nn ?_
 refine WC.cond rfl (fun hc1 => ?_) (fun hc1 => ?_)
 ·replace h := ite_t hc1 h
  refine sr (lr1 rfl (nr (WQ.thenRet ?_)))
  cases h
  exact rt tbOk hR
 ·replace h := ite_f hc1 h
  refine kn (sr (lr1 rfl (nn (WC.seq (sr (lr2 rfl ?_))))))
  replace h := bnd h; obtain ⟨v2, hvv2, h⟩ := h
  refine WL.call0 fn78 rfl rfl rfl rfl (by exact trivial) rfl (nomAlts_con hw hvv2) ?_
  refine WL.q [] rfl rfl rfl (q_ev tbOk (.v (.int .i64 (v2.length : Int))) rfl (by exact trivial) (by exact lenT)) ?_
  refine lr1 rfl (nn ?_)
  refine WC.thenCut (X := Int) (fun gG => ⟨[(7, .v (.int .i64 gG))], []⟩) (fun gG => nomScore_j1 gG = some r) ?_ ?_
  ·refine WC.block ?_
   obtain ⟨eQ1, hl1, hk1⟩ := bnd h
   clear h
   refine WC.loop (σ := Int × Int) (τ := (Int)) (fun sS => ⟨[(19, .v (.int .i64 sS.1)), (18, .v (.int .i64 (v2.length : Int))), (17, .v (.sl 1 (v2.map eLStr))), (7, .v (.int .i64 sS.2)), (2, .v (.sl 1 (words.map eStr)))], []⟩) (nomScore_b1 words v2) [] ((0 : Int), (0 : Int)) hl1 sub ?_
   rintro ⟨t19, score2⟩ m hn1 he1 hx1
   obtain ⟨o1, hf1⟩ := some_of hx1
   have h := hf1
   unfold nomScore_b1 at h
   try dsimp only [slotsOf]
   refine sr (lr1 rfl (nn (WC.seq ?_)))
   refine WC.cond rfl (fun hc2 => ?_) (fun hc2 => ?_)
   ·replace h := ite_t hc2 h
    refine kn (WC.seq ?_)
    refine WC.thenCut (X := Int) (fun gG => ⟨[(7, .v (.int .i64 gG)), (19, .v (.int .i64 t19)), (18, .v (.int .i64 (v2.length : Int))), (17, .v (.sl 1 (v2.map eLStr))), (2, .v (.sl 1 (words.map eStr)))], []⟩) (fun gG => nomScore_j2 words v2 t19 gG = some o1) ?_ ?_
    ·refine WC.block (sr ?_)
     obtain ⟨g1, h⟩ := grd h
     replace h := bnd h; obtain ⟨x2, hxx2, h⟩ := h
     refine WL.q [] rfl rfl rfl (q_idx tbOk rfl (by exact trivial) g1 (map_get (f := eLStr) hxx2)) ?_
     refine lr2 rfl (ns (lr1 rfl ?_))
     refine WL.q [] rfl rfl rfl (q_ev tbOk (.v (.int .i64 (x2.length : Int))) rfl (by exact trivial) (by exact lenT)) ?_
     refine lr 5 rfl (by exact sideR) ?_
     replace h := bnd h; obtain ⟨v4, hvv4, h⟩ := h
     refine WL.gcall0 fn85 rfl rfl rfl rfl rfl (fun _ => (by exact sideR)) rfl (fun hg => (subset_con hw (ite_t hg hvv4))) ?_
     refine lr 1 rfl (by exact sideR) ?_
     refine nn ?_
     refine WC.cond rfl (fun hc3 => ?_) (fun hc3 => ?_)
     ·replace h := ite_t hc3 h
      refine WC.region (lr1 rfl ?_)
      refine WL.q [] rfl rfl rfl (q_ev tbOk (.v (.int .i64 (x2.length : Int))) rfl (by exact trivial) (by exact lenT)) ?_
      refine lr1 rfl (WL.nil (WQ.blockNormal ?_))
      exact WQ.cut [] (x2.length : Int) sub h
     ·replace h := ite_f hc3 h
      refine WC.skip (WQ.blockNormal ?_)
      exact WQ.cut [] score2 sub h
    ·intro score6 h
     replace h : nomScore_j2 words v2 t19 score6 = some _ := h
     unfold nomScore_j2 at h
     try dsimp only [slotsOf]
     refine WC.region (lr2 rfl (WL.nil ?_))
     cases h
     exact WQ.next [] ((IntKind.i64.wrap (t19 + (1 : Int))), score6) sub (hn1 _ hf1)
   ·replace h := ite_f hc2 h
    refine WC.exit (WQ.thenExit ?_)
    cases h
    have he := he1 _ hf1
    subst he
    replace h := hk1
    try dsimp only at h
    refine eb ?_
    exact WQ.cut [] score2 sub h
  ·intro score h
   replace h : nomScore_j1 score = some _ := h
   unfold nomScore_j1 at h
   try dsimp only [slotsOf]
   refine sr (lr2 rfl (nr ?_))
   cases h
   exact rt tbOk hR
end Go.Proofs.YtfkefolbabniaaaGreatDoor
end

section
set_option linter.unusedVariables false
set_option linter.unusedSimpArgs false
set_option maxHeartbeats 4000000
set_option maxRecDepth 20000
namespace Go.Proofs.YtfkefolbabniaaaGreatDoor
open Go.V Go.C
theorem refHas_con {wg : World} (hw : WG wg) {l : (List Str)} {s : Str} {r : Bool} (h : refHas l s = some r) : Con Tryz.prog wg gl 40 [.v (.sl 1 (l.map eStr)), .v (.str s)] [] (.v (.bool r)) [] := by
 unfold refHas at h
 refine con_of_WC (S := slotsOf 0 _) Tryz.func40 rfl Tryz.ntmps40 rfl (fun t x hx => (slotsOf_get hx).2) ?_
 intro F L w ρ0 R hR
 try dsimp only [slotsOf]
 refine sr (lr1 rfl (nn (WC.seq (sr (lr1 rfl (nn ?_))))))
 refine WC.thenCut (X := Unit) (fun gG => ⟨[], []⟩) (fun gG => refHas_j1  = some r) ?_ ?_
 ·refine WC.block ?_
  obtain ⟨eQ1, hl1, hk1⟩ := bnd h
  clear h
  refine WC.loop (σ := Int) (τ := ((Bool) ⊕ (Unit))) (fun sS => ⟨[(5, .v (.int .i64 sS)), (0, .v (.sl 1 (l.map eStr))), (1, .v (.str s))], []⟩) (refHas_b1 l s) [] (0 : Int) hl1 sub ?_
  intro i m hn1 he1 hx1
  obtain ⟨o1, hf1⟩ := some_of hx1
  have h := hf1
  unfold refHas_b1 at h
  try dsimp only [slotsOf]
  refine WC.seq (sr (lr2 rfl ?_))
  refine WL.q [] rfl rfl rfl (q_ev tbOk (.v (.int .i64 (l.length : Int))) rfl (by exact trivial) (by exact lenT)) ?_
  refine lr1 rfl (nn ?_)
  refine WC.cond rfl (fun hc1 => ?_) (fun hc1 => ?_)
  ·replace h := ite_t hc1 h
   refine kn (sb (sr (lr2 rfl ?_)))
   obtain ⟨g1, h⟩ := grd h
   replace h := bnd h; obtain ⟨x2, hxx2, h⟩ := h
   refine WL.q [] rfl rfl rfl (q_idx tbOk rfl (by exact trivial) g1 (map_get (f := eStr) hxx2)) ?_
   refine lr3 rfl (nn ?_)
   refine WC.cond rfl (fun hc2 => ?_) (fun hc2 => ?_)
   ·replace h := ite_t hc2 h
    refine sr (lr1 rfl (nr (rb ?_)))
    cases h
    have he := he1 _ hf1
    subst he
    have h : some true = some _ := hk1
    refine WQ.thenRet (rb ?_)
    cases h
    exact rt tbOk hR
   ·replace h := ite_f hc2 h
    refine WC.skip (bn (WC.region (lr3 rfl (WL.nil ?_))))
    cases h
    exact WQ.next [] (IntKind.i64.wrap (i + (1 : Int))) sub (hn1 _ hf1)
  ·replace h := ite_f hc1 h
   refine WC.exit (WQ.thenExit ?_)
   cases h
   have he := he1 _ hf1
   subst he
   replace h := hk1
   try dsimp only at h
   refine eb ?_
   exact WQ.cut [] () sub h
 ·intro _ h
  replace h : refHas_j1 = some _ := h
  unfold refHas_j1 at h
  try dsimp only [slotsOf]
  refine sr (lr1 rfl (nr ?_))
  cases h
  exact rt tbOk hR
theorem refSubset_con {wg : World} (hw : WG wg) {a : (List Str)} {b : (List Str)} {r : Bool} (h : refSubset a b = some r) : Con Tryz.prog wg gl 135 [.v (.sl 1 (a.map eStr)), .v (.sl 1 (b.map eStr))] [] (.v (.bool r)) [] := by
 unfold refSubset at h
 refine con_of_WC (S := slotsOf 0 _) Tryz.func135 rfl Tryz.ntmps135 rfl (fun t x hx => (slotsOf_get hx).2) ?_
 intro F L w ρ0 R hR
 try dsimp only [slotsOf]
 refine sr (lr1 rfl (nn (WC.seq (sr (lr1 rfl (nn ?_))))))
 refine WC.thenCut (X := Unit) (fun gG => ⟨[], []⟩) (fun gG => refSubset_j1  = some r) ?_ ?_
 ·refine WC.block ?_
  obtain ⟨eQ1, hl1, hk1⟩ := bnd h
  clear h
  refine WC.loop (σ := Int) (τ := ((Bool) ⊕ (Unit))) (fun sS => ⟨[(5, .v (.int .i64 sS)), (0, .v (.sl 1 (a.map eStr))), (1, .v (.sl 1 (b.map eStr)))], []⟩) (refSubset_b1 a b) [] (0 : Int) hl1 sub ?_
  intro i m hn1 he1 hx1
  obtain ⟨o1, hf1⟩ := some_of hx1
  have h := hf1
  unfold refSubset_b1 at h
  try dsimp only [slotsOf]
  refine WC.seq (sr (lr2 rfl ?_))
  refine WL.q [] rfl rfl rfl (q_ev tbOk (.v (.int .i64 (a.length : Int))) rfl (by exact trivial) (by exact lenT)) ?_
  refine lr1 rfl (nn ?_)
  refine WC.cond rfl (fun hc1 => ?_) (fun hc1 => ?_)
  ·replace h := ite_t hc1 h
   refine kn (sb (sr (lr3 rfl ?_)))
   obtain ⟨g1, h⟩ := grd h
   replace h := bnd h; obtain ⟨x2, hxx2, h⟩ := h
   refine WL.q [] rfl rfl rfl (q_idx tbOk rfl (by exact trivial) g1 (map_get (f := eStr) hxx2)) ?_
   refine lr1 rfl ?_
   replace h := bnd h; obtain ⟨v2, hvv2, h⟩ := h
   refine WL.call0 fn40 rfl rfl rfl rfl (by exact trivial) rfl (refHas_con hw hvv2) ?_
   refine lr1 rfl (nn ?_)
   refine WC.cond rfl (fun hc2 => ?_) (fun hc2 => ?_)
   ·replace h := ite_t hc2 h
    refine sr (lr1 rfl (nr (rb ?_)))
    cases h
    have he := he1 _ hf1
    subst he
    have h : some false = some _ := hk1
    refine WQ.thenRet (rb ?_)
    cases h
    exact rt tbOk hR
   ·replace h := ite_f hc2 h
    refine WC.skip (bn (WC.region (lr3 rfl (WL.nil ?_))))
    cases h
    exact WQ.next [] (IntKind.i64.wrap (i + (1 : Int))) sub (hn1 _ hf1)
  ·replace h := ite_f hc1 h
   refine WC.exit (WQ.thenExit ?_)
   cases h
   have he := he1 _ hf1
   subst he
   replace h := hk1
   try dsimp only at h
   refine eb ?_
   exact WQ.cut [] () sub h
 ·intro _ h
  replace h : refSubset_j1 = some _ := h
  unfold refSubset_j1 at h
  try dsimp only [slotsOf]
  refine sr (lr1 rfl (nr ?_))
  cases h
  exact rt tbOk hR
theorem refWith_con {wg : World} (hw : WG wg) {l : (List Str)} {s : Str} {r : (List Str)} (h : refWith l s = some r) : Con Tryz.prog wg gl 81 [.v (.sl 1 (l.map eStr)), .v (.str s)] [] (.v (.sl 1 (r.map eStr))) [] := by
 unfold refWith at h
 refine con_of_WC (S := slotsOf 0 _) Tryz.func81 rfl Tryz.ntmps81 rfl (fun t x hx => (slotsOf_get hx).2) ?_
 intro F L w ρ0 R hR
 try dsimp only [slotsOf]
 refine sr (lr1 rfl (ns (lr1 rfl (nn (WC.seq ?_)))))
 refine WC.thenCut (X := Int) (fun gG => ⟨[(5, .v (.int .i64 gG)), (0, .v (.sl 1 (l.map eStr))), (1, .v (.str s))], []⟩) (fun gG => refWith_j1 l s gG = some r) ?_ ?_
 ·refine WC.block ?_
  obtain ⟨eQ1, hl1, hk1⟩ := bnd h
  clear h
  refine WC.loop (σ := Int) (τ := (Int)) (fun sS => ⟨[(5, .v (.int .i64 sS)), (0, .v (.sl 1 (l.map eStr))), (1, .v (.str s))], []⟩) (refWith_b1 l s) [] (0 : Int) hl1 sub ?_
  intro k2 m hn1 he1 hx1
  obtain ⟨o1, hf1⟩ := some_of hx1
  have h := hf1
  unfold refWith_b1 at h
  try dsimp only [slotsOf]
  refine WC.seq (sr (lr2 rfl ?_))
  refine WL.q [] rfl rfl rfl (q_ev tbOk (.v (.int .i64 (l.length : Int))) rfl (by exact trivial) (by exact lenT)) ?_
  refine lr 4 rfl (by exact sideR) ?_
  obtain ⟨g7, h⟩ := grd h
  refine WL.gq [] rfl rfl rfl rfl (fun hg => q_idx tbOk rfl (by exact sideR) (g7 hg).1 (map_getD (f := eStr) (g7 hg).2 (g7 hg).1)) ?_
  refine lr 4 rfl (by exact sideR) ?_
  refine nn ?_
  refine WC.cond rfl (fun hc2 => ?_) (fun hc2 => ?_)
  ·replace h := ite_t hc2 h
   refine kn (WC.block (WC.region (lr3 rfl (WL.nil (WQ.blockNormal ?_)))))
   cases h
   exact WQ.next [] (IntKind.i64.wrap (k2 + (1 : Int))) sub (hn1 _ hf1)
  ·replace h := ite_f hc2 h
   refine WC.exit (WQ.thenExit ?_)
   cases h
   have he := he1 _ hf1
   subst he
   replace h := hk1
   try dsimp only at h
   refine eb ?_
   exact WQ.cut [] k2 sub h
 ·intro k h
  replace h : refWith_j1 l s k = some _ := h
  unfold refWith_j1 at h
  try dsimp only [slotsOf]
  refine WC.seq (sr (lr2 rfl ?_))
  refine WL.q [] rfl rfl rfl (q_ev tbOk (.v (.int .i64 (l.length : Int))) rfl (by exact trivial) (by exact lenT)) ?_
  refine lr 4 rfl (by exact sideR) ?_
  obtain ⟨g1, h⟩ := grd h
  refine WL.gq [] rfl rfl rfl rfl (fun hg => q_idx tbOk rfl (by exact sideR) (g1 hg).1 (map_getD (f := eStr) (g1 hg).2 (g1 hg).1)) ?_
  refine lr 4 rfl (by exact sideR) ?_
  refine nn ?_
  refine WC.cond rfl (fun hc1 => ?_) (fun hc1 => ?_)
  ·replace h := ite_t hc1 h
   refine sr (lr2 rfl (nr (WQ.thenRet ?_)))
   cases h
   exact rt tbOk hR
  ·replace h := ite_f hc1 h
   refine kn (WC.seq (WC.order mixed ?_))
   refine WR.buildRow tbOk (([] : (List Str)).map eStr) rfl rfl rfl rfl (by exact trivial) rfl rfl ?_
   refine wr 2 rfl trivial ?_
   obtain ⟨g2, h⟩ := grd h
   refine WR.q [] rfl rfl rfl (q_ev tbOk (.v (.sl 1 (((l.take k.toNat).drop (0 : Int).toNat).map eStr))) rfl (by exact sideR) (by exact tdT)) ?_
   obtain ⟨g3, h⟩ := grd h
   refine WR.append tbOk (((l.take k.toNat).drop (0 : Int).toNat).map eStr) [37, 33] ap31 rfl rfl rfl rfl (fun _ e => by cases e; rfl) (by exact trivial) (map_cells (f := eStr) (xs := ((l.take k.toNat).drop (0 : Int).toNat)) fun _ => rfl) (by have := g3; simp only [List.length_map, List.length_nil, List.length_cons] at this ⊢; omega) rfl rfl rfl rfl rfl ?_
   refine wr 2 rfl trivial ?_
   obtain ⟨g4, h⟩ := grd h
   refine WR.append tbOk ((((l.take k.toNat).drop (0 : Int).toNat) ++ [s]).map eStr) [40, 37] ap31 rfl rfl rfl rfl (fun _ e => by cases e; rfl) (by exact trivial) (map_cells (f := eStr) (xs := [s]) fun _ => rfl) (by have := g4; simp only [List.length_map, List.length_nil, List.length_cons] at this ⊢; omega) rfl rfl (by simp only [List.map_append]; try rfl) rfl rfl ?_
   refine wr 2 rfl trivial ?_
   obtain ⟨g5, h⟩ := grd h
   refine WR.q [] rfl rfl rfl (q_ev tbOk (.v (.sl 1 ((l.drop k.toNat).map eStr))) rfl (by exact sideR) (by exact tdT)) ?_
   obtain ⟨g6, h⟩ := grd h
   refine WR.append tbOk (((((l.take k.toNat).drop (0 : Int).toNat) ++ [s]) ++ (l.drop k.toNat)).map eStr) [44, 40] ap31 rfl rfl rfl rfl (fun _ e => by cases e; rfl) (by exact trivial) (map_cells (f := eStr) (xs := (l.drop k.toNat)) fun _ => rfl) (by have := g6; simp only [List.length_map, List.length_nil, List.length_cons] at this ⊢; omega) rfl rfl (by simp only [List.map_append]; try rfl) rfl rfl ?_
   refine wr 1 rfl trivial ?_
   refine WR.nil (by kernel_rfl) (WQ.thenNormal (WC.ret ?_))
   refine WQ.publish 44 rfl rfl ?_
   cases h
   exact rt tbOk hR
theorem refUnion_con {wg : World} (hw : WG wg) {a : (List Str)} {b : (List Str)} {r : (List Str)} (h : refUnion a b = some r) : Con Tryz.prog wg gl 82 [.v (.sl 1 (a.map eStr)), .v (.sl 1 (b.map eStr))] [] (.v (.sl 1 (r.map eStr))) [] := by
 unfold refUnion at h
 refine con_of_WC (S := slotsOf 0 _) Tryz.func82 rfl Tryz.ntmps82 rfl (fun t x hx => (slotsOf_get hx).2) ?_
 intro F L w ρ0 R hR
 try dsimp only [slotsOf]
 refine sr (lr1 rfl (ns (lr1 rfl (nn (WC.seq (sr (lr1 rfl (nn ?_))))))))
 refine WC.thenCut (X := (List Str)) (fun gG => ⟨[(5, .v (.sl 1 (gG.map eStr))), (1, .v (.sl 1 (b.map eStr)))], []⟩) (fun gG => refUnion_j1 b gG = some r) ?_ ?_
 ·refine WC.block ?_
  obtain ⟨eQ2, hl2, hk2⟩ := bnd h
  clear h
  refine WC.weaken 5 (.v (.sl 1 [])) rfl (Le.nil 1) ?_
  refine WC.loop (σ := Int × (List Str)) (τ := ((List Str))) (fun sS => ⟨[(6, .v (.int .i64 sS.1)), (5, .v (.sl 1 (sS.2.map eStr))), (0, .v (.sl 1 (a.map eStr))), (1, .v (.sl 1 (b.map eStr)))], []⟩) (refUnion_b2 a b) [] ((0 : Int), []) hl2 sub ?_
  rintro ⟨i4, out6⟩ m hn2 he2 hx2
  obtain ⟨o2, hf2⟩ := some_of hx2
  have h := hf2
  unfold refUnion_b2 at h
  try dsimp only [slotsOf]
  refine WC.seq (sr (lr2 rfl ?_))
  refine WL.q [] rfl rfl rfl (q_ev tbOk (.v (.int .i64 (a.length : Int))) rfl (by exact trivial) (by exact lenT)) ?_
  refine lr1 rfl (nn ?_)
  refine WC.cond rfl (fun hc2 => ?_) (fun hc2 => ?_)
  ·replace h := ite_t hc2 h
   refine kn (sb (WC.region (lr3 rfl ?_)))
   obtain ⟨g2, h⟩ := grd h
   replace h := bnd h; obtain ⟨x5, hxx5, h⟩ := h
   refine WL.q [] rfl rfl rfl (q_idx tbOk rfl (by exact trivial) g2 (map_get (f := eStr) hxx5)) ?_
   refine lr1 rfl ?_
   replace h := bnd h; obtain ⟨v5, hvv5, h⟩ := h
   refine WL.call0 fn81 rfl rfl rfl rfl (by exact trivial) rfl (refWith_con hw hvv5) ?_
   refine lr1 rfl (WL.nil (bn (WC.region (lr3 rfl (WL.nil ?_)))))
   cases h
   exact WQ.next [] ((IntKind.i64.wrap (i4 + (1 : Int))), v5) sub (hn2 _ hf2)
  ·replace h := ite_f hc2 h
   refine WC.exit (WQ.thenExit ?_)
   cases h
   have he := he2 _ hf2
   subst he
   replace h := hk2
   try dsimp only at h
   refine eb ?_
   exact WQ.cut [] out6 sub h
 ·intro out h
  replace h : refUnion_j1 b out = some _ := h
  unfold refUnion_j1 at h
  try dsimp only [slotsOf]
  refine WC.seq (sr (lr1 rfl (nn ?_)))
  refine WC.thenCut (X := (List Str)) (fun gG => ⟨[(5, .v (.sl 1 (gG.map eStr)))], []⟩) (fun gG => refUnion_j2 gG = some r) ?_ ?_
  ·refine WC.block ?_
   obtain ⟨eQ1, hl1, hk1⟩ := bnd h
   clear h
   refine WC.loop (σ := Int × (List Str)) (τ := ((List Str))) (fun sS => ⟨[(7, .v (.int .i64 sS.1)), (5, .v (.sl 1 (sS.2.map eStr))), (1, .v (.sl 1 (b.map eStr)))], []⟩) (refUnion_b1 b) [] ((0 : Int), out) hl1 sub ?_
   rintro ⟨i, out3⟩ m hn1 he1 hx1
   obtain ⟨o1, hf1⟩ := some_of hx1
   have h := hf1
   unfold refUnion_b1 at h
   try dsimp only [slotsOf]
   refine WC.seq (sr (lr2 rfl ?_))
   refine WL.q [] rfl rfl rfl (q_ev tbOk (.v (.int .i64 (b.length : Int))) rfl (by exact trivial) (by exact lenT)) ?_
   refine lr1 rfl (nn ?_)
   refine WC.cond rfl (fun hc1 => ?_) (fun hc1 => ?_)
   ·replace h := ite_t hc1 h
    refine kn (sb (WC.region (lr3 rfl ?_)))
    obtain ⟨g1, h⟩ := grd h
    replace h := bnd h; obtain ⟨x2, hxx2, h⟩ := h
    refine WL.q [] rfl rfl rfl (q_idx tbOk rfl (by exact trivial) g1 (map_get (f := eStr) hxx2)) ?_
    refine lr1 rfl ?_
    replace h := bnd h; obtain ⟨v2, hvv2, h⟩ := h
    refine WL.call0 fn81 rfl rfl rfl rfl (by exact trivial) rfl (refWith_con hw hvv2) ?_
    refine lr1 rfl (WL.nil (bn (WC.region (lr3 rfl (WL.nil ?_)))))
    cases h
    exact WQ.next [] ((IntKind.i64.wrap (i + (1 : Int))), v2) sub (hn1 _ hf1)
   ·replace h := ite_f hc1 h
    refine WC.exit (WQ.thenExit ?_)
    cases h
    have he := he1 _ hf1
    subst he
    replace h := hk1
    try dsimp only at h
    refine eb ?_
    exact WQ.cut [] out3 sub h
  ·intro out2 h
   replace h : refUnion_j2 out2 = some _ := h
   unfold refUnion_j2 at h
   try dsimp only [slotsOf]
   refine sr (lr2 rfl (nr ?_))
   cases h
   exact rt tbOk hR
theorem sameStrings_con {wg : World} (hw : WG wg) {a : (List Str)} {b : (List Str)} {r : Bool} (h : sameStrings a b = some r) : Con Tryz.prog wg gl 54 [.v (.sl 1 (a.map eStr)), .v (.sl 1 (b.map eStr))] [] (.v (.bool r)) [] := by
 unfold sameStrings at h
 refine con_of_WC (S := slotsOf 0 _) Tryz.func54 rfl Tryz.ntmps54 rfl (fun t x hx => (slotsOf_get hx).2) ?_
 intro F L w ρ0 R hR
 try dsimp only [slotsOf]
 refine sr (lr1 rfl (nn (WC.seq (sr (lr1 rfl ?_)))))
 refine WL.q [] rfl rfl rfl (q_ev tbOk (.v (.int .i64 (a.length : Int))) rfl (by exact trivial) (by exact lenT)) ?_
 refine lr1 rfl ?_
 refine WL.q [] rfl rfl rfl (q_ev tbOk (.v (.int .i64 (b.length : Int))) rfl (by exact trivial) (by exact lenT)) ?_
 refine lr1 rfl (nn ?_)
 refine WC.cond rfl (fun hc1 => ?_) (fun hc1 => ?_)
 ·replace h := ite_t hc1 h
  refine sr (lr1 rfl (nr (WQ.thenRet ?_)))
  cases h
  exact rt tbOk hR
 ·replace h := ite_f hc1 h
  refine kn (WC.seq (sr (lr1 rfl (nn ?_))))
  refine WC.thenCut (X := Unit) (fun gG => ⟨[], []⟩) (fun gG => sameStrings_j1  = some r) ?_ ?_
  ·refine WC.block ?_
   obtain ⟨eQ1, hl1, hk1⟩ := bnd h
   clear h
   refine WC.loop (σ := Int) (τ := ((Bool) ⊕ (Unit))) (fun sS => ⟨[(5, .v (.int .i64 sS)), (0, .v (.sl 1 (a.map eStr))), (1, .v (.sl 1 (b.map eStr)))], []⟩) (sameStrings_b1 a b) [] (0 : Int) hl1 sub ?_
   intro i m hn1 he1 hx1
   obtain ⟨o1, hf1⟩ := some_of hx1
   have h := hf1
   unfold sameStrings_b1 at h
   try dsimp only [slotsOf]
   refine WC.seq (sr (lr2 rfl ?_))
   refine WL.q [] rfl rfl rfl (q_ev tbOk (.v (.int .i64 (a.length : Int))) rfl (by exact trivial) (by exact lenT)) ?_
   refine lr1 rfl (nn ?_)
   refine WC.cond rfl (fun hc2 => ?_) (fun hc2 => ?_)
   ·replace h := ite_t hc2 h
    refine kn (sb (WC.seq (WC.order mixed ?_)))
    refine wr 2 rfl trivial ?_
    obtain ⟨g1, h⟩ := grd h
    replace h := bnd h; obtain ⟨x3, hxx3, h⟩ := h
    refine WR.q [] rfl rfl rfl (q_idx tbOk rfl (by exact trivial) g1 (map_get (f := eStr) hxx3)) ?_
    refine wr 3 rfl trivial ?_
    obtain ⟨g2, h⟩ := grd h
    replace h := bnd h; obtain ⟨x4, hxx4, h⟩ := h
    refine WR.q [] rfl rfl rfl (q_idx tbOk rfl (by exact trivial) g2 (map_get (f := eStr) hxx4)) ?_
    refine wr 2 rfl trivial ?_
    refine WR.nil (by kernel_rfl) (WQ.thenNormal ?_)
    refine WC.cond rfl (fun hc3 => ?_) (fun hc3 => ?_)
    ·replace h := ite_t hc3 h
     refine sr (lr1 rfl (nr (rb ?_)))
     cases h
     have he := he1 _ hf1
     subst he
     have h : some false = some _ := hk1
     refine WQ.thenRet (rb ?_)
     cases h
     exact rt tbOk hR
    ·replace h := ite_f hc3 h
     refine WC.skip (bn (WC.region (lr3 rfl (WL.nil ?_))))
     cases h
     exact WQ.next [] (IntKind.i64.wrap (i + (1 : Int))) sub (hn1 _ hf1)
   ·replace h := ite_f hc2 h
    refine WC.exit (WQ.thenExit ?_)
    cases h
    have he := he1 _ hf1
    subst he
    replace h := hk1
    try dsimp only at h
    refine eb ?_
    exact WQ.cut [] () sub h
  ·intro _ h
   replace h : sameStrings_j1 = some _ := h
   unfold sameStrings_j1 at h
   try dsimp only [slotsOf]
   refine sr (lr1 rfl (nr ?_))
   cases h
   exact rt tbOk hR
theorem refPrefix_con {wg : World} (hw : WG wg) {code : Str} {p : Str} {r : Bool} (h : refPrefix code p = some r) : Con Tryz.prog wg gl 120 [.v (.str code), .v (.str p)] [] (.v (.bool r)) [] := by
 unfold refPrefix at h
 refine con_of_WC (S := slotsOf 0 _) Tryz.func120 rfl Tryz.ntmps120 rfl (fun t x hx => (slotsOf_get hx).2) ?_
 intro F L w ρ0 R hR
 try dsimp only [slotsOf]
 refine sr (lr1 rfl (ns ?_))
 obtain ⟨g1, h⟩ := grd h
 refine lr 14 rfl (by repeat' (first | exact trivial | assumption | intro _ | exact g1 (by assumption) | apply And.intro | exact sideT | (refine and_i ?_ ?_))) ?_
 refine nr ?_
 cases h
 exact rt tbOk hR
theorem refAt_con {wg : World} (hw : WG wg) {b : ApiNomenclature} {day : Int} {r : (List ApiCodeEntry)} (h : refAt b day = some r) : Con Tryz.prog wg gl 119 [.v (.agg [.sl 5 (b.Entries.map eApiCodeEntry), .sl 3 (b.Notes.map eApiCodeNote)]), .v (.int .i64 day)] [] (.v (.sl 5 (r.map eApiCodeEntry))) [] := by
 unfold refAt at h
 refine con_of_WC (S := slotsOf 0 _) Tryz.func119 rfl Tryz.ntmps119 rfl (fun t x hx => (slotsOf_get hx).2) ?_
 intro F L w ρ0 R hR
 try dsimp only [slotsOf]
 refine sr (lr2 rfl (ns (lr1 rfl (nn (WC.seq (sr (lr1 rfl (nn ?_))))))))
 refine WC.thenCut (X := (List ApiCodeEntry)) (fun gG => ⟨[(5, .r 1005)], [(1005, .row 54 5 (gG.map eApiCodeEntry))]⟩) (fun gG => refAt_j1 gG = some r) ?_ ?_
 ·refine WC.block ?_
  obtain ⟨eQ1, hl1, hk1⟩ := bnd h
  clear h
  refine WC.rowNil 5 1005 54 5 rfl rfl ?_
  refine WC.loop (σ := Int × (List ApiCodeEntry)) (τ := ((List ApiCodeEntry))) (fun sS => ⟨[(6, .v (.int .i64 sS.1)), (5, .r 1005), (2, .p 2 0), (1, .v (.int .i64 day))], [(1005, .row 54 5 (sS.2.map eApiCodeEntry)), (2, .blk 28 [.v (.sl 5 (b.Entries.map eApiCodeEntry)), .v (.sl 3 (b.Notes.map eApiCodeNote))])]⟩) (refAt_b1 b day) [] ((0 : Int), []) hl1 sub ?_
  rintro ⟨i2, out3⟩ m hn1 he1 hx1
  obtain ⟨o1, hf1⟩ := some_of hx1
  have h := hf1
  unfold refAt_b1 at h
  try dsimp only [slotsOf]
  refine WC.seq (sr (lr3 rfl ?_))
  refine WL.q [] rfl rfl rfl (q_ev tbOk (.v (.int .i64 (b.Entries.length : Int))) rfl (by exact trivial) (by exact lenT)) ?_
  refine lr1 rfl (nn ?_)
  refine WC.cond rfl (fun hc1 => ?_) (fun hc1 => ?_)
  ·replace h := ite_t hc1 h
   refine kn (WC.seq ?_)
   refine WC.thenCut (X := (List ApiCodeEntry)) (fun gG => ⟨[(5, .r 1005), (6, .v (.int .i64 i2)), (2, .p 2 0), (1, .v (.int .i64 day))], [(1005, .row 54 5 (gG.map eApiCodeEntry)), (2, .blk 28 [.v (.sl 5 (b.Entries.map eApiCodeEntry)), .v (.sl 3 (b.Notes.map eApiCodeNote))])]⟩) (fun gG => refAt_j2 b day i2 gG = some o1) ?_ ?_
   ·refine WC.block (sr (lr3 rfl ?_))
    obtain ⟨g1, h⟩ := grd h
    replace h := bnd h; obtain ⟨x5, hxx5, h⟩ := h
    refine WL.q [] rfl rfl rfl (q_idx tbOk rfl (by exact trivial) g1 (map_get (f := eApiCodeEntry) hxx5)) ?_
    refine lr 9 rfl (by exact sideR) ?_
    obtain ⟨g2, h⟩ := grd h
    refine WL.gq [] rfl rfl rfl rfl (fun hg => q_idx tbOk rfl (by exact sideR) (g2 hg).1 (map_getD (f := eApiCodeEntry) (g2 hg).2 (g2 hg).1)) ?_
    refine lr 4 rfl (by exact sideR) ?_
    refine nn ?_
    refine WC.cond rfl (fun hc2 => ?_) (fun hc2 => ?_)
    ·replace h := ite_t hc2 h
     refine WC.region (lr4 rfl ?_)
     obtain ⟨g3, h⟩ := grd h
     replace h := bnd h; obtain ⟨x6, hxx6, h⟩ := h
     refine WL.q [] rfl rfl rfl (q_idx tbOk rfl (by exact trivial) g3 (map_get (f := eApiCodeEntry) hxx6)) ?_
     refine lr2 rfl ?_
     obtain ⟨g4, h⟩ := grd h
     refine WL.append tbOk ((out3 ++ [x6]).map eApiCodeEntry) [39, 1005] ap25 rfl rfl rfl rfl (fun _ e => by cases e; rfl) (by exact trivial) (map_cells (f := eApiCodeEntry) (xs := [x6]) fun _ => rfl) (by have := g4; simp only [List.length_map, List.length_nil, List.length_cons] at this ⊢; omega) rfl rfl (by simp only [List.map_append]; try rfl) rfl ?_
     refine lr1 rfl (WL.nil (WQ.blockNormal ?_))
     exact WQ.cut [(1005, 39)] (out3 ++ [x6]) sub h
    ·replace h := ite_f hc2 h
     refine WC.skip (WQ.blockNormal ?_)
     exact WQ.cut [] out3 sub h
   ·intro out6 h
    replace h : refAt_j2 b day i2 out6 = some _ := h
    unfold refAt_j2 at h
    try dsimp only [slotsOf]
    refine WC.region (lr3 rfl (WL.nil ?_))
    cases h
    exact WQ.next [] ((IntKind.i64.wrap (i2 + (1 : Int))), out6) sub (hn1 _ hf1)
  ·replace h := ite_f hc1 h
   refine WC.exit (WQ.thenExit ?_)
   cases h
   have he := he1 _ hf1
   subst he
   replace h := hk1
   try dsimp only at h
   refine eb ?_
   exact WQ.cut [] out3 sub h
 ·intro out h
  replace h : refAt_j1 out = some _ := h
  unfold refAt_j1 at h
  try dsimp only [slotsOf]
  refine sr (lr2 rfl (nr ?_))
  refine WQ.publish 1005 rfl rfl ?_
  cases h
  exact rt tbOk hR
theorem refBelow_con {wg : World} (hw : WG wg) {b : ApiNomenclature} {day : Int} {code : Str} {r : (List ApiCodeEntry)} (h : refBelow b day code = some r) : Con Tryz.prog wg gl 68 [.v (.agg [.sl 5 (b.Entries.map eApiCodeEntry), .sl 3 (b.Notes.map eApiCodeNote)]), .v (.int .i64 day), .v (.str code)] [] (.v (.sl 5 (r.map eApiCodeEntry))) [] := by
 unfold refBelow at h
 refine con_of_WC (S := slotsOf 0 _) Tryz.func68 rfl Tryz.ntmps68 rfl (fun t x hx => (slotsOf_get hx).2) ?_
 intro F L w ρ0 R hR
 try dsimp only [slotsOf]
 refine sr (lr2 rfl (ns (lr1 rfl (ns (lr2 rfl ?_)))))
 replace h := bnd h; obtain ⟨v, hvv, h⟩ := h
 refine WL.call0 fn119 rfl rfl rfl rfl (by exact trivial) rfl (refAt_con hw hvv) ?_
 refine lr1 rfl (nn (WC.seq (sr (lr1 rfl (nn ?_)))))
 refine WC.thenCut (X := (List ApiCodeEntry)) (fun gG => ⟨[(7, .r 1007)], [(1007, .row 54 5 (gG.map eApiCodeEntry))]⟩) (fun gG => refBelow_j1 gG = some r) ?_ ?_
 ·refine WC.block ?_
  obtain ⟨eQ1, hl1, hk1⟩ := bnd h
  clear h
  refine WC.rowNil 7 1007 54 5 rfl rfl ?_
  refine WC.loop (σ := Int × (List ApiCodeEntry)) (τ := ((List ApiCodeEntry))) (fun sS => ⟨[(9, .v (.int .i64 sS.1)), (8, .v (.sl 5 (v.map eApiCodeEntry))), (7, .r 1007), (2, .v (.str code))], [(1007, .row 54 5 (sS.2.map eApiCodeEntry))]⟩) (refBelow_b1 code v) [] ((0 : Int), []) hl1 sub ?_
  rintro ⟨i2, out3⟩ m hn1 he1 hx1
  obtain ⟨o1, hf1⟩ := some_of hx1
  have h := hf1
  unfold refBelow_b1 at h
  try dsimp only [slotsOf]
  refine WC.seq (sr (lr2 rfl ?_))
  refine WL.q [] rfl rfl rfl (q_ev tbOk (.v (.int .i64 (v.length : Int))) rfl (by exact trivial) (by exact lenT)) ?_
  refine lr1 rfl (nn ?_)
  refine WC.cond rfl (fun hc1 => ?_) (fun hc1 => ?_)
  ·replace h := ite_t hc1 h
   refine kn (WC.seq ?_)
   refine WC.thenCut (X := (List ApiCodeEntry)) (fun gG => ⟨[(7, .r 1007), (9, .v (.int .i64 i2)), (8, .v (.sl 5 (v.map eApiCodeEntry))), (2, .v (.str code))], [(1007, .row 54 5 (gG.map eApiCodeEntry))]⟩) (fun gG => refBelow_j2 code v i2 gG = some o1) ?_ ?_
   ·refine WC.block (sr (lr2 rfl ?_))
    obtain ⟨g1, h⟩ := grd h
    replace h := bnd h; obtain ⟨x5, hxx5, h⟩ := h
    refine WL.q [] rfl rfl rfl (q_idx tbOk rfl (by exact trivial) g1 (map_get (f := eApiCodeEntry) hxx5)) ?_
    refine lr4 rfl (ns ?_)
    refine lr 19 rfl (by exact sideR) ?_
    obtain ⟨g2, h⟩ := grd h
    refine WL.gq [] rfl rfl rfl rfl (fun hg => q_idx tbOk rfl (by exact sideR) (g2 hg).1 (map_getD (f := eApiCodeEntry) (g2 hg).2 (g2 hg).1)) ?_
    refine lr 3 rfl (by exact sideR) ?_
    replace h := bnd h; obtain ⟨v4, hvv4, h⟩ := h
    refine WL.gcall0 fn120 rfl rfl rfl rfl rfl (fun _ => (by exact sideR)) rfl (fun hg => (refPrefix_con hw (ite_t hg hvv4))) ?_
    refine lr 2 rfl (by exact sideR) ?_
    refine nn ?_
    refine WC.cond rfl (fun hc2 => ?_) (fun hc2 => ?_)
    ·replace h := ite_t hc2 h
     refine WC.region (lr3 rfl ?_)
     obtain ⟨g3, h⟩ := grd h
     replace h := bnd h; obtain ⟨x6, hxx6, h⟩ := h
     refine WL.q [] rfl rfl rfl (q_idx tbOk rfl (by exact trivial) g3 (map_get (f := eApiCodeEntry) hxx6)) ?_
     refine lr2 rfl ?_
     obtain ⟨g4, h⟩ := grd h
     refine WL.append tbOk ((out3 ++ [x6]).map eApiCodeEntry) [58, 1007] ap25 rfl rfl rfl rfl (fun _ e => by cases e; rfl) (by exact trivial) (map_cells (f := eApiCodeEntry) (xs := [x6]) fun _ => rfl) (by have := g4; simp only [List.length_map, List.length_nil, List.length_cons] at this ⊢; omega) rfl rfl (by simp only [List.map_append]; try rfl) rfl ?_
     refine lr1 rfl (WL.nil (WQ.blockNormal ?_))
     exact WQ.cut [(1007, 58)] (out3 ++ [x6]) sub h
    ·replace h := ite_f hc2 h
     refine WC.skip (WQ.blockNormal ?_)
     exact WQ.cut [] out3 sub h
   ·intro out6 h
    replace h : refBelow_j2 code v i2 out6 = some _ := h
    unfold refBelow_j2 at h
    try dsimp only [slotsOf]
    refine WC.region (lr3 rfl (WL.nil ?_))
    cases h
    exact WQ.next [] ((IntKind.i64.wrap (i2 + (1 : Int))), out6) sub (hn1 _ hf1)
  ·replace h := ite_f hc1 h
   refine WC.exit (WQ.thenExit ?_)
   cases h
   have he := he1 _ hf1
   subst he
   replace h := hk1
   try dsimp only at h
   refine eb ?_
   exact WQ.cut [] out3 sub h
 ·intro out h
  replace h : refBelow_j1 out = some _ := h
  unfold refBelow_j1 at h
  try dsimp only [slotsOf]
  refine sr (lr2 rfl (nr ?_))
  refine WQ.publish 1007 rfl rfl ?_
  cases h
  exact rt tbOk hR
theorem refExcluded_con {wg : World} (hw : WG wg) {b : ApiNomenclature} {code : Str} {words : (List Str)} {r : Bool} (h : refExcluded b code words = some r) : Con Tryz.prog wg gl 80 [.v (.agg [.sl 5 (b.Entries.map eApiCodeEntry), .sl 3 (b.Notes.map eApiCodeNote)]), .v (.str code), .v (.sl 1 (words.map eStr))] [] (.v (.bool r)) [] := by
 unfold refExcluded at h
 refine con_of_WC (S := slotsOf 0 _) Tryz.func80 rfl Tryz.ntmps80 rfl (fun t x hx => (slotsOf_get hx).2) ?_
 intro F L w ρ0 R hR
 try dsimp only [slotsOf]
 refine sr (lr2 rfl (nn (WC.seq (sr (lr1 rfl (nn ?_))))))
 refine WC.thenCut (X := Unit) (fun gG => ⟨[], []⟩) (fun gG => refExcluded_j1  = some r) ?_ ?_
 ·refine WC.block ?_
  obtain ⟨eQ1, hl1, hk1⟩ := bnd h
  clear h
  refine WC.loop (σ := Int) (τ := ((Bool) ⊕ (Unit))) (fun sS => ⟨[(7, .v (.int .i64 sS)), (3, .p 3 0), (1, .v (.str code)), (2, .v (.sl 1 (words.map eStr)))], [(3, .blk 28 [.v (.sl 5 (b.Entries.map eApiCodeEntry)), .v (.sl 3 (b.Notes.map eApiCodeNote))])]⟩) (refExcluded_b1 b code words) [] (0 : Int) hl1 sub ?_
  intro i m hn1 he1 hx1
  obtain ⟨o1, hf1⟩ := some_of hx1
  have h := hf1
  unfold refExcluded_b1 at h
  try dsimp only [slotsOf]
  refine WC.seq (sr (lr3 rfl ?_))
  refine WL.q [] rfl rfl rfl (q_ev tbOk (.v (.int .i64 (b.Notes.length : Int))) rfl (by exact trivial) (by exact lenT)) ?_
  refine lr1 rfl (nn ?_)
  refine WC.cond rfl (fun hc1 => ?_) (fun hc1 => ?_)
  ·replace h := ite_t hc1 h
   refine kn (sb (sr (lr4 rfl ?_)))
   obtain ⟨g1, h⟩ := grd h
   replace h := bnd h; obtain ⟨x2, hxx2, h⟩ := h
   refine WL.q [] rfl rfl rfl (q_idx tbOk rfl (by exact trivial) g1 (map_get (f := eApiCodeNote) hxx2)) ?_
   refine lr2 rfl ?_
   replace h := bnd h; obtain ⟨v3, hvv3, h⟩ := h
   refine WL.call0 fn120 rfl rfl rfl rfl (by exact trivial) rfl (refPrefix_con hw hvv3) ?_
   refine lr 4 rfl (by exact sideR) ?_
   obtain ⟨g2, h⟩ := grd h
   refine WL.gq [] rfl rfl rfl rfl (fun hg => q_idx tbOk rfl (by exact sideR) (g2 hg).1 (map_getD (f := eApiCodeNote) (g2 hg).2 (g2 hg).1)) ?_
   refine lr 3 rfl (by exact sideR) ?_
   replace h := bnd h; obtain ⟨v4, hvv4, h⟩ := h
   refine WL.gcall0 fn135 rfl rfl rfl rfl rfl (fun _ => (by exact sideR)) rfl (fun hg => (refSubset_con hw (ite_t hg hvv4))) ?_
   refine lr 1 rfl (by exact sideR) ?_
   refine nn ?_
   refine WC.cond rfl (fun hc2 => ?_) (fun hc2 => ?_)
   ·replace h := ite_t hc2 h
    refine sr (lr1 rfl (nr (rb ?_)))
    cases h
    have he := he1 _ hf1
    subst he
    have h : some true = some _ := hk1
    refine WQ.thenRet (rb ?_)
    cases h
    exact rt tbOk hR
   ·replace h := ite_f hc2 h
    refine WC.skip (bn (WC.region (lr3 rfl (WL.nil ?_))))
    cases h
    exact WQ.next [] (IntKind.i64.wrap (i + (1 : Int))) sub (hn1 _ hf1)
  ·replace h := ite_f hc1 h
   refine WC.exit (WQ.thenExit ?_)
   cases h
   have he := he1 _ hf1
   subst he
   replace h := hk1
   try dsimp only at h
   refine eb ?_
   exact WQ.cut [] () sub h
 ·intro _ h
  replace h : refExcluded_j1 = some _ := h
  unfold refExcluded_j1 at h
  try dsimp only [slotsOf]
  refine sr (lr1 rfl (nr ?_))
  cases h
  exact rt tbOk hR
theorem refAlts_con {wg : World} (hw : WG wg) {b : ApiNomenclature} {x : ApiCodeEntry} {r : (List (List Str))} (h : refAlts b x = some r) : Con Tryz.prog wg gl 83 [.v (.agg [.sl 5 (b.Entries.map eApiCodeEntry), .sl 3 (b.Notes.map eApiCodeNote)]), .v (.agg [.str x.Code, .int .i64 x.From, .int .i64 x.To, .sl 1 (x.Terms.map eLStr), .bool x.Other])] [] (.v (.sl 1 (r.map eLStr))) [] := by
 unfold refAlts at h
 refine con_of_WC (S := slotsOf 0 _) Tryz.func83 rfl Tryz.ntmps83 rfl (fun t x hx => (slotsOf_get hx).2) ?_
 intro F L w ρ0 R hR
 try dsimp only [slotsOf]
 refine sr (lr3 rfl (ns ?_))
 refine WL.buildRow tbOk (([] : (List (List Str))).map eLStr) rfl rfl rfl rfl (by exact trivial) rfl rfl ?_
 refine lr2 rfl ?_
 obtain ⟨g1, h⟩ := grd h
 refine WL.append tbOk (x.Terms.map eLStr) [10, 7] ap52 rfl rfl rfl rfl (fun _ e => by cases e; rfl) (by exact trivial) (map_cells (f := eLStr) (xs := x.Terms) fun _ => rfl) (by have := g1; simp only [List.length_map, List.length_nil, List.length_cons] at this ⊢; omega) rfl rfl rfl rfl ?_
 refine lr1 rfl (nn (WC.seq (sr (lr1 rfl (nn ?_)))))
 refine WC.thenCut (X := (List (List Str))) (fun gG => ⟨[(5, .r 1005)], [(1005, .row 31 1 (gG.map eLStr))]⟩) (fun gG => refAlts_j1 gG = some r) ?_ ?_
 ·refine WC.block ?_
  obtain ⟨eQ1, hl1, hk1⟩ := bnd h
  clear h
  refine WC.loop (σ := Int × (List (List Str))) (τ := ((List (List Str)))) (fun sS => ⟨[(6, .v (.int .i64 sS.1)), (5, .r 1005), (3, .p 3 0), (2, .p 2 0)], [(1005, .row 31 1 (sS.2.map eLStr)), (2, .blk 28 [.v (.sl 5 (b.Entries.map eApiCodeEntry)), .v (.sl 3 (b.Notes.map eApiCodeNote))]), (3, .blk 54 [.v (.str x.Code), .v (.int .i64 x.From), .v (.int .i64 x.To), .v (.sl 1 (x.Terms.map eLStr)), .v (.bool x.Other)])]⟩) (refAlts_b1 b x) [(1005, 10)] ((0 : Int), x.Terms) hl1 sub ?_
  rintro ⟨i, out2⟩ m hn1 he1 hx1
  obtain ⟨o1, hf1⟩ := some_of hx1
  have h := hf1
  unfold refAlts_b1 at h
  try dsimp only [slotsOf]
  refine WC.seq (sr (lr3 rfl ?_))
  refine WL.q [] rfl rfl rfl (q_ev tbOk (.v (.int .i64 (b.Notes.length : Int))) rfl (by exact trivial) (by exact lenT)) ?_
  refine lr1 rfl (nn ?_)
  refine WC.cond rfl (fun hc1 => ?_) (fun hc1 => ?_)
  ·replace h := ite_t hc1 h
   refine kn (WC.seq ?_)
   refine WC.thenCut (X := (List (List Str))) (fun gG => ⟨[(5, .r 1005), (6, .v (.int .i64 i)), (3, .p 3 0), (2, .p 2 0)], [(1005, .row 31 1 (gG.map eLStr)), (2, .blk 28 [.v (.sl 5 (b.Entries.map eApiCodeEntry)), .v (.sl 3 (b.Notes.map eApiCodeNote))]), (3, .blk 54 [.v (.str x.Code), .v (.int .i64 x.From), .v (.int .i64 x.To), .v (.sl 1 (x.Terms.map eLStr)), .v (.bool x.Other)])]⟩) (fun gG => refAlts_j2 b x i gG = some o1) ?_ ?_
   ·refine WC.block (WC.seq (WC.order mixed ?_))
    refine wr 3 rfl trivial ?_
    obtain ⟨g2, h⟩ := grd h
    replace h := bnd h; obtain ⟨x4, hxx4, h⟩ := h
    refine WR.q [] rfl rfl rfl (q_idx tbOk rfl (by exact trivial) g2 (map_get (f := eApiCodeNote) hxx4)) ?_
    refine wr 5 rfl trivial ?_
    refine WR.nil (by kernel_rfl) (WQ.thenNormal ?_)
    refine WC.cond rfl (fun hc2 => ?_) (fun hc2 => ?_)
    ·replace h := ite_t hc2 h
     refine WC.region (lr4 rfl ?_)
     obtain ⟨g3, h⟩ := grd h
     replace h := bnd h; obtain ⟨x5, hxx5, h⟩ := h
     refine WL.q [] rfl rfl rfl (q_idx tbOk rfl (by exact trivial) g3 (map_get (f := eApiCodeNote) hxx5)) ?_
     refine lr3 rfl ?_
     obtain ⟨g4, h⟩ := grd h
     refine WL.append tbOk ((out2 ++ [x5.Words]).map eLStr) [35, 1005] ap52 rfl rfl rfl rfl (fun _ e => by cases e; rfl) (by exact trivial) (map_cells (f := eLStr) (xs := [x5.Words]) fun _ => rfl) (by have := g4; simp only [List.length_map, List.length_nil, List.length_cons] at this ⊢; omega) rfl rfl (by simp only [List.map_append]; try rfl) rfl ?_
     refine lr1 rfl (WL.nil (WQ.blockNormal ?_))
     exact WQ.cut [(1005, 35)] (out2 ++ [x5.Words]) sub h
    ·replace h := ite_f hc2 h
     refine WC.skip (WQ.blockNormal ?_)
     exact WQ.cut [] out2 sub h
   ·intro out6 h
    replace h : refAlts_j2 b x i out6 = some _ := h
    unfold refAlts_j2 at h
    try dsimp only [slotsOf]
    refine WC.region (lr3 rfl (WL.nil ?_))
    cases h
    exact WQ.next [] ((IntKind.i64.wrap (i + (1 : Int))), out6) sub (hn1 _ hf1)
  ·replace h := ite_f hc1 h
   refine WC.exit (WQ.thenExit ?_)
   cases h
   have he := he1 _ hf1
   subst he
   replace h := hk1
   try dsimp only at h
   refine eb ?_
   exact WQ.cut [] out2 sub h
 ·intro out h
  replace h : refAlts_j1 out = some _ := h
  unfold refAlts_j1 at h
  try dsimp only [slotsOf]
  refine sr (lr2 rfl (nr ?_))
  refine WQ.publish 1005 rfl rfl ?_
  cases h
  exact rt tbOk hR
theorem refScore_con {wg : World} (hw : WG wg) {b : ApiNomenclature} {x : ApiCodeEntry} {words : (List Str)} {r : Int} (h : refScore b x words = some r) : Con Tryz.prog wg gl 122 [.v (.agg [.sl 5 (b.Entries.map eApiCodeEntry), .sl 3 (b.Notes.map eApiCodeNote)]), .v (.agg [.str x.Code, .int .i64 x.From, .int .i64 x.To, .sl 1 (x.Terms.map eLStr), .bool x.Other]), .v (.sl 1 (words.map eStr))] [] (.v (.int .i64 r)) [] := by
 unfold refScore at h
 refine con_of_WC (S := slotsOf 0 _) Tryz.func122 rfl Tryz.ntmps122 rfl (fun t x hx => (slotsOf_get hx).2) ?_
 intro F L w ρ0 R hR
 try dsimp only [slotsOf]
 refine sr (lr3 rfl (ns (lr1 rfl (nn (WC.seq (sr (lr4 rfl ?_)))))))
 replace h := bnd h; obtain ⟨v, hvv, h⟩ := h
 refine WL.call0 fn80 rfl rfl rfl rfl (by exact trivial) rfl (refExcluded_con hw hvv) ?_
 refine nn ?_
 refine WC.cond rfl (fun hc1 => ?_) (fun hc1 => ?_)
 ·replace h := ite_t hc1 h
  refine sr (lr1 rfl (nr (WQ.thenRet ?_)))
  cases h
  exact rt tbOk hR
 ·replace h := ite_f hc1 h
  refine kn (sr (lr2 rfl ?_))
  replace h := bnd h; obtain ⟨v2, hvv2, h⟩ := h
  refine WL.call0 fn83 rfl rfl rfl rfl (by exact trivial) rfl (refAlts_con hw hvv2) ?_
  refine lr1 rfl (nn (WC.seq (sr (lr1 rfl (nn ?_)))))
  refine WC.thenCut (X := Int) (fun gG => ⟨[(7, .v (.int .i64 gG))], []⟩) (fun gG => refScore_j1 gG = some r) ?_ ?_
  ·refine WC.block ?_
   obtain ⟨eQ1, hl1, hk1⟩ := bnd h
   clear h
   refine WC.loop (σ := Int × Int) (τ := (Int)) (fun sS => ⟨[(9, .v (.int .i64 sS.1)), (8, .v (.sl 1 (v2.map eLStr))), (7, .v (.int .i64 sS.2)), (2, .v (.sl 1 (words.map eStr)))], []⟩) (refScore_b1 words v2) [] ((0 : Int), (0 : Int)) hl1 sub ?_
   rintro ⟨i, n12⟩ m hn1 he1 hx1
   obtain ⟨o1, hf1⟩ := some_of hx1
   have h := hf1
   unfold refScore_b1 at h
   try dsimp only [slotsOf]
   refine WC.seq (sr (lr2 rfl ?_))
   refine WL.q [] rfl rfl rfl (q_ev tbOk (.v (.int .i64 (v2.length : Int))) rfl (by exact trivial) (by exact lenT)) ?_
   refine lr1 rfl (nn ?_)
   refine WC.cond rfl (fun hc2 => ?_) (fun hc2 => ?_)
   ·replace h := ite_t hc2 h
    refine kn (WC.seq ?_)
    refine WC.thenCut (X := Int) (fun gG => ⟨[(7, .v (.int .i64 gG)), (9, .v (.int .i64 i)), (8, .v (.sl 1 (v2.map eLStr))), (2, .v (.sl 1 (words.map eStr)))], []⟩) (fun gG => refScore_j2 words v2 i gG = some o1) ?_ ?_
    ·refine WC.block (sr (lr2 rfl ?_))
     obtain ⟨g1, h⟩ := grd h
     replace h := bnd h; obtain ⟨x4, hxx4, h⟩ := h
     refine WL.q [] rfl rfl rfl (q_idx tbOk rfl (by exact trivial) g1 (map_get (f := eLStr) hxx4)) ?_
     refine lr2 rfl ?_
     replace h := bnd h; obtain ⟨v4, hvv4, h⟩ := h
     refine WL.call0 fn135 rfl rfl rfl rfl (by exact trivial) rfl (refSubset_con hw hvv4) ?_
     refine nn ?_
     refine WC.cond rfl (fun hc3 => ?_) (fun hc3 => ?_)
     ·replace h := ite_t hc3 h
      refine WC.region (lr3 rfl ?_)
      obtain ⟨g2, h⟩ := grd h
      replace h := bnd h; obtain ⟨x5, hxx5, h⟩ := h
      refine WL.q [] rfl rfl rfl (q_idx tbOk rfl (by exact trivial) g2 (map_get (f := eLStr) hxx5)) ?_
      refine lr1 rfl ?_
      refine WL.q [] rfl rfl rfl (q_ev tbOk (.v (.int .i64 (x5.length : Int))) rfl (by exact trivial) (by exact lenT)) ?_
      refine lr2 rfl (WL.nil (WQ.blockNormal ?_))
      exact WQ.cut [] (if (x5.length : Int) > n12 then (x5.length : Int) else n12) sub h
     ·replace h := ite_f hc3 h
      refine WC.skip (WQ.blockNormal ?_)
      exact WQ.cut [] n12 sub h
    ·intro n16 h
     replace h : refScore_j2 words v2 i n16 = some _ := h
     unfold refScore_j2 at h
     try dsimp only [slotsOf]
     refine WC.region (lr3 rfl (WL.nil ?_))
     cases h
     exact WQ.next [] ((IntKind.i64.wrap (i + (1 : Int))), n16) sub (hn1 _ hf1)
   ·replace h := ite_f hc2 h
    refine WC.exit (WQ.thenExit ?_)
    cases h
    have he := he1 _ hf1
    subst he
    replace h := hk1
    try dsimp only at h
    refine eb ?_
    exact WQ.cut [] n12 sub h
  ·intro n1 h
   replace h : refScore_j1 n1 = some _ := h
   unfold refScore_j1 at h
   try dsimp only [slotsOf]
   refine sr (lr2 rfl (nr ?_))
   cases h
   exact rt tbOk hR
end Go.Proofs.YtfkefolbabniaaaGreatDoor
end
