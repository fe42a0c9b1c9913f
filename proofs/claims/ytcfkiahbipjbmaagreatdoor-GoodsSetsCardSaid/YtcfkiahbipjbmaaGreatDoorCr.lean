/- Contracts: the program's functions compute the plain ones; by program (gen.py). -/
import Derived.Test.YtcfkiahbipjbmaaGreatDoorLib
import Derived.Test.YtcfkiahbipjbmaaGreatDoorPr
import Derived.Test.YtcfkiahbipjbmaaGreatDoorHt
import Derived.Test.YtcfkiahbipjbmaaGreatDoorCa
import Derived.Test.YtcfkiahbipjbmaaGreatDoorCb
import Derived.Test.YtcfkiahbipjbmaaGreatDoorCc
import Derived.Test.YtcfkiahbipjbmaaGreatDoorCd
import Derived.Test.YtcfkiahbipjbmaaGreatDoorCe
import Derived.Test.YtcfkiahbipjbmaaGreatDoorCg
import Derived.Test.YtcfkiahbipjbmaaGreatDoorCo
set_option linter.unusedVariables false
set_option linter.unusedSimpArgs false
set_option maxHeartbeats 4000000
set_option maxRecDepth 20000
namespace Go.Proofs.YtcfkiahbipjbmaaGreatDoor
open Go.V Go.C

theorem lawSets_con {wg : World} (hw : WG wg) {a : (List Str)} {b : (List Str)} {l : (List Int)} {m1 : (List Int)} {raw : Bool} {r : Bool} (h : lawSets a b l m1 raw = some r) : Con Tryz.prog wg gl 3 [.v (.sl 1 (a.map eStr)), .v (.sl 1 (b.map eStr)), .v (.sl 1 (l.map eInt_i64)), .v (.sl 1 (m1.map eInt_i64)), .v (.bool raw)] [] (.v (.bool r)) [] := by
 unfold lawSets at h
 refine con_of_WC (S := slotsOf 0 _) Tryz.func3 rfl Tryz.ntmps3 rfl (fun t x hx => (slotsOf_get hx).2) ?_
 intro F L w ρ0 R hR
 show WC _ _ _ ⟨[(0, .v (.sl 1 (a.map eStr))), (1, .v (.sl 1 (b.map eStr))), (2, .v (.sl 1 (l.map eInt_i64))), (3, .v (.sl 1 (m1.map eInt_i64))), (4, .v (.bool raw))], []⟩ _ _
 refine WC.seq (WC.region ?_)
 refine lr 1 rfl trivial ?_
 refine WL.nil (WQ.thenNormal (WC.seq (WC.region ?_)))
 refine lr 1 rfl trivial ?_
 replace h := bnd h; obtain ⟨v, hvv, h⟩ := h
 refine WL.call0 fn4 rfl rfl rfl rfl (by exact trivial) rfl (few_con hw hvv) ?_
 refine lr 1 rfl trivial ?_
 replace h := bnd h; obtain ⟨v2, hvv2, h⟩ := h
 refine WL.call0 fn4 rfl rfl rfl rfl (by exact trivial) rfl (few_con hw hvv2) ?_
 refine lr 2 rfl trivial ?_
 refine WL.nil (WQ.thenNormal (WC.seq (WC.seq (WC.region ?_))))
 refine lr 2 rfl trivial ?_
 refine WL.nil (WQ.thenNormal ?_)
 refine WC.thenCut (X := (List Str) × (List Str)) (fun gG => ⟨[(1, .v (.sl 1 (gG.1.map eStr))), (0, .v (.sl 1 (gG.2.map eStr)))], []⟩) (fun gG => lawSets_j1 gG.1 gG.2 = some r) ?_ ?_
 ·refine WC.cond rfl (fun hc2 => ?_) (fun hc2 => ?_)
  ·replace h := ite_t hc2 h
   refine WC.region ?_
   refine lr 1 rfl trivial ?_
   replace h := bnd h; obtain ⟨v20, hvv20, h⟩ := h
   refine WL.call0 fn5 rfl rfl rfl rfl (by exact trivial) rfl (madeGood_con hw hvv20) ?_
   refine lr 2 rfl trivial ?_
   replace h := bnd h; obtain ⟨v21, hvv21, h⟩ := h
   refine WL.call0 fn5 rfl rfl rfl rfl (by exact trivial) rfl (madeGood_con hw hvv21) ?_
   refine lr 3 rfl trivial ?_
   refine WL.nil ?_
   exact WQ.cut [] (v21.Words, v20.Words) ⟨(by exact ⟨rfl, rfl, trivial⟩), (by exact trivial), rfl, rfl, rfl, rfl⟩ h
  ·replace h := ite_f hc2 h
   refine WC.skip ?_
   exact WQ.cut [] (v2, v) ⟨(by exact ⟨rfl, rfl, trivial⟩), (by exact trivial), rfl, rfl, rfl, rfl⟩ h
 ·rintro ⟨b2, a2⟩ h
  replace h : lawSets_j1 b2 a2 = some _ := h
  unfold lawSets_j1 at h
  show WC _ _ _ ⟨[(1, .v (.sl 1 (b2.map eStr))), (0, .v (.sl 1 (a2.map eStr)))], []⟩ _ _
  refine WC.seq (WC.region ?_)
  refine lr 2 rfl trivial ?_
  replace h := bnd h; obtain ⟨v3, hvv3, h⟩ := h
  refine WL.call0 fn6 rfl rfl rfl rfl (by exact trivial) rfl (union_con hw hvv3) ?_
  refine lr 1 rfl trivial ?_
  refine WL.nil (WQ.thenNormal (WC.seq (WC.seq (WC.region ?_))))
  refine lr 3 rfl trivial ?_
  replace h := bnd h; obtain ⟨v4, hvv4, h⟩ := h
  refine WL.call0 fn8 rfl rfl rfl rfl (by exact trivial) rfl (refUnion_con hw hvv4) ?_
  replace h := bnd h; obtain ⟨v5, hvv5, h⟩ := h
  refine WL.call0 fn7 rfl rfl rfl rfl (by exact trivial) rfl (sameStrings_con hw hvv5) ?_
  refine lr 4 rfl (by exact sideR) ?_
  replace h := bnd h; obtain ⟨v6, hvv6, h⟩ := h
  refine WL.gcall0 fn9 rfl rfl rfl rfl rfl (fun _ => (by exact sideR)) rfl (fun hg => (subsetP_con hw (ite_t hg hvv6))) ?_
  refine lr 2 rfl (by exact sideR) ?_
  replace h := bnd h; obtain ⟨v7, hvv7, h⟩ := h
  refine WL.gcall0 fn10 rfl rfl rfl rfl rfl (fun _ => (by exact sideR)) rfl (fun hg => (refSubset_con hw (ite_t hg hvv7))) ?_
  refine lr 5 rfl (by exact sideR) ?_
  replace h := bnd h; obtain ⟨v8, hvv8, h⟩ := h
  refine WL.gcall0 fn11 rfl rfl rfl rfl rfl (fun _ => (by exact sideR)) rfl (fun hg => (commonP_con hw (ite_t hg hvv8))) ?_
  refine lr 2 rfl (by exact sideR) ?_
  replace h := bnd h; obtain ⟨v9, hvv9, h⟩ := h
  refine WL.gcall0 fn12 rfl rfl rfl rfl rfl (fun _ => (by exact sideR)) rfl (fun hg => (refCommon_con hw (ite_t hg hvv9))) ?_
  refine lr 4 rfl (by exact sideR) ?_
  replace h := bnd h; obtain ⟨v10, hvv10, h⟩ := h
  refine WL.gcall0 fn13 rfl rfl rfl rfl rfl (fun _ => (by exact sideR)) rfl (fun hg => (validWords_con hw (ite_t hg hvv10))) ?_
  refine lr 1 rfl (by exact sideR) ?_
  replace h := bnd h; obtain ⟨v11, hvv11, h⟩ := h
  refine WL.gcall0 fn14 rfl rfl rfl rfl rfl (fun _ => (by exact sideR)) rfl (fun hg => (refWords_con hw (ite_t hg hvv11))) ?_
  refine lr 2 rfl (by exact sideR) ?_
  refine WL.nil (WQ.thenNormal ?_)
  refine WC.cond rfl (fun hc1 => ?_) (fun hc1 => ?_)
  ·replace h := ite_t hc1 h
   refine WC.seq (WC.region ?_)
   refine lr 1 rfl trivial ?_
   refine WL.nil (WQ.thenNormal (WC.ret (WQ.thenRet ?_)))
   cases h
   exact WQ.rets tbOk hR [] (.inl rfl) rfl rfl (Le.refl _) (by exact trivial) rfl rfl rfl rfl
  ·replace h := ite_f hc1 h
   refine WC.skip (WQ.thenNormal (WC.seq (WC.region ?_)))
   refine lr 2 rfl trivial ?_
   replace h := bnd h; obtain ⟨v12, hvv12, h⟩ := h
   refine WL.call0 fn9 rfl rfl rfl rfl (by exact trivial) rfl (subsetP_con hw hvv12) ?_
   refine lr 3 rfl (by exact sideR) ?_
   replace h := bnd h; obtain ⟨v13, hvv13, h⟩ := h
   refine WL.gcall0 fn9 rfl rfl rfl rfl rfl (fun _ => (by exact sideR)) rfl (fun hg => (subsetP_con hw (ite_t hg hvv13))) ?_
   refine lr 4 rfl (by exact sideR) ?_
   replace h := bnd h; obtain ⟨v14, hvv14, h⟩ := h
   refine WL.gcall0 fn11 rfl rfl rfl rfl rfl (fun _ => (by exact sideR)) rfl (fun hg => (commonP_con hw (ite_t hg hvv14))) ?_
   refine lr 2 rfl (by exact sideR) ?_
   replace h := bnd h; obtain ⟨v15, hvv15, h⟩ := h
   refine WL.gcall0 fn11 rfl rfl rfl rfl rfl (fun _ => (by exact sideR)) rfl (fun hg => (commonP_con hw (ite_t hg hvv15))) ?_
   refine lr 4 rfl (by exact sideR) ?_
   refine WL.gq [] rfl rfl rfl rfl (fun hg => q_ev tbOk (.v (.int .i64 (v3.length : Int))) rfl (by exact sideR) (by exact lenT)) ?_
   refine lr 2 rfl (by exact sideR) ?_
   replace h := bnd h; obtain ⟨v16, hvv16, h⟩ := h
   refine WL.gcall0 fn11 rfl rfl rfl rfl rfl (fun _ => (by exact sideR)) rfl (fun hg => (commonP_con hw (ite_t hg hvv16))) ?_
   refine lr 2 rfl (by exact sideR) ?_
   replace h := bnd h; obtain ⟨v17, hvv17, h⟩ := h
   refine WL.gcall0 fn8 rfl rfl rfl rfl rfl (fun _ => (by exact sideR)) rfl (fun hg => (con_le (.cons (Le.refl _) (.cons (Le.nil 1) .nil)) (refUnion_con hw (ite_t hg hvv17)))) ?_
   refine WL.gq [] rfl rfl rfl rfl (fun hg => q_ev tbOk (.v (.int .i64 (v17.length : Int))) rfl (by exact sideR) (by exact lenT)) ?_
   refine lr 1 rfl (by exact sideR) ?_
   replace h := bnd h; obtain ⟨v18, hvv18, h⟩ := h
   refine WL.gcall0 fn8 rfl rfl rfl rfl rfl (fun _ => (by exact sideR)) rfl (fun hg => (con_le (.cons (Le.refl _) (.cons (Le.nil 1) .nil)) (refUnion_con hw (ite_t hg hvv18)))) ?_
   refine WL.gq [] rfl rfl rfl rfl (fun hg => q_ev tbOk (.v (.int .i64 (v18.length : Int))) rfl (by exact sideR) (by exact lenT)) ?_
   refine lr 4 rfl (by exact sideR) ?_
   replace h := bnd h; obtain ⟨v19, hvv19, h⟩ := h
   refine WL.gcall0 fn15 rfl rfl rfl rfl rfl (fun _ => (by exact sideR)) rfl (fun hg => (awake08_con hw (ite_t hg hvv19))) ?_
   refine lr 2 rfl (by exact sideR) ?_
   refine WL.nil (WQ.thenNormal (WC.ret ?_))
   cases h
   exact WQ.rets tbOk hR [] (.inl rfl) rfl rfl (Le.refl _) (by exact trivial) rfl rfl rfl rfl

end Go.Proofs.YtcfkiahbipjbmaaGreatDoor
