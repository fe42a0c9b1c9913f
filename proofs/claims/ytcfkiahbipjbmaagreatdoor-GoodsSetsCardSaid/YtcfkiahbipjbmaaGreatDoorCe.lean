/- Contracts: the program's functions compute the plain ones; by program (gen.py). -/
import Derived.Test.YtcfkiahbipjbmaaGreatDoorLib
import Derived.Test.YtcfkiahbipjbmaaGreatDoorPe
import Derived.Test.YtcfkiahbipjbmaaGreatDoorCa
import Derived.Test.YtcfkiahbipjbmaaGreatDoorCb
import Derived.Test.YtcfkiahbipjbmaaGreatDoorCc
import Derived.Test.YtcfkiahbipjbmaaGreatDoorCd
set_option linter.unusedVariables false
set_option linter.unusedSimpArgs false
set_option maxHeartbeats 4000000
set_option maxRecDepth 20000
namespace Go.Proofs.YtcfkiahbipjbmaaGreatDoor
open Go.V Go.C

theorem awake08_con {wg : World} (hw : WG wg)  {r : Bool} (h : awake08  = some r) : Con Tryz.prog wg gl 15 [] [] (.v (.bool r)) [] := by
 unfold awake08 at h
 refine con_of_WC (S := slotsOf 0 _) Tryz.func15 rfl Tryz.ntmps15 rfl (fun t x hx => (slotsOf_get hx).2) ?_
 intro F L w ρ0 R hR
 show WC _ _ _ ⟨[], []⟩ _ _
 refine WC.seq (WC.region ?_)
 refine lr 1 rfl trivial ?_
 refine WL.nil (WQ.thenNormal (WC.seq (WC.region ?_)))
 replace h := bnd h; obtain ⟨v, hvv, h⟩ := h
 refine WL.call0 fn29 rfl rfl rfl rfl (by exact trivial) rfl (goodsParse_con hw hvv) ?_
 refine lr 6 rfl trivial ?_
 refine WL.nil (WQ.thenNormal (WC.seq (WC.region ?_)))
 refine lr 1 rfl trivial ?_
 replace h := bnd h; obtain ⟨v2, hvv2, h⟩ := h
 refine WL.call0 fn30 rfl rfl rfl rfl (by exact trivial) rfl (goodsCharacters_con hw hvv2) ?_
 refine lr 1 rfl trivial ?_
 refine WL.nil (WQ.thenNormal (WC.seq (WC.region ?_)))
 refine lr 4 rfl (by exact sideR) ?_
 refine WL.gq [] rfl rfl rfl rfl (fun hg => q_ev tbOk (.v (.int .i64 (v2.length : Int))) rfl (by exact sideR) (by exact lenT)) ?_
 refine lr 4 rfl (by exact sideR) ?_
 obtain ⟨g1, h⟩ := grd h
 refine WL.gq [] rfl rfl rfl rfl (fun hg => q_idx tbOk rfl (by exact sideR) (g1 hg).1 (map_getD (f := eApiComponent) (g1 hg).2 (g1 hg).1)) ?_
 refine lr 2 rfl (by exact sideR) ?_
 refine WL.gq [] rfl rfl rfl rfl (fun hg => q_ev tbOk (.v (.int .i64 (((v2.getD 0 default).Words).length : Int))) rfl (by exact sideR) (by exact lenT)) ?_
 refine lr 4 rfl (by exact sideR) ?_
 obtain ⟨g2, h⟩ := grd h
 refine WL.gq [] rfl rfl rfl rfl (fun hg => q_idx tbOk rfl (by exact sideR) (g2 hg).1 (map_getD (f := eApiComponent) (g2 hg).2 (g2 hg).1)) ?_
 refine lr 2 rfl (by exact sideR) ?_
 obtain ⟨g3, h⟩ := grd h
 refine WL.gq [] rfl rfl rfl rfl (fun hg => q_idx tbOk rfl (by exact sideR) (g3 hg).1 (map_getD (f := eStr) (g3 hg).2 (g3 hg).1)) ?_
 refine lr 5 rfl (by exact sideR) ?_
 replace h := bnd h; obtain ⟨v3, hvv3, h⟩ := h
 refine WL.gcall0 fn31 rfl rfl rfl rfl rfl (fun _ => (by exact sideR)) rfl (fun hg => (goodsValidate_con hw (ite_t hg hvv3))) ?_
 refine lr 4 rfl (by exact sideR) ?_
 replace h := bnd h; obtain ⟨v4, hvv4, h⟩ := h
 refine WL.gcall0 fn32 rfl rfl rfl rfl rfl (fun _ => (by exact sideR)) rfl (fun hg => (goodsFormat_con hw (ite_t hg hvv4))) ?_
 refine lr 3 rfl (by exact sideR) ?_
 refine WL.nil (WQ.thenNormal (WC.ret ?_))
 cases h
 exact WQ.rets tbOk hR [] (.inl rfl) rfl rfl (Le.refl _) (by exact trivial) rfl rfl rfl rfl

end Go.Proofs.YtcfkiahbipjbmaaGreatDoor
