/- Contracts: the program's functions compute the plain ones; by program (gen.py). -/
import Derived.Test.YtfkefolbabniaaaGreatDoorLib
import Derived.Test.YtfkefolbabniaaaGreatDoorPe
import Derived.Test.YtfkefolbabniaaaGreatDoorCa
import Derived.Test.YtfkefolbabniaaaGreatDoorCb
import Derived.Test.YtfkefolbabniaaaGreatDoorCc
import Derived.Test.YtfkefolbabniaaaGreatDoorCd
set_option linter.unusedVariables false
set_option linter.unusedSimpArgs false
set_option maxHeartbeats 4000000
set_option maxRecDepth 20000
namespace Go.Proofs.YtfkefolbabniaaaGreatDoor
open Go.V Go.C

theorem awake09_con {wg : World} (hw : WG wg)  {r : Bool} (h : awake09  = some r) : Con Tryz.prog wg gl 20 [] [] (.v (.bool r)) [] := by
 unfold awake09 at h
 refine con_of_WC (S := slotsOf 0 _) Tryz.func20 rfl Tryz.ntmps20 rfl (fun t x hx => (slotsOf_get hx).2) ?_
 intro F L w ρ0 R hR
 show WC _ _ _ ⟨[], []⟩ _ _
 refine WC.seq (WC.region ?_)
 refine lr 1 rfl trivial ?_
 refine WL.nil (WQ.thenNormal (WC.seq (WC.region ?_)))
 replace h := bnd h; obtain ⟨v, hvv, h⟩ := h
 refine WL.call0 fn17 rfl rfl rfl rfl (by exact trivial) rfl (nomParse_con hw hvv) ?_
 refine lr 8 rfl trivial ?_
 refine WL.nil (WQ.thenNormal (WC.seq (WC.region ?_)))
 refine lr 1 rfl trivial ?_
 replace h := bnd h; obtain ⟨v2, hvv2, h⟩ := h
 refine WL.call0 fn41 rfl rfl rfl rfl (by exact trivial) rfl (nomBelow_con hw hvv2) ?_
 refine lr 1 rfl trivial ?_
 refine WL.nil (WQ.thenNormal (WC.seq (WC.order mixed ?_)))
 refine wr 8 rfl (by exact sideR) ?_
 refine WR.gq [] rfl rfl rfl rfl (fun hg => q_ev tbOk (.v (.int .i64 (v2.length : Int))) rfl (by exact sideR) (by exact lenT)) ?_
 refine wr 5 rfl (by exact sideR) ?_
 obtain ⟨g1, h⟩ := grd h
 refine WR.gq [] rfl rfl rfl rfl (fun hg => q_idx tbOk rfl (by exact sideR) (g1 hg).1 (map_getD (f := eApiCodeEntry) (g1 hg).2 (g1 hg).1)) ?_
 refine wr 1 rfl (by exact sideR) ?_
 refine WR.gmake tbOk (x := .v (.sl 1 ([([99, 104, 97, 105, 114] : Str), ([111, 102, 102, 105, 99, 101] : Str)].map eStr))) rfl rfl rfl rfl rfl (fun _ => (by exact sideR)) ?_
 replace h := bnd h; obtain ⟨v3, hvv3, h⟩ := h
 refine WR.gcall0 fn34 rfl rfl rfl rfl rfl (fun _ => (by exact sideR)) rfl (fun hg => (nomScore_con hw (ite_t hg hvv3))) ?_
 refine wr 5 rfl (by exact sideR) ?_
 obtain ⟨g2, h⟩ := grd h
 refine WR.gq [] rfl rfl rfl rfl (fun hg => q_idx tbOk rfl (by exact sideR) (g2 hg).1 (map_getD (f := eApiCodeEntry) (g2 hg).2 (g2 hg).1)) ?_
 refine wr 1 rfl (by exact sideR) ?_
 refine WR.gmake tbOk (x := .v (.sl 1 ([([108, 97, 109, 112] : Str)].map eStr))) rfl rfl rfl rfl rfl (fun _ => (by exact sideR)) ?_
 replace h := bnd h; obtain ⟨v4, hvv4, h⟩ := h
 refine WR.gcall0 fn34 rfl rfl rfl rfl rfl (fun _ => (by exact sideR)) rfl (fun hg => (nomScore_con hw (ite_t hg hvv4))) ?_
 refine wr 4 rfl (by exact sideR) ?_
 refine WR.gmake tbOk (x := .v (.sl 1 ([([108, 97, 109, 112] : Str)].map eStr))) rfl rfl rfl rfl rfl (fun _ => (by exact sideR)) ?_
 replace h := bnd h; obtain ⟨v5, hvv5, h⟩ := h
 refine WR.gcall0 fn35 rfl rfl rfl rfl rfl (fun _ => (by exact sideR)) rfl (fun hg => (nomExcluded_con hw (ite_t hg hvv5))) ?_
 refine wr 2 rfl (by exact sideR) ?_
 replace h := bnd h; obtain ⟨v6, hvv6, h⟩ := h
 refine WR.gcall0 fn55 rfl rfl rfl rfl rfl (fun _ => (by exact sideR)) rfl (fun hg => (nomLevel_con hw (ite_t hg hvv6))) ?_
 refine wr 3 rfl (by exact sideR) ?_
 refine WR.nil (by kernel_rfl) (WQ.thenNormal (WC.ret ?_))
 cases h
 exact WQ.rets tbOk hR [] (.inl rfl) rfl rfl (Le.refl _) (by exact trivial) rfl rfl rfl rfl

end Go.Proofs.YtfkefolbabniaaaGreatDoor
