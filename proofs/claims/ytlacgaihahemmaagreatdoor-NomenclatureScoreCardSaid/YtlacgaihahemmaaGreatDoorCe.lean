/- Contracts: the program's functions compute the plain ones; by program (gen.py). -/
import Derived.Test.YtlacgaihahemmaaGreatDoorLib
import Derived.Test.YtlacgaihahemmaaGreatDoorPe
import Derived.Test.YtlacgaihahemmaaGreatDoorCa
import Derived.Test.YtlacgaihahemmaaGreatDoorCb
import Derived.Test.YtlacgaihahemmaaGreatDoorCc
import Derived.Test.YtlacgaihahemmaaGreatDoorCd
set_option linter.unusedVariables false
set_option linter.unusedSimpArgs false
namespace Go.Proofs.YtlacgaihahemmaaGreatDoor
open Go.V Go.C

theorem awake09_con {wg : World} (hw : WG wg)  {r : Bool} (h : awake09  = some r) : Con Tryz.prog wg gl 14 [] [] (.v (.bool r)) [] := by
  unfold awake09 at h
  refine con_of_WC (S := slotsOf 0 _) Tryz.func14 rfl Tryz.ntmps14 rfl (fun t x hx => (slotsOf_get hx).2) ?_
  intro F L w ρ0 R hR
  show WC _ _ _ ⟨[], []⟩ _ _
  refine WC.seq ?_
  refine WC.region ?_
  refine WL.run tbOk 1 (acc := []) rfl trivial ?_
  refine WL.nil ?_
  refine WQ.thenNormal ?_
  refine WC.seq ?_
  refine WC.region ?_
  obtain ⟨v, hvv, h⟩ := bnd h
  refine WL.call0 fn22 rfl rfl rfl rfl (by exact trivial) rfl (nomParse_con hw hvv) ?_
  refine WL.run tbOk 8 (acc := []) rfl trivial ?_
  refine WL.nil ?_
  refine WQ.thenNormal ?_
  refine WC.seq ?_
  refine WC.region ?_
  refine WL.run tbOk 1 (acc := []) rfl trivial ?_
  obtain ⟨v2, hvv2, h⟩ := bnd h
  refine WL.call0 fn39 rfl rfl rfl rfl (by exact trivial) rfl (nomBelow_con hw hvv2) ?_
  refine WL.run tbOk 1 (acc := []) rfl trivial ?_
  refine WL.nil ?_
  refine WQ.thenNormal ?_
  refine WC.seq ?_
  refine WC.order mixed ?_
  refine WR.run tbOk 8 (acc := []) rfl (by repeat' (first | exact trivial | assumption | intro _ | apply And.intro | (refine not_i ?_; assumption) | (refine and_l ?_; assumption) | (refine and_i ?_ ?_) | decide | omega | (simp [vcs]; done) | (simp only [List.length_map]; omega))) ?_
  refine WR.gq [] rfl rfl rfl rfl (fun hg => q_ev tbOk (.v (.int .i64 (v2.length : Int))) rfl (by repeat' (first | exact trivial | assumption | intro _ | apply And.intro | (refine not_i ?_; assumption) | (refine and_l ?_; assumption) | (refine and_i ?_ ?_) | decide | omega | (simp [vcs]; done) | (simp only [List.length_map]; omega))) (by first | (simp only [List.length_map]; done) | (simp only [List.length_map]; rfl) | rfl)) ?_
  refine WR.run tbOk 5 (acc := []) rfl (by repeat' (first | exact trivial | assumption | intro _ | apply And.intro | (refine not_i ?_; assumption) | (refine and_l ?_; assumption) | (refine and_i ?_ ?_) | decide | omega | (simp [vcs]; done) | (simp only [List.length_map]; omega))) ?_
  obtain ⟨g1, h⟩ := grd h
  refine WR.gq [] rfl rfl rfl rfl (fun hg => q_idx tbOk rfl (by repeat' (first | exact trivial | assumption | intro _ | apply And.intro | (refine not_i ?_; assumption) | (refine and_l ?_; assumption) | (refine and_i ?_ ?_) | decide | omega | (simp [vcs]; done) | (simp only [List.length_map]; omega))) (g1 hg).1 (map_getD (f := eApiCodeEntry) (g1 hg).2 (g1 hg).1)) ?_
  refine WR.run tbOk 1 (acc := []) rfl (by repeat' (first | exact trivial | assumption | intro _ | apply And.intro | (refine not_i ?_; assumption) | (refine and_l ?_; assumption) | (refine and_i ?_ ?_) | decide | omega | (simp [vcs]; done) | (simp only [List.length_map]; omega))) ?_
  refine WR.gmake tbOk (x := .v (.sl 1 ([([99, 104, 97, 105, 114] : Str), ([111, 102, 102, 105, 99, 101] : Str)].map eStr))) rfl rfl rfl rfl rfl (fun _ => (by repeat' (first | exact trivial | assumption | intro _ | apply And.intro | (refine not_i ?_; assumption) | (refine and_l ?_; assumption) | (refine and_i ?_ ?_) | decide | omega | (simp [vcs]; done) | (simp only [List.length_map]; omega)))) ?_
  obtain ⟨v3, hvv3, h⟩ := bnd h
  refine WR.gcall0 fn30 rfl rfl rfl rfl rfl (fun _ => (by repeat' (first | exact trivial | assumption | intro _ | apply And.intro | (refine not_i ?_; assumption) | (refine and_l ?_; assumption) | (refine and_i ?_ ?_) | decide | omega | (simp [vcs]; done) | (simp only [List.length_map]; omega)))) rfl (fun hg => (nomScore_con hw (ite_t hg hvv3))) ?_
  refine WR.run tbOk 5 (acc := []) rfl (by repeat' (first | exact trivial | assumption | intro _ | apply And.intro | (refine not_i ?_; assumption) | (refine and_l ?_; assumption) | (refine and_i ?_ ?_) | decide | omega | (simp [vcs]; done) | (simp only [List.length_map]; omega))) ?_
  obtain ⟨g2, h⟩ := grd h
  refine WR.gq [] rfl rfl rfl rfl (fun hg => q_idx tbOk rfl (by repeat' (first | exact trivial | assumption | intro _ | apply And.intro | (refine not_i ?_; assumption) | (refine and_l ?_; assumption) | (refine and_i ?_ ?_) | decide | omega | (simp [vcs]; done) | (simp only [List.length_map]; omega))) (g2 hg).1 (map_getD (f := eApiCodeEntry) (g2 hg).2 (g2 hg).1)) ?_
  refine WR.run tbOk 1 (acc := []) rfl (by repeat' (first | exact trivial | assumption | intro _ | apply And.intro | (refine not_i ?_; assumption) | (refine and_l ?_; assumption) | (refine and_i ?_ ?_) | decide | omega | (simp [vcs]; done) | (simp only [List.length_map]; omega))) ?_
  refine WR.gmake tbOk (x := .v (.sl 1 ([([108, 97, 109, 112] : Str)].map eStr))) rfl rfl rfl rfl rfl (fun _ => (by repeat' (first | exact trivial | assumption | intro _ | apply And.intro | (refine not_i ?_; assumption) | (refine and_l ?_; assumption) | (refine and_i ?_ ?_) | decide | omega | (simp [vcs]; done) | (simp only [List.length_map]; omega)))) ?_
  obtain ⟨v4, hvv4, h⟩ := bnd h
  refine WR.gcall0 fn30 rfl rfl rfl rfl rfl (fun _ => (by repeat' (first | exact trivial | assumption | intro _ | apply And.intro | (refine not_i ?_; assumption) | (refine and_l ?_; assumption) | (refine and_i ?_ ?_) | decide | omega | (simp [vcs]; done) | (simp only [List.length_map]; omega)))) rfl (fun hg => (nomScore_con hw (ite_t hg hvv4))) ?_
  refine WR.run tbOk 4 (acc := []) rfl (by repeat' (first | exact trivial | assumption | intro _ | apply And.intro | (refine not_i ?_; assumption) | (refine and_l ?_; assumption) | (refine and_i ?_ ?_) | decide | omega | (simp [vcs]; done) | (simp only [List.length_map]; omega))) ?_
  refine WR.gmake tbOk (x := .v (.sl 1 ([([108, 97, 109, 112] : Str)].map eStr))) rfl rfl rfl rfl rfl (fun _ => (by repeat' (first | exact trivial | assumption | intro _ | apply And.intro | (refine not_i ?_; assumption) | (refine and_l ?_; assumption) | (refine and_i ?_ ?_) | decide | omega | (simp [vcs]; done) | (simp only [List.length_map]; omega)))) ?_
  obtain ⟨v5, hvv5, h⟩ := bnd h
  refine WR.gcall0 fn28 rfl rfl rfl rfl rfl (fun _ => (by repeat' (first | exact trivial | assumption | intro _ | apply And.intro | (refine not_i ?_; assumption) | (refine and_l ?_; assumption) | (refine and_i ?_ ?_) | decide | omega | (simp [vcs]; done) | (simp only [List.length_map]; omega)))) rfl (fun hg => (nomExcluded_con hw (ite_t hg hvv5))) ?_
  refine WR.run tbOk 2 (acc := []) rfl (by repeat' (first | exact trivial | assumption | intro _ | apply And.intro | (refine not_i ?_; assumption) | (refine and_l ?_; assumption) | (refine and_i ?_ ?_) | decide | omega | (simp [vcs]; done) | (simp only [List.length_map]; omega))) ?_
  obtain ⟨v6, hvv6, h⟩ := bnd h
  refine WR.gcall0 fn12 rfl rfl rfl rfl rfl (fun _ => (by repeat' (first | exact trivial | assumption | intro _ | apply And.intro | (refine not_i ?_; assumption) | (refine and_l ?_; assumption) | (refine and_i ?_ ?_) | decide | omega | (simp [vcs]; done) | (simp only [List.length_map]; omega)))) rfl (fun hg => (nomLevel_con hw (ite_t hg hvv6))) ?_
  refine WR.run tbOk 3 (acc := []) rfl (by repeat' (first | exact trivial | assumption | intro _ | apply And.intro | (refine not_i ?_; assumption) | (refine and_l ?_; assumption) | (refine and_i ?_ ?_) | decide | omega | (simp [vcs]; done) | (simp only [List.length_map]; omega))) ?_
  refine WR.nil (by kernel_rfl) ?_
  refine WQ.thenNormal ?_
  refine WC.ret ?_
  cases h
  exact WQ.rets tbOk hR [] (.inl rfl) rfl rfl (Le.refl _) (by exact trivial) rfl rfl rfl rfl

end Go.Proofs.YtlacgaihahemmaaGreatDoor
