/- Contracts: the program's functions compute the plain ones; by program (gen.py). -/
import Derived.Test.YtmjhpemmhnpilaaGreatDoorLib
import Derived.Test.YtmjhpemmhnpilaaGreatDoorPe
import Derived.Test.YtmjhpemmhnpilaaGreatDoorCa
import Derived.Test.YtmjhpemmhnpilaaGreatDoorCb
import Derived.Test.YtmjhpemmhnpilaaGreatDoorCc
import Derived.Test.YtmjhpemmhnpilaaGreatDoorCd
set_option linter.unusedVariables false
set_option linter.unusedSimpArgs false
namespace Go.Proofs.YtmjhpemmhnpilaaGreatDoor
open Go.V Go.C

theorem awake08_con {wg : World} (hw : WG wg)  {r : Bool} (h : awake08  = some r) : Con Tryz.prog wg gl 12 [] [] (.v (.bool r)) [] := by
  unfold awake08 at h
  refine con_of_WC (S := slotsOf 0 _) Tryz.func12 rfl Tryz.ntmps12 rfl (fun t x hx => (slotsOf_get hx).2) ?_
  intro F L w ρ0 R hR
  show WC _ _ _ ⟨[], []⟩ _ _
  refine WC.seq ?_
  refine WC.region ?_
  refine WL.run tbOk 1 (acc := []) rfl (by repeat' (first | exact trivial | assumption | intro _ | apply And.intro | (refine not_i ?_; assumption) | (refine and_l ?_; assumption) | (refine and_i ?_ ?_) | decide | omega | (simp [vcs]; done) | (simp only [List.length_map]; omega))) ?_
  refine WL.nil ?_
  refine WQ.thenNormal ?_
  refine WC.seq ?_
  refine WC.region ?_
  obtain ⟨v, hvv, h⟩ := bnd h
  refine WL.call0 fn10 rfl rfl rfl rfl (by repeat' (first | exact trivial | assumption | intro _ | apply And.intro | (refine not_i ?_; assumption) | (refine and_l ?_; assumption) | (refine and_i ?_ ?_) | decide | omega | (simp [vcs]; done) | (simp only [List.length_map]; omega))) rfl (goodsParse_con hw hvv) ?_
  refine WL.run tbOk 6 (acc := []) rfl (by repeat' (first | exact trivial | assumption | intro _ | apply And.intro | (refine not_i ?_; assumption) | (refine and_l ?_; assumption) | (refine and_i ?_ ?_) | decide | omega | (simp [vcs]; done) | (simp only [List.length_map]; omega))) ?_
  refine WL.nil ?_
  refine WQ.thenNormal ?_
  refine WC.seq ?_
  refine WC.region ?_
  refine WL.run tbOk 1 (acc := []) rfl (by repeat' (first | exact trivial | assumption | intro _ | apply And.intro | (refine not_i ?_; assumption) | (refine and_l ?_; assumption) | (refine and_i ?_ ?_) | decide | omega | (simp [vcs]; done) | (simp only [List.length_map]; omega))) ?_
  obtain ⟨v2, hvv2, h⟩ := bnd h
  refine WL.call0 fn39 rfl rfl rfl rfl (by repeat' (first | exact trivial | assumption | intro _ | apply And.intro | (refine not_i ?_; assumption) | (refine and_l ?_; assumption) | (refine and_i ?_ ?_) | decide | omega | (simp [vcs]; done) | (simp only [List.length_map]; omega))) rfl (goodsCharacters_con hw hvv2) ?_
  refine WL.run tbOk 1 (acc := []) rfl (by repeat' (first | exact trivial | assumption | intro _ | apply And.intro | (refine not_i ?_; assumption) | (refine and_l ?_; assumption) | (refine and_i ?_ ?_) | decide | omega | (simp [vcs]; done) | (simp only [List.length_map]; omega))) ?_
  refine WL.nil ?_
  refine WQ.thenNormal ?_
  refine WC.seq ?_
  refine WC.region ?_
  refine WL.run tbOk 4 (acc := []) rfl (by repeat' (first | exact trivial | assumption | intro _ | apply And.intro | (refine not_i ?_; assumption) | (refine and_l ?_; assumption) | (refine and_i ?_ ?_) | decide | omega | (simp [vcs]; done) | (simp only [List.length_map]; omega))) ?_
  refine WL.gq [] rfl rfl rfl rfl (fun hg => q_ev tbOk (.v (.int .i64 (v2.length : Int))) rfl (by repeat' (first | exact trivial | assumption | intro _ | apply And.intro | (refine not_i ?_; assumption) | (refine and_l ?_; assumption) | (refine and_i ?_ ?_) | decide | omega | (simp [vcs]; done) | (simp only [List.length_map]; omega))) (by first | (simp only [List.length_map]; done) | (simp only [List.length_map]; rfl) | rfl)) ?_
  refine WL.run tbOk 4 (acc := []) rfl (by repeat' (first | exact trivial | assumption | intro _ | apply And.intro | (refine not_i ?_; assumption) | (refine and_l ?_; assumption) | (refine and_i ?_ ?_) | decide | omega | (simp [vcs]; done) | (simp only [List.length_map]; omega))) ?_
  obtain ⟨g1, h⟩ := grd h
  refine WL.gq [] rfl rfl rfl rfl (fun hg => q_idx tbOk rfl (by repeat' (first | exact trivial | assumption | intro _ | apply And.intro | (refine not_i ?_; assumption) | (refine and_l ?_; assumption) | (refine and_i ?_ ?_) | decide | omega | (simp [vcs]; done) | (simp only [List.length_map]; omega))) (g1 hg).1 (map_getD (f := eApiComponent) (g1 hg).2 (g1 hg).1)) ?_
  refine WL.run tbOk 2 (acc := []) rfl (by repeat' (first | exact trivial | assumption | intro _ | apply And.intro | (refine not_i ?_; assumption) | (refine and_l ?_; assumption) | (refine and_i ?_ ?_) | decide | omega | (simp [vcs]; done) | (simp only [List.length_map]; omega))) ?_
  refine WL.gq [] rfl rfl rfl rfl (fun hg => q_ev tbOk (.v (.int .i64 (((v2.getD 0 default).Words).length : Int))) rfl (by repeat' (first | exact trivial | assumption | intro _ | apply And.intro | (refine not_i ?_; assumption) | (refine and_l ?_; assumption) | (refine and_i ?_ ?_) | decide | omega | (simp [vcs]; done) | (simp only [List.length_map]; omega))) (by first | (simp only [List.length_map]; done) | (simp only [List.length_map]; rfl) | rfl)) ?_
  refine WL.run tbOk 4 (acc := []) rfl (by repeat' (first | exact trivial | assumption | intro _ | apply And.intro | (refine not_i ?_; assumption) | (refine and_l ?_; assumption) | (refine and_i ?_ ?_) | decide | omega | (simp [vcs]; done) | (simp only [List.length_map]; omega))) ?_
  obtain ⟨g2, h⟩ := grd h
  refine WL.gq [] rfl rfl rfl rfl (fun hg => q_idx tbOk rfl (by repeat' (first | exact trivial | assumption | intro _ | apply And.intro | (refine not_i ?_; assumption) | (refine and_l ?_; assumption) | (refine and_i ?_ ?_) | decide | omega | (simp [vcs]; done) | (simp only [List.length_map]; omega))) (g2 hg).1 (map_getD (f := eApiComponent) (g2 hg).2 (g2 hg).1)) ?_
  refine WL.run tbOk 2 (acc := []) rfl (by repeat' (first | exact trivial | assumption | intro _ | apply And.intro | (refine not_i ?_; assumption) | (refine and_l ?_; assumption) | (refine and_i ?_ ?_) | decide | omega | (simp [vcs]; done) | (simp only [List.length_map]; omega))) ?_
  obtain ⟨g3, h⟩ := grd h
  refine WL.gq [] rfl rfl rfl rfl (fun hg => q_idx tbOk rfl (by repeat' (first | exact trivial | assumption | intro _ | apply And.intro | (refine not_i ?_; assumption) | (refine and_l ?_; assumption) | (refine and_i ?_ ?_) | decide | omega | (simp [vcs]; done) | (simp only [List.length_map]; omega))) (g3 hg).1 (map_getD (f := eStr) (g3 hg).2 (g3 hg).1)) ?_
  refine WL.run tbOk 5 (acc := []) rfl (by repeat' (first | exact trivial | assumption | intro _ | apply And.intro | (refine not_i ?_; assumption) | (refine and_l ?_; assumption) | (refine and_i ?_ ?_) | decide | omega | (simp [vcs]; done) | (simp only [List.length_map]; omega))) ?_
  obtain ⟨v3, hvv3, h⟩ := bnd h
  refine WL.gcall0 fn29 rfl rfl rfl rfl rfl (fun _ => (by repeat' (first | exact trivial | assumption | intro _ | apply And.intro | (refine not_i ?_; assumption) | (refine and_l ?_; assumption) | (refine and_i ?_ ?_) | decide | omega | (simp [vcs]; done) | (simp only [List.length_map]; omega)))) rfl (fun hg => (goodsValidate_con hw (ite_t hg hvv3))) ?_
  refine WL.run tbOk 4 (acc := []) rfl (by repeat' (first | exact trivial | assumption | intro _ | apply And.intro | (refine not_i ?_; assumption) | (refine and_l ?_; assumption) | (refine and_i ?_ ?_) | decide | omega | (simp [vcs]; done) | (simp only [List.length_map]; omega))) ?_
  obtain ⟨v4, hvv4, h⟩ := bnd h
  refine WL.gcall0 fn7 rfl rfl rfl rfl rfl (fun _ => (by repeat' (first | exact trivial | assumption | intro _ | apply And.intro | (refine not_i ?_; assumption) | (refine and_l ?_; assumption) | (refine and_i ?_ ?_) | decide | omega | (simp [vcs]; done) | (simp only [List.length_map]; omega)))) rfl (fun hg => (goodsFormat_con hw (ite_t hg hvv4))) ?_
  refine WL.run tbOk 3 (acc := []) rfl (by repeat' (first | exact trivial | assumption | intro _ | apply And.intro | (refine not_i ?_; assumption) | (refine and_l ?_; assumption) | (refine and_i ?_ ?_) | decide | omega | (simp [vcs]; done) | (simp only [List.length_map]; omega))) ?_
  refine WL.nil ?_
  refine WQ.thenNormal ?_
  refine WC.ret ?_
  cases h
  exact WQ.rets tbOk hR [] (.inl rfl) rfl rfl (Le.refl _) (by repeat' (first | exact trivial | refine ⟨rfl, ?_⟩)) rfl rfl rfl rfl

end Go.Proofs.YtmjhpemmhnpilaaGreatDoor
