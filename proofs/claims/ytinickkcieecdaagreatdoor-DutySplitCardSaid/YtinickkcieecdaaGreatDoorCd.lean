/- Contracts: the program's functions compute the plain ones; by program (gen.py). -/
import Derived.Test.YtinickkcieecdaaGreatDoorLib
import Derived.Test.YtinickkcieecdaaGreatDoorPd
import Derived.Test.YtinickkcieecdaaGreatDoorCa
import Derived.Test.YtinickkcieecdaaGreatDoorCb
import Derived.Test.YtinickkcieecdaaGreatDoorCc
set_option linter.unusedVariables false
set_option linter.unusedSimpArgs false
namespace Go.Proofs.YtinickkcieecdaaGreatDoor
open Go.V Go.C

theorem dutyPercentage_con {wg : World} (hw : WG wg) {rate : Int} {r : Str} (h : dutyPercentage rate = some r) : Con Tryz.prog wg gl 25 [.v (.int .i64 rate)] [] (.v (.str r)) [] := by
  unfold dutyPercentage at h
  refine con_of_WC (S := slotsOf 0 _) Tryz.func25 rfl Tryz.ntmps25 rfl (fun t x hx => (slotsOf_get hx).2) ?_
  intro F L w ρ0 R hR
  show WC _ _ _ ⟨[(0, .v (.int .i64 rate))], []⟩ _ _
  refine WC.seq ?_
  refine WC.region ?_
  refine WL.run tbOk 1 (acc := []) rfl (by repeat' (first | exact trivial | assumption | intro _ | apply And.intro | (refine not_i ?_; assumption) | (refine and_l ?_; assumption) | (refine and_i ?_ ?_) | decide | omega | (simp [vcs]; done) | (simp only [List.length_map]; omega))) ?_
  refine WL.nil ?_
  refine WQ.thenNormal ?_
  refine WC.seq ?_
  refine WC.region ?_
  refine WL.run tbOk 2 (acc := []) rfl (by repeat' (first | exact trivial | assumption | intro _ | apply And.intro | (refine not_i ?_; assumption) | (refine and_l ?_; assumption) | (refine and_i ?_ ?_) | decide | omega | (simp [vcs]; done) | (simp only [List.length_map]; omega))) ?_
  obtain ⟨v, hvv, h⟩ := bnd h
  refine WL.call0 fn27 rfl rfl rfl rfl (by repeat' (first | exact trivial | assumption | intro _ | apply And.intro | (refine not_i ?_; assumption) | (refine and_l ?_; assumption) | (refine and_i ?_ ?_) | decide | omega | (simp [vcs]; done) | (simp only [List.length_map]; omega))) rfl (itoa_con hw hvv) ?_
  refine WL.run tbOk 1 (acc := []) rfl (by repeat' (first | exact trivial | assumption | intro _ | apply And.intro | (refine not_i ?_; assumption) | (refine and_l ?_; assumption) | (refine and_i ?_ ?_) | decide | omega | (simp [vcs]; done) | (simp only [List.length_map]; omega))) ?_
  refine WL.nil ?_
  refine WQ.thenNormal ?_
  refine WC.seq ?_
  refine WC.seq ?_
  refine WC.region ?_
  refine WL.run tbOk 3 (acc := []) rfl (by repeat' (first | exact trivial | assumption | intro _ | apply And.intro | (refine not_i ?_; assumption) | (refine and_l ?_; assumption) | (refine and_i ?_ ?_) | decide | omega | (simp [vcs]; done) | (simp only [List.length_map]; omega))) ?_
  refine WL.nil ?_
  refine WQ.thenNormal ?_
  refine WC.seq ?_
  refine WC.region ?_
  refine WL.run tbOk 2 (acc := []) rfl (by repeat' (first | exact trivial | assumption | intro _ | apply And.intro | (refine not_i ?_; assumption) | (refine and_l ?_; assumption) | (refine and_i ?_ ?_) | decide | omega | (simp [vcs]; done) | (simp only [List.length_map]; omega))) ?_
  refine WL.nil ?_
  refine WQ.thenNormal ?_
  refine WC.cond rfl (fun hc1 => ?_) (fun hc1 => ?_)
  · replace h := ite_t hc1 h
    refine WC.seq ?_
    refine WC.region ?_
    refine WL.run tbOk 2 (acc := []) rfl (by repeat' (first | exact trivial | assumption | intro _ | apply And.intro | (refine not_i ?_; assumption) | (refine and_l ?_; assumption) | (refine and_i ?_ ?_) | decide | omega | (simp [vcs]; done) | (simp only [List.length_map]; omega))) ?_
    obtain ⟨v2, hvv2, h⟩ := bnd h
    refine WL.call0 fn27 rfl rfl rfl rfl (by repeat' (first | exact trivial | assumption | intro _ | apply And.intro | (refine not_i ?_; assumption) | (refine and_l ?_; assumption) | (refine and_i ?_ ?_) | decide | omega | (simp [vcs]; done) | (simp only [List.length_map]; omega))) rfl (itoa_con hw hvv2) ?_
    obtain ⟨g1, h⟩ := grd h
    refine WL.run tbOk 2 (acc := []) rfl (by repeat' (first | exact trivial | assumption | intro _ | exact g1 (by assumption) | apply And.intro | (refine not_i ?_; assumption) | (refine and_l ?_; assumption) | (refine and_i ?_ ?_) | decide | omega | (simp [vcs]; done) | (simp only [List.length_map]; omega))) ?_
    refine WL.nil ?_
    refine WQ.thenNormal ?_
    refine WC.region ?_
    refine WL.run tbOk 2 (acc := []) rfl (by repeat' (first | exact trivial | assumption | intro _ | apply And.intro | (refine not_i ?_; assumption) | (refine and_l ?_; assumption) | (refine and_i ?_ ?_) | decide | omega | (simp [vcs]; done) | (simp only [List.length_map]; omega))) ?_
    obtain ⟨v3, hvv3, h⟩ := bnd h
    refine WL.call0 fn50 rfl rfl rfl rfl (by repeat' (first | exact trivial | assumption | intro _ | apply And.intro | (refine not_i ?_; assumption) | (refine and_l ?_; assumption) | (refine and_i ?_ ?_) | decide | omega | (simp [vcs]; done) | (simp only [List.length_map]; omega))) rfl (trimRightS_con hw hvv3) ?_
    obtain ⟨g2, h⟩ := grd h
    obtain ⟨g3, h⟩ := grd h
    refine WL.run tbOk 3 (acc := []) rfl (by repeat' (first | exact trivial | assumption | intro _ | exact g2 (by assumption) | exact g3 (by assumption) | apply And.intro | (refine not_i ?_; assumption) | (refine and_l ?_; assumption) | (refine and_i ?_ ?_) | decide | omega | (simp [vcs]; done) | (simp only [List.length_map]; omega))) ?_
    refine WL.nil ?_
    refine WQ.thenNormal ?_
    refine WC.seq ?_
    refine WC.region ?_
    obtain ⟨g4, h⟩ := grd h
    refine WL.run tbOk 3 (acc := []) rfl (by repeat' (first | exact trivial | assumption | intro _ | exact g4 (by assumption) | apply And.intro | (refine not_i ?_; assumption) | (refine and_l ?_; assumption) | (refine and_i ?_ ?_) | decide | omega | (simp [vcs]; done) | (simp only [List.length_map]; omega))) ?_
    refine WL.nil ?_
    refine WQ.thenNormal ?_
    refine WC.ret ?_
    cases h
    exact WQ.rets tbOk hR [] (.inl rfl) rfl rfl (Le.refl _) (by repeat' (first | exact trivial | refine ⟨rfl, ?_⟩)) rfl rfl rfl rfl
  · replace h := ite_f hc1 h
    refine WC.skip ?_
    refine WQ.thenNormal ?_
    refine WC.seq ?_
    refine WC.region ?_
    obtain ⟨g5, h⟩ := grd h
    refine WL.run tbOk 3 (acc := []) rfl (by repeat' (first | exact trivial | assumption | intro _ | exact g5 (by assumption) | apply And.intro | (refine not_i ?_; assumption) | (refine and_l ?_; assumption) | (refine and_i ?_ ?_) | decide | omega | (simp [vcs]; done) | (simp only [List.length_map]; omega))) ?_
    refine WL.nil ?_
    refine WQ.thenNormal ?_
    refine WC.ret ?_
    cases h
    exact WQ.rets tbOk hR [] (.inl rfl) rfl rfl (Le.refl _) (by repeat' (first | exact trivial | refine ⟨rfl, ?_⟩)) rfl rfl rfl rfl

theorem dutyParsePercentage_con {wg : World} (hw : WG wg) {s : Str} {r : Int × Bool} (h : dutyParsePercentage s = some r) : Con Tryz.prog wg gl 73 [.v (.str s)] [] (.tup [.v (.int .i64 r.1), .v (.bool r.2)]) [] := by
  unfold dutyParsePercentage at h
  refine con_of_WC (S := slotsOf 0 _) Tryz.func73 rfl Tryz.ntmps73 rfl (fun t x hx => (slotsOf_get hx).2) ?_
  intro F L w ρ0 R hR
  show WC _ _ _ ⟨[(0, .v (.str s))], []⟩ _ _
  refine WC.seq ?_
  refine WC.region ?_
  refine WL.run tbOk 2 (acc := []) rfl (by repeat' (first | exact trivial | assumption | intro _ | apply And.intro | (refine not_i ?_; assumption) | (refine and_l ?_; assumption) | (refine and_i ?_ ?_) | decide | omega | (simp [vcs]; done) | (simp only [List.length_map]; omega))) ?_
  refine WL.nil ?_
  refine WQ.thenNormal ?_
  refine WC.seq ?_
  refine WC.region ?_
  refine WL.run tbOk 1 (acc := []) rfl (by repeat' (first | exact trivial | assumption | intro _ | apply And.intro | (refine not_i ?_; assumption) | (refine and_l ?_; assumption) | (refine and_i ?_ ?_) | decide | omega | (simp [vcs]; done) | (simp only [List.length_map]; omega))) ?_
  obtain ⟨v, hvv, h⟩ := bnd h
  refine WL.call0 fn90 rfl rfl rfl rfl (by repeat' (first | exact trivial | assumption | intro _ | apply And.intro | (refine not_i ?_; assumption) | (refine and_l ?_; assumption) | (refine and_i ?_ ?_) | decide | omega | (simp [vcs]; done) | (simp only [List.length_map]; omega))) rfl (cutSuffixS_con hw hvv) ?_
  refine WL.run tbOk 5 (acc := []) rfl (by repeat' (first | exact trivial | assumption | intro _ | apply And.intro | (refine not_i ?_; assumption) | (refine and_l ?_; assumption) | (refine and_i ?_ ?_) | decide | omega | (simp [vcs]; done) | (simp only [List.length_map]; omega))) ?_
  refine WL.nil ?_
  refine WQ.thenNormal ?_
  refine WC.seq ?_
  refine WC.region ?_
  refine WL.run tbOk 1 (acc := []) rfl (by repeat' (first | exact trivial | assumption | intro _ | apply And.intro | (refine not_i ?_; assumption) | (refine and_l ?_; assumption) | (refine and_i ?_ ?_) | decide | omega | (simp [vcs]; done) | (simp only [List.length_map]; omega))) ?_
  obtain ⟨v2, hvv2, h⟩ := bnd h
  refine WL.call0 fn74 rfl rfl rfl rfl (by repeat' (first | exact trivial | assumption | intro _ | apply And.intro | (refine not_i ?_; assumption) | (refine and_l ?_; assumption) | (refine and_i ?_ ?_) | decide | omega | (simp [vcs]; done) | (simp only [List.length_map]; omega))) rfl (cutS_con hw hvv2) ?_
  refine WL.run tbOk 7 (acc := []) rfl (by repeat' (first | exact trivial | assumption | intro _ | apply And.intro | (refine not_i ?_; assumption) | (refine and_l ?_; assumption) | (refine and_i ?_ ?_) | decide | omega | (simp [vcs]; done) | (simp only [List.length_map]; omega))) ?_
  refine WL.nil ?_
  refine WQ.thenNormal ?_
  refine WC.seq ?_
  refine WC.seq ?_
  refine WC.region ?_
  refine WL.run tbOk 12 (acc := []) rfl (by repeat' (first | exact trivial | assumption | intro _ | apply And.intro | (refine not_i ?_; assumption) | (refine and_l ?_; assumption) | (refine and_i ?_ ?_) | decide | omega | (simp [vcs]; done) | (simp only [List.length_map]; omega))) ?_
  refine WL.nil ?_
  refine WQ.thenNormal ?_
  refine WC.cond rfl (fun hc1 => ?_) (fun hc1 => ?_)
  · replace h := ite_t hc1 h
    refine WC.seq ?_
    refine WC.region ?_
    refine WL.run tbOk 2 (acc := []) rfl (by repeat' (first | exact trivial | assumption | intro _ | apply And.intro | (refine not_i ?_; assumption) | (refine and_l ?_; assumption) | (refine and_i ?_ ?_) | decide | omega | (simp [vcs]; done) | (simp only [List.length_map]; omega))) ?_
    refine WL.nil ?_
    refine WQ.thenNormal ?_
    refine WC.ret ?_
    refine WQ.thenRet ?_
    cases h
    exact WQ.rets tbOk (r := .tup [.v (.int .i64 (0 : Int)), .v (.bool false)]) hR [] (.inl rfl) rfl rfl (Le.tup (.cons (Le.refl _) (.cons (Le.refl _) .nil))) (by repeat' (first | exact trivial | refine ⟨rfl, ?_⟩)) rfl rfl rfl rfl
  · replace h := ite_f hc1 h
    refine WC.skip ?_
    refine WQ.thenNormal ?_
    refine WC.seq ?_
    refine WC.region ?_
    obtain ⟨g1, h⟩ := grd h
    obtain ⟨g2, h⟩ := grd h
    obtain ⟨g3, h⟩ := grd h
    refine WL.run tbOk 7 (acc := []) rfl (by repeat' (first | exact trivial | assumption | intro _ | exact g1 (by assumption) | exact g2 (by assumption) | exact g3 (by assumption) | apply And.intro | (refine not_i ?_; assumption) | (refine and_l ?_; assumption) | (refine and_i ?_ ?_) | decide | omega | (simp [vcs]; done) | (simp only [List.length_map]; omega))) ?_
    obtain ⟨v3, hvv3, h⟩ := bnd h
    refine WL.call0 fn76 rfl rfl rfl rfl (by repeat' (first | exact trivial | assumption | intro _ | apply And.intro | (refine not_i ?_; assumption) | (refine and_l ?_; assumption) | (refine and_i ?_ ?_) | decide | omega | (simp [vcs]; done) | (simp only [List.length_map]; omega))) rfl (atoiS_con hw hvv3) ?_
    refine WL.run tbOk 5 (acc := []) rfl (by repeat' (first | exact trivial | assumption | intro _ | apply And.intro | (refine not_i ?_; assumption) | (refine and_l ?_; assumption) | (refine and_i ?_ ?_) | decide | omega | (simp [vcs]; done) | (simp only [List.length_map]; omega))) ?_
    refine WL.nil ?_
    refine WQ.thenNormal ?_
    refine WC.seq ?_
    refine WC.order mixed ?_
    refine WR.run tbOk 5 (acc := []) rfl (by repeat' (first | exact trivial | assumption | intro _ | apply And.intro | (refine not_i ?_; assumption) | (refine and_l ?_; assumption) | (refine and_i ?_ ?_) | decide | omega | (simp [vcs]; done) | (simp only [List.length_map]; omega))) ?_
    refine WR.nil (by kernel_rfl) ?_
    refine WQ.thenNormal ?_
    refine WC.ret ?_
    cases h
    exact WQ.rets tbOk (r := .tup [.v (.int .i64 v3.1), .v (.bool v3.2)]) hR [] (.inl rfl) rfl rfl (Le.tup (.cons (Le.refl _) (.cons (Le.refl _) .nil))) (by repeat' (first | exact trivial | refine ⟨rfl, ?_⟩)) rfl rfl rfl rfl

theorem dutyFormat_con {wg : World} (hw : WG wg) {d : ApiDuty} {r : Str} (h : dutyFormat d = some r) : Con Tryz.prog wg gl 15 [.v (.agg [.int .i64 d.Rate, .int .i64 d.Amount, .int .i64 d.Per, .bool d.HasMost, .int .i64 d.Most, .bool d.HasLeast, .int .i64 d.Least])] [] (.v (.str r)) [] := by
  unfold dutyFormat at h
  refine con_of_WC (S := slotsOf 0 _) Tryz.func15 rfl Tryz.ntmps15 rfl (fun t x hx => (slotsOf_get hx).2) ?_
  intro F L w ρ0 R hR
  show WC _ _ _ ⟨[(0, .v (.agg [.int .i64 d.Rate, .int .i64 d.Amount, .int .i64 d.Per, .bool d.HasMost, .int .i64 d.Most, .bool d.HasLeast, .int .i64 d.Least]))], []⟩ _ _
  refine WC.seq ?_
  refine WC.region ?_
  refine WL.run tbOk 2 (acc := []) rfl (by repeat' (first | exact trivial | assumption | intro _ | apply And.intro | (refine not_i ?_; assumption) | (refine and_l ?_; assumption) | (refine and_i ?_ ?_) | decide | omega | (simp [vcs]; done) | (simp only [List.length_map]; omega))) ?_
  refine WL.nil ?_
  refine WQ.thenNormal ?_
  refine WC.seq ?_
  refine WC.seq ?_
  refine WC.region ?_
  refine WL.run tbOk 1 (acc := []) rfl (by repeat' (first | exact trivial | assumption | intro _ | apply And.intro | (refine not_i ?_; assumption) | (refine and_l ?_; assumption) | (refine and_i ?_ ?_) | decide | omega | (simp [vcs]; done) | (simp only [List.length_map]; omega))) ?_
  obtain ⟨v, hvv, h⟩ := bnd h
  refine WL.call0 fn11 rfl rfl rfl rfl (by repeat' (first | exact trivial | assumption | intro _ | apply And.intro | (refine not_i ?_; assumption) | (refine and_l ?_; assumption) | (refine and_i ?_ ?_) | decide | omega | (simp [vcs]; done) | (simp only [List.length_map]; omega))) rfl (dutyValidate_con hw hvv) ?_
  refine WL.run tbOk 1 (acc := []) rfl (by repeat' (first | exact trivial | assumption | intro _ | apply And.intro | (refine not_i ?_; assumption) | (refine and_l ?_; assumption) | (refine and_i ?_ ?_) | decide | omega | (simp [vcs]; done) | (simp only [List.length_map]; omega))) ?_
  refine WL.nil ?_
  refine WQ.thenNormal ?_
  refine WC.cond rfl (fun hc1 => ?_) (fun hc1 => ?_)
  · replace h := ite_t hc1 h
    refine WC.seq ?_
    refine WC.region ?_
    refine WL.run tbOk 1 (acc := []) rfl (by repeat' (first | exact trivial | assumption | intro _ | apply And.intro | (refine not_i ?_; assumption) | (refine and_l ?_; assumption) | (refine and_i ?_ ?_) | decide | omega | (simp [vcs]; done) | (simp only [List.length_map]; omega))) ?_
    refine WL.nil ?_
    refine WQ.thenNormal ?_
    refine WC.ret ?_
    refine WQ.thenRet ?_
    cases h
    exact WQ.rets tbOk hR [] (.inl rfl) rfl rfl (Le.refl _) (by repeat' (first | exact trivial | refine ⟨rfl, ?_⟩)) rfl rfl rfl rfl
  · replace h := ite_f hc1 h
    refine WC.skip ?_
    refine WQ.thenNormal ?_
    refine WC.seq ?_
    refine WC.region ?_
    refine WL.run tbOk 1 (acc := []) rfl (by repeat' (first | exact trivial | assumption | intro _ | apply And.intro | (refine not_i ?_; assumption) | (refine and_l ?_; assumption) | (refine and_i ?_ ?_) | decide | omega | (simp [vcs]; done) | (simp only [List.length_map]; omega))) ?_
    refine WL.nil ?_
    refine WQ.thenNormal ?_
    refine WC.seq ?_
    refine WC.seq ?_
    refine WC.region ?_
    refine WL.run tbOk 8 (acc := []) rfl (by repeat' (first | exact trivial | assumption | intro _ | apply And.intro | (refine not_i ?_; assumption) | (refine and_l ?_; assumption) | (refine and_i ?_ ?_) | decide | omega | (simp [vcs]; done) | (simp only [List.length_map]; omega))) ?_
    refine WL.nil ?_
    refine WQ.thenNormal ?_
    refine WC.cond rfl (fun hc2 => ?_) (fun hc2 => ?_)
    · replace h := ite_t hc2 h
      refine WC.region ?_
      refine WL.run tbOk 3 (acc := []) rfl (by repeat' (first | exact trivial | assumption | intro _ | apply And.intro | (refine not_i ?_; assumption) | (refine and_l ?_; assumption) | (refine and_i ?_ ?_) | decide | omega | (simp [vcs]; done) | (simp only [List.length_map]; omega))) ?_
      obtain ⟨v2, hvv2, h⟩ := bnd h
      refine WL.call0 fn25 rfl rfl rfl rfl (by repeat' (first | exact trivial | assumption | intro _ | apply And.intro | (refine not_i ?_; assumption) | (refine and_l ?_; assumption) | (refine and_i ?_ ?_) | decide | omega | (simp [vcs]; done) | (simp only [List.length_map]; omega))) rfl (dutyPercentage_con hw hvv2) ?_
      refine WL.run tbOk 1 (acc := []) rfl (by repeat' (first | exact trivial | assumption | intro _ | apply And.intro | (refine not_i ?_; assumption) | (refine and_l ?_; assumption) | (refine and_i ?_ ?_) | decide | omega | (simp [vcs]; done) | (simp only [List.length_map]; omega))) ?_
      obtain ⟨g1, h⟩ := grd h
      refine WL.append tbOk ([v2].map eStr) [21] ap37 rfl rfl rfl rfl (fun _ e => by cases e) (by repeat' (first | exact trivial | assumption | intro _ | apply And.intro | (refine not_i ?_; assumption) | (refine and_l ?_; assumption) | (refine and_i ?_ ?_) | decide | omega | (simp [vcs]; done) | (simp only [List.length_map]; omega))) (map_cells (f := eStr) (xs := [v2]) fun _ => rfl) (by have := g1; simp only [List.length_map, List.length_nil, List.length_cons] at this ⊢; omega) rfl rfl rfl rfl ?_
      refine WL.run tbOk 1 (acc := []) rfl (by repeat' (first | exact trivial | assumption | intro _ | apply And.intro | (refine not_i ?_; assumption) | (refine and_l ?_; assumption) | (refine and_i ?_ ?_) | decide | omega | (simp [vcs]; done) | (simp only [List.length_map]; omega))) ?_
      refine WL.nil ?_
      refine WQ.thenNormal ?_
      refine WC.seq ?_
      refine WC.seq ?_
      refine WC.region ?_
      refine WL.run tbOk 3 (acc := []) rfl (by repeat' (first | exact trivial | assumption | intro _ | apply And.intro | (refine not_i ?_; assumption) | (refine and_l ?_; assumption) | (refine and_i ?_ ?_) | decide | omega | (simp [vcs]; done) | (simp only [List.length_map]; omega))) ?_
      refine WL.nil ?_
      refine WQ.thenNormal ?_
      refine WC.cond rfl (fun hc3 => ?_) (fun hc3 => ?_)
      · replace h := ite_t hc3 h
        refine WC.order mixed ?_
        refine WR.run tbOk 3 (acc := []) rfl (by repeat' (first | exact trivial | assumption | intro _ | apply And.intro | (refine not_i ?_; assumption) | (refine and_l ?_; assumption) | (refine and_i ?_ ?_) | decide | omega | (simp [vcs]; done) | (simp only [List.length_map]; omega))) ?_
        obtain ⟨v3, hvv3, h⟩ := bnd h
        refine WR.call0 fn26 rfl rfl rfl rfl (by repeat' (first | exact trivial | assumption | intro _ | apply And.intro | (refine not_i ?_; assumption) | (refine and_l ?_; assumption) | (refine and_i ?_ ?_) | decide | omega | (simp [vcs]; done) | (simp only [List.length_map]; omega))) rfl (moneyFormat_con hw hvv3) ?_
        obtain ⟨g2, h⟩ := grd h
        refine WR.run tbOk 3 (acc := []) rfl (by repeat' (first | exact trivial | assumption | intro _ | exact g2 (by assumption) | apply And.intro | (refine not_i ?_; assumption) | (refine and_l ?_; assumption) | (refine and_i ?_ ?_) | decide | omega | (simp [vcs]; done) | (simp only [List.length_map]; omega))) ?_
        obtain ⟨v4, hvv4, h⟩ := bnd h
        refine WR.call0 fn27 rfl rfl rfl rfl (by repeat' (first | exact trivial | assumption | intro _ | apply And.intro | (refine not_i ?_; assumption) | (refine and_l ?_; assumption) | (refine and_i ?_ ?_) | decide | omega | (simp [vcs]; done) | (simp only [List.length_map]; omega))) rfl (itoa_con hw hvv4) ?_
        obtain ⟨g3, h⟩ := grd h
        refine WR.run tbOk 2 (acc := []) rfl (by repeat' (first | exact trivial | assumption | intro _ | exact g3 (by assumption) | apply And.intro | (refine not_i ?_; assumption) | (refine and_l ?_; assumption) | (refine and_i ?_ ?_) | decide | omega | (simp [vcs]; done) | (simp only [List.length_map]; omega))) ?_
        obtain ⟨g4, h⟩ := grd h
        refine WR.append tbOk (([v2] ++ [((v3 ++ ([47] : Str)) ++ v4)]).map eStr) [35, 21] ap37 rfl rfl rfl rfl (fun _ e => by cases e; rfl) (by repeat' (first | exact trivial | assumption | intro _ | apply And.intro | (refine not_i ?_; assumption) | (refine and_l ?_; assumption) | (refine and_i ?_ ?_) | decide | omega | (simp [vcs]; done) | (simp only [List.length_map]; omega))) (map_cells (f := eStr) (xs := [((v3 ++ ([47] : Str)) ++ v4)]) fun _ => rfl) (by have := g4; simp only [List.length_map, List.length_nil, List.length_cons] at this ⊢; omega) rfl rfl (by simp only [List.map_append]; rfl) rfl rfl ?_
        refine WR.run tbOk 1 (acc := []) rfl (by repeat' (first | exact trivial | assumption | intro _ | apply And.intro | (refine not_i ?_; assumption) | (refine and_l ?_; assumption) | (refine and_i ?_ ?_) | decide | omega | (simp [vcs]; done) | (simp only [List.length_map]; omega))) ?_
        refine WR.nil (by kernel_rfl) ?_
        refine WQ.thenNormal ?_
        refine WC.seq ?_
        refine WC.publish 35 rfl rfl ?_
        refine WC.region ?_
        refine WL.run tbOk 1 (acc := []) rfl (by repeat' (first | exact trivial | assumption | intro _ | apply And.intro | (refine not_i ?_; assumption) | (refine and_l ?_; assumption) | (refine and_i ?_ ?_) | decide | omega | (simp [vcs]; done) | (simp only [List.length_map]; omega))) ?_
        obtain ⟨v5, hvv5, h⟩ := bnd h
        refine WL.call0 fn28 rfl rfl rfl rfl (by repeat' (first | exact trivial | assumption | intro _ | apply And.intro | (refine not_i ?_; assumption) | (refine and_l ?_; assumption) | (refine and_i ?_ ?_) | decide | omega | (simp [vcs]; done) | (simp only [List.length_map]; omega))) rfl (joinS_con hw hvv5) ?_
        refine WL.run tbOk 1 (acc := []) rfl (by repeat' (first | exact trivial | assumption | intro _ | apply And.intro | (refine not_i ?_; assumption) | (refine and_l ?_; assumption) | (refine and_i ?_ ?_) | decide | omega | (simp [vcs]; done) | (simp only [List.length_map]; omega))) ?_
        refine WL.nil ?_
        refine WQ.thenNormal ?_
        refine WC.seq ?_
        refine WC.seq ?_
        refine WC.region ?_
        refine WL.run tbOk 2 (acc := []) rfl (by repeat' (first | exact trivial | assumption | intro _ | apply And.intro | (refine not_i ?_; assumption) | (refine and_l ?_; assumption) | (refine and_i ?_ ?_) | decide | omega | (simp [vcs]; done) | (simp only [List.length_map]; omega))) ?_
        refine WL.nil ?_
        refine WQ.thenNormal ?_
        refine WC.cond rfl (fun hc4 => ?_) (fun hc4 => ?_)
        · replace h := ite_t hc4 h
          refine WC.region ?_
          refine WL.run tbOk 3 (acc := []) rfl (by repeat' (first | exact trivial | assumption | intro _ | apply And.intro | (refine not_i ?_; assumption) | (refine and_l ?_; assumption) | (refine and_i ?_ ?_) | decide | omega | (simp [vcs]; done) | (simp only [List.length_map]; omega))) ?_
          obtain ⟨v6, hvv6, h⟩ := bnd h
          refine WL.call0 fn25 rfl rfl rfl rfl (by repeat' (first | exact trivial | assumption | intro _ | apply And.intro | (refine not_i ?_; assumption) | (refine and_l ?_; assumption) | (refine and_i ?_ ?_) | decide | omega | (simp [vcs]; done) | (simp only [List.length_map]; omega))) rfl (dutyPercentage_con hw hvv6) ?_
          obtain ⟨g5, h⟩ := grd h
          obtain ⟨g6, h⟩ := grd h
          refine WL.run tbOk 3 (acc := []) rfl (by repeat' (first | exact trivial | assumption | intro _ | exact g5 (by assumption) | exact g6 (by assumption) | apply And.intro | (refine not_i ?_; assumption) | (refine and_l ?_; assumption) | (refine and_i ?_ ?_) | decide | omega | (simp [vcs]; done) | (simp only [List.length_map]; omega))) ?_
          refine WL.nil ?_
          refine WQ.thenNormal ?_
          refine WC.seq ?_
          refine WC.seq ?_
          refine WC.region ?_
          refine WL.run tbOk 2 (acc := []) rfl (by repeat' (first | exact trivial | assumption | intro _ | apply And.intro | (refine not_i ?_; assumption) | (refine and_l ?_; assumption) | (refine and_i ?_ ?_) | decide | omega | (simp [vcs]; done) | (simp only [List.length_map]; omega))) ?_
          refine WL.nil ?_
          refine WQ.thenNormal ?_
          refine WC.cond rfl (fun hc5 => ?_) (fun hc5 => ?_)
          · replace h := ite_t hc5 h
            refine WC.region ?_
            refine WL.run tbOk 3 (acc := []) rfl (by repeat' (first | exact trivial | assumption | intro _ | apply And.intro | (refine not_i ?_; assumption) | (refine and_l ?_; assumption) | (refine and_i ?_ ?_) | decide | omega | (simp [vcs]; done) | (simp only [List.length_map]; omega))) ?_
            obtain ⟨v7, hvv7, h⟩ := bnd h
            refine WL.call0 fn25 rfl rfl rfl rfl (by repeat' (first | exact trivial | assumption | intro _ | apply And.intro | (refine not_i ?_; assumption) | (refine and_l ?_; assumption) | (refine and_i ?_ ?_) | decide | omega | (simp [vcs]; done) | (simp only [List.length_map]; omega))) rfl (dutyPercentage_con hw hvv7) ?_
            obtain ⟨g7, h⟩ := grd h
            obtain ⟨g8, h⟩ := grd h
            refine WL.run tbOk 3 (acc := []) rfl (by repeat' (first | exact trivial | assumption | intro _ | exact g7 (by assumption) | exact g8 (by assumption) | apply And.intro | (refine not_i ?_; assumption) | (refine and_l ?_; assumption) | (refine and_i ?_ ?_) | decide | omega | (simp [vcs]; done) | (simp only [List.length_map]; omega))) ?_
            refine WL.nil ?_
            refine WQ.thenNormal ?_
            refine WC.seq ?_
            refine WC.region ?_
            refine WL.run tbOk 2 (acc := []) rfl (by repeat' (first | exact trivial | assumption | intro _ | apply And.intro | (refine not_i ?_; assumption) | (refine and_l ?_; assumption) | (refine and_i ?_ ?_) | decide | omega | (simp [vcs]; done) | (simp only [List.length_map]; omega))) ?_
            refine WL.nil ?_
            refine WQ.thenNormal ?_
            refine WC.ret ?_
            cases h
            exact WQ.rets tbOk hR [] (.inl rfl) rfl rfl (Le.refl _) (by repeat' (first | exact trivial | refine ⟨rfl, ?_⟩)) rfl rfl rfl rfl
          · replace h := ite_f hc5 h
            refine WC.skip ?_
            refine WQ.thenNormal ?_
            refine WC.seq ?_
            refine WC.region ?_
            refine WL.run tbOk 2 (acc := []) rfl (by repeat' (first | exact trivial | assumption | intro _ | apply And.intro | (refine not_i ?_; assumption) | (refine and_l ?_; assumption) | (refine and_i ?_ ?_) | decide | omega | (simp [vcs]; done) | (simp only [List.length_map]; omega))) ?_
            refine WL.nil ?_
            refine WQ.thenNormal ?_
            refine WC.ret ?_
            cases h
            exact WQ.rets tbOk hR [] (.inl rfl) rfl rfl (Le.refl _) (by repeat' (first | exact trivial | refine ⟨rfl, ?_⟩)) rfl rfl rfl rfl
        · replace h := ite_f hc4 h
          refine WC.skip ?_
          refine WQ.thenNormal ?_
          refine WC.seq ?_
          refine WC.seq ?_
          refine WC.region ?_
          refine WL.run tbOk 2 (acc := []) rfl (by repeat' (first | exact trivial | assumption | intro _ | apply And.intro | (refine not_i ?_; assumption) | (refine and_l ?_; assumption) | (refine and_i ?_ ?_) | decide | omega | (simp [vcs]; done) | (simp only [List.length_map]; omega))) ?_
          refine WL.nil ?_
          refine WQ.thenNormal ?_
          refine WC.cond rfl (fun hc6 => ?_) (fun hc6 => ?_)
          · replace h := ite_t hc6 h
            refine WC.region ?_
            refine WL.run tbOk 3 (acc := []) rfl (by repeat' (first | exact trivial | assumption | intro _ | apply And.intro | (refine not_i ?_; assumption) | (refine and_l ?_; assumption) | (refine and_i ?_ ?_) | decide | omega | (simp [vcs]; done) | (simp only [List.length_map]; omega))) ?_
            obtain ⟨v8, hvv8, h⟩ := bnd h
            refine WL.call0 fn25 rfl rfl rfl rfl (by repeat' (first | exact trivial | assumption | intro _ | apply And.intro | (refine not_i ?_; assumption) | (refine and_l ?_; assumption) | (refine and_i ?_ ?_) | decide | omega | (simp [vcs]; done) | (simp only [List.length_map]; omega))) rfl (dutyPercentage_con hw hvv8) ?_
            obtain ⟨g9, h⟩ := grd h
            obtain ⟨g10, h⟩ := grd h
            refine WL.run tbOk 3 (acc := []) rfl (by repeat' (first | exact trivial | assumption | intro _ | exact g9 (by assumption) | exact g10 (by assumption) | apply And.intro | (refine not_i ?_; assumption) | (refine and_l ?_; assumption) | (refine and_i ?_ ?_) | decide | omega | (simp [vcs]; done) | (simp only [List.length_map]; omega))) ?_
            refine WL.nil ?_
            refine WQ.thenNormal ?_
            refine WC.seq ?_
            refine WC.region ?_
            refine WL.run tbOk 2 (acc := []) rfl (by repeat' (first | exact trivial | assumption | intro _ | apply And.intro | (refine not_i ?_; assumption) | (refine and_l ?_; assumption) | (refine and_i ?_ ?_) | decide | omega | (simp [vcs]; done) | (simp only [List.length_map]; omega))) ?_
            refine WL.nil ?_
            refine WQ.thenNormal ?_
            refine WC.ret ?_
            cases h
            exact WQ.rets tbOk hR [] (.inl rfl) rfl rfl (Le.refl _) (by repeat' (first | exact trivial | refine ⟨rfl, ?_⟩)) rfl rfl rfl rfl
          · replace h := ite_f hc6 h
            refine WC.skip ?_
            refine WQ.thenNormal ?_
            refine WC.seq ?_
            refine WC.region ?_
            refine WL.run tbOk 2 (acc := []) rfl (by repeat' (first | exact trivial | assumption | intro _ | apply And.intro | (refine not_i ?_; assumption) | (refine and_l ?_; assumption) | (refine and_i ?_ ?_) | decide | omega | (simp [vcs]; done) | (simp only [List.length_map]; omega))) ?_
            refine WL.nil ?_
            refine WQ.thenNormal ?_
            refine WC.ret ?_
            cases h
            exact WQ.rets tbOk hR [] (.inl rfl) rfl rfl (Le.refl _) (by repeat' (first | exact trivial | refine ⟨rfl, ?_⟩)) rfl rfl rfl rfl
      · replace h := ite_f hc3 h
        refine WC.skip ?_
        refine WQ.thenNormal ?_
        refine WC.seq ?_
        refine WC.publish 21 rfl rfl ?_
        refine WC.region ?_
        refine WL.run tbOk 1 (acc := []) rfl (by repeat' (first | exact trivial | assumption | intro _ | apply And.intro | (refine not_i ?_; assumption) | (refine and_l ?_; assumption) | (refine and_i ?_ ?_) | decide | omega | (simp [vcs]; done) | (simp only [List.length_map]; omega))) ?_
        obtain ⟨v9, hvv9, h⟩ := bnd h
        refine WL.call0 fn28 rfl rfl rfl rfl (by repeat' (first | exact trivial | assumption | intro _ | apply And.intro | (refine not_i ?_; assumption) | (refine and_l ?_; assumption) | (refine and_i ?_ ?_) | decide | omega | (simp [vcs]; done) | (simp only [List.length_map]; omega))) rfl (joinS_con hw hvv9) ?_
        refine WL.run tbOk 1 (acc := []) rfl (by repeat' (first | exact trivial | assumption | intro _ | apply And.intro | (refine not_i ?_; assumption) | (refine and_l ?_; assumption) | (refine and_i ?_ ?_) | decide | omega | (simp [vcs]; done) | (simp only [List.length_map]; omega))) ?_
        refine WL.nil ?_
        refine WQ.thenNormal ?_
        refine WC.seq ?_
        refine WC.seq ?_
        refine WC.region ?_
        refine WL.run tbOk 2 (acc := []) rfl (by repeat' (first | exact trivial | assumption | intro _ | apply And.intro | (refine not_i ?_; assumption) | (refine and_l ?_; assumption) | (refine and_i ?_ ?_) | decide | omega | (simp [vcs]; done) | (simp only [List.length_map]; omega))) ?_
        refine WL.nil ?_
        refine WQ.thenNormal ?_
        refine WC.cond rfl (fun hc7 => ?_) (fun hc7 => ?_)
        · replace h := ite_t hc7 h
          refine WC.region ?_
          refine WL.run tbOk 3 (acc := []) rfl (by repeat' (first | exact trivial | assumption | intro _ | apply And.intro | (refine not_i ?_; assumption) | (refine and_l ?_; assumption) | (refine and_i ?_ ?_) | decide | omega | (simp [vcs]; done) | (simp only [List.length_map]; omega))) ?_
          obtain ⟨v10, hvv10, h⟩ := bnd h
          refine WL.call0 fn25 rfl rfl rfl rfl (by repeat' (first | exact trivial | assumption | intro _ | apply And.intro | (refine not_i ?_; assumption) | (refine and_l ?_; assumption) | (refine and_i ?_ ?_) | decide | omega | (simp [vcs]; done) | (simp only [List.length_map]; omega))) rfl (dutyPercentage_con hw hvv10) ?_
          obtain ⟨g11, h⟩ := grd h
          obtain ⟨g12, h⟩ := grd h
          refine WL.run tbOk 3 (acc := []) rfl (by repeat' (first | exact trivial | assumption | intro _ | exact g11 (by assumption) | exact g12 (by assumption) | apply And.intro | (refine not_i ?_; assumption) | (refine and_l ?_; assumption) | (refine and_i ?_ ?_) | decide | omega | (simp [vcs]; done) | (simp only [List.length_map]; omega))) ?_
          refine WL.nil ?_
          refine WQ.thenNormal ?_
          refine WC.seq ?_
          refine WC.seq ?_
          refine WC.region ?_
          refine WL.run tbOk 2 (acc := []) rfl (by repeat' (first | exact trivial | assumption | intro _ | apply And.intro | (refine not_i ?_; assumption) | (refine and_l ?_; assumption) | (refine and_i ?_ ?_) | decide | omega | (simp [vcs]; done) | (simp only [List.length_map]; omega))) ?_
          refine WL.nil ?_
          refine WQ.thenNormal ?_
          refine WC.cond rfl (fun hc8 => ?_) (fun hc8 => ?_)
          · replace h := ite_t hc8 h
            refine WC.region ?_
            refine WL.run tbOk 3 (acc := []) rfl (by repeat' (first | exact trivial | assumption | intro _ | apply And.intro | (refine not_i ?_; assumption) | (refine and_l ?_; assumption) | (refine and_i ?_ ?_) | decide | omega | (simp [vcs]; done) | (simp only [List.length_map]; omega))) ?_
            obtain ⟨v11, hvv11, h⟩ := bnd h
            refine WL.call0 fn25 rfl rfl rfl rfl (by repeat' (first | exact trivial | assumption | intro _ | apply And.intro | (refine not_i ?_; assumption) | (refine and_l ?_; assumption) | (refine and_i ?_ ?_) | decide | omega | (simp [vcs]; done) | (simp only [List.length_map]; omega))) rfl (dutyPercentage_con hw hvv11) ?_
            obtain ⟨g13, h⟩ := grd h
            obtain ⟨g14, h⟩ := grd h
            refine WL.run tbOk 3 (acc := []) rfl (by repeat' (first | exact trivial | assumption | intro _ | exact g13 (by assumption) | exact g14 (by assumption) | apply And.intro | (refine not_i ?_; assumption) | (refine and_l ?_; assumption) | (refine and_i ?_ ?_) | decide | omega | (simp [vcs]; done) | (simp only [List.length_map]; omega))) ?_
            refine WL.nil ?_
            refine WQ.thenNormal ?_
            refine WC.seq ?_
            refine WC.region ?_
            refine WL.run tbOk 2 (acc := []) rfl (by repeat' (first | exact trivial | assumption | intro _ | apply And.intro | (refine not_i ?_; assumption) | (refine and_l ?_; assumption) | (refine and_i ?_ ?_) | decide | omega | (simp [vcs]; done) | (simp only [List.length_map]; omega))) ?_
            refine WL.nil ?_
            refine WQ.thenNormal ?_
            refine WC.ret ?_
            cases h
            exact WQ.rets tbOk hR [] (.inl rfl) rfl rfl (Le.refl _) (by repeat' (first | exact trivial | refine ⟨rfl, ?_⟩)) rfl rfl rfl rfl
          · replace h := ite_f hc8 h
            refine WC.skip ?_
            refine WQ.thenNormal ?_
            refine WC.seq ?_
            refine WC.region ?_
            refine WL.run tbOk 2 (acc := []) rfl (by repeat' (first | exact trivial | assumption | intro _ | apply And.intro | (refine not_i ?_; assumption) | (refine and_l ?_; assumption) | (refine and_i ?_ ?_) | decide | omega | (simp [vcs]; done) | (simp only [List.length_map]; omega))) ?_
            refine WL.nil ?_
            refine WQ.thenNormal ?_
            refine WC.ret ?_
            cases h
            exact WQ.rets tbOk hR [] (.inl rfl) rfl rfl (Le.refl _) (by repeat' (first | exact trivial | refine ⟨rfl, ?_⟩)) rfl rfl rfl rfl
        · replace h := ite_f hc7 h
          refine WC.skip ?_
          refine WQ.thenNormal ?_
          refine WC.seq ?_
          refine WC.seq ?_
          refine WC.region ?_
          refine WL.run tbOk 2 (acc := []) rfl (by repeat' (first | exact trivial | assumption | intro _ | apply And.intro | (refine not_i ?_; assumption) | (refine and_l ?_; assumption) | (refine and_i ?_ ?_) | decide | omega | (simp [vcs]; done) | (simp only [List.length_map]; omega))) ?_
          refine WL.nil ?_
          refine WQ.thenNormal ?_
          refine WC.cond rfl (fun hc9 => ?_) (fun hc9 => ?_)
          · replace h := ite_t hc9 h
            refine WC.region ?_
            refine WL.run tbOk 3 (acc := []) rfl (by repeat' (first | exact trivial | assumption | intro _ | apply And.intro | (refine not_i ?_; assumption) | (refine and_l ?_; assumption) | (refine and_i ?_ ?_) | decide | omega | (simp [vcs]; done) | (simp only [List.length_map]; omega))) ?_
            obtain ⟨v12, hvv12, h⟩ := bnd h
            refine WL.call0 fn25 rfl rfl rfl rfl (by repeat' (first | exact trivial | assumption | intro _ | apply And.intro | (refine not_i ?_; assumption) | (refine and_l ?_; assumption) | (refine and_i ?_ ?_) | decide | omega | (simp [vcs]; done) | (simp only [List.length_map]; omega))) rfl (dutyPercentage_con hw hvv12) ?_
            obtain ⟨g15, h⟩ := grd h
            obtain ⟨g16, h⟩ := grd h
            refine WL.run tbOk 3 (acc := []) rfl (by repeat' (first | exact trivial | assumption | intro _ | exact g15 (by assumption) | exact g16 (by assumption) | apply And.intro | (refine not_i ?_; assumption) | (refine and_l ?_; assumption) | (refine and_i ?_ ?_) | decide | omega | (simp [vcs]; done) | (simp only [List.length_map]; omega))) ?_
            refine WL.nil ?_
            refine WQ.thenNormal ?_
            refine WC.seq ?_
            refine WC.region ?_
            refine WL.run tbOk 2 (acc := []) rfl (by repeat' (first | exact trivial | assumption | intro _ | apply And.intro | (refine not_i ?_; assumption) | (refine and_l ?_; assumption) | (refine and_i ?_ ?_) | decide | omega | (simp [vcs]; done) | (simp only [List.length_map]; omega))) ?_
            refine WL.nil ?_
            refine WQ.thenNormal ?_
            refine WC.ret ?_
            cases h
            exact WQ.rets tbOk hR [] (.inl rfl) rfl rfl (Le.refl _) (by repeat' (first | exact trivial | refine ⟨rfl, ?_⟩)) rfl rfl rfl rfl
          · replace h := ite_f hc9 h
            refine WC.skip ?_
            refine WQ.thenNormal ?_
            refine WC.seq ?_
            refine WC.region ?_
            refine WL.run tbOk 2 (acc := []) rfl (by repeat' (first | exact trivial | assumption | intro _ | apply And.intro | (refine not_i ?_; assumption) | (refine and_l ?_; assumption) | (refine and_i ?_ ?_) | decide | omega | (simp [vcs]; done) | (simp only [List.length_map]; omega))) ?_
            refine WL.nil ?_
            refine WQ.thenNormal ?_
            refine WC.ret ?_
            cases h
            exact WQ.rets tbOk hR [] (.inl rfl) rfl rfl (Le.refl _) (by repeat' (first | exact trivial | refine ⟨rfl, ?_⟩)) rfl rfl rfl rfl
    · replace h := ite_f hc2 h
      refine WC.skip ?_
      refine WQ.thenNormal ?_
      refine WC.seq ?_
      refine WC.seq ?_
      refine WC.region ?_
      refine WL.run tbOk 3 (acc := []) rfl (by repeat' (first | exact trivial | assumption | intro _ | apply And.intro | (refine not_i ?_; assumption) | (refine and_l ?_; assumption) | (refine and_i ?_ ?_) | decide | omega | (simp [vcs]; done) | (simp only [List.length_map]; omega))) ?_
      refine WL.nil ?_
      refine WQ.thenNormal ?_
      refine WC.cond rfl (fun hc10 => ?_) (fun hc10 => ?_)
      · replace h := ite_t hc10 h
        refine WC.order mixed ?_
        refine WR.run tbOk 3 (acc := []) rfl (by repeat' (first | exact trivial | assumption | intro _ | apply And.intro | (refine not_i ?_; assumption) | (refine and_l ?_; assumption) | (refine and_i ?_ ?_) | decide | omega | (simp [vcs]; done) | (simp only [List.length_map]; omega))) ?_
        obtain ⟨v13, hvv13, h⟩ := bnd h
        refine WR.call0 fn26 rfl rfl rfl rfl (by repeat' (first | exact trivial | assumption | intro _ | apply And.intro | (refine not_i ?_; assumption) | (refine and_l ?_; assumption) | (refine and_i ?_ ?_) | decide | omega | (simp [vcs]; done) | (simp only [List.length_map]; omega))) rfl (moneyFormat_con hw hvv13) ?_
        obtain ⟨g17, h⟩ := grd h
        refine WR.run tbOk 3 (acc := []) rfl (by repeat' (first | exact trivial | assumption | intro _ | exact g17 (by assumption) | apply And.intro | (refine not_i ?_; assumption) | (refine and_l ?_; assumption) | (refine and_i ?_ ?_) | decide | omega | (simp [vcs]; done) | (simp only [List.length_map]; omega))) ?_
        obtain ⟨v14, hvv14, h⟩ := bnd h
        refine WR.call0 fn27 rfl rfl rfl rfl (by repeat' (first | exact trivial | assumption | intro _ | apply And.intro | (refine not_i ?_; assumption) | (refine and_l ?_; assumption) | (refine and_i ?_ ?_) | decide | omega | (simp [vcs]; done) | (simp only [List.length_map]; omega))) rfl (itoa_con hw hvv14) ?_
        obtain ⟨g18, h⟩ := grd h
        refine WR.run tbOk 2 (acc := []) rfl (by repeat' (first | exact trivial | assumption | intro _ | exact g18 (by assumption) | apply And.intro | (refine not_i ?_; assumption) | (refine and_l ?_; assumption) | (refine and_i ?_ ?_) | decide | omega | (simp [vcs]; done) | (simp only [List.length_map]; omega))) ?_
        obtain ⟨g19, h⟩ := grd h
        refine WR.append tbOk ([((v13 ++ ([47] : Str)) ++ v14)].map eStr) [35] ap37 rfl rfl rfl rfl (fun _ e => by cases e) (by repeat' (first | exact trivial | assumption | intro _ | apply And.intro | (refine not_i ?_; assumption) | (refine and_l ?_; assumption) | (refine and_i ?_ ?_) | decide | omega | (simp [vcs]; done) | (simp only [List.length_map]; omega))) (map_cells (f := eStr) (xs := [((v13 ++ ([47] : Str)) ++ v14)]) fun _ => rfl) (by have := g19; simp only [List.length_map, List.length_nil, List.length_cons] at this ⊢; omega) rfl rfl rfl rfl rfl ?_
        refine WR.run tbOk 1 (acc := []) rfl (by repeat' (first | exact trivial | assumption | intro _ | apply And.intro | (refine not_i ?_; assumption) | (refine and_l ?_; assumption) | (refine and_i ?_ ?_) | decide | omega | (simp [vcs]; done) | (simp only [List.length_map]; omega))) ?_
        refine WR.nil (by kernel_rfl) ?_
        refine WQ.thenNormal ?_
        refine WC.seq ?_
        refine WC.publish 35 rfl rfl ?_
        refine WC.region ?_
        refine WL.run tbOk 1 (acc := []) rfl (by repeat' (first | exact trivial | assumption | intro _ | apply And.intro | (refine not_i ?_; assumption) | (refine and_l ?_; assumption) | (refine and_i ?_ ?_) | decide | omega | (simp [vcs]; done) | (simp only [List.length_map]; omega))) ?_
        obtain ⟨v15, hvv15, h⟩ := bnd h
        refine WL.call0 fn28 rfl rfl rfl rfl (by repeat' (first | exact trivial | assumption | intro _ | apply And.intro | (refine not_i ?_; assumption) | (refine and_l ?_; assumption) | (refine and_i ?_ ?_) | decide | omega | (simp [vcs]; done) | (simp only [List.length_map]; omega))) rfl (joinS_con hw hvv15) ?_
        refine WL.run tbOk 1 (acc := []) rfl (by repeat' (first | exact trivial | assumption | intro _ | apply And.intro | (refine not_i ?_; assumption) | (refine and_l ?_; assumption) | (refine and_i ?_ ?_) | decide | omega | (simp [vcs]; done) | (simp only [List.length_map]; omega))) ?_
        refine WL.nil ?_
        refine WQ.thenNormal ?_
        refine WC.seq ?_
        refine WC.seq ?_
        refine WC.region ?_
        refine WL.run tbOk 2 (acc := []) rfl (by repeat' (first | exact trivial | assumption | intro _ | apply And.intro | (refine not_i ?_; assumption) | (refine and_l ?_; assumption) | (refine and_i ?_ ?_) | decide | omega | (simp [vcs]; done) | (simp only [List.length_map]; omega))) ?_
        refine WL.nil ?_
        refine WQ.thenNormal ?_
        refine WC.cond rfl (fun hc11 => ?_) (fun hc11 => ?_)
        · replace h := ite_t hc11 h
          refine WC.region ?_
          refine WL.run tbOk 3 (acc := []) rfl (by repeat' (first | exact trivial | assumption | intro _ | apply And.intro | (refine not_i ?_; assumption) | (refine and_l ?_; assumption) | (refine and_i ?_ ?_) | decide | omega | (simp [vcs]; done) | (simp only [List.length_map]; omega))) ?_
          obtain ⟨v16, hvv16, h⟩ := bnd h
          refine WL.call0 fn25 rfl rfl rfl rfl (by repeat' (first | exact trivial | assumption | intro _ | apply And.intro | (refine not_i ?_; assumption) | (refine and_l ?_; assumption) | (refine and_i ?_ ?_) | decide | omega | (simp [vcs]; done) | (simp only [List.length_map]; omega))) rfl (dutyPercentage_con hw hvv16) ?_
          obtain ⟨g20, h⟩ := grd h
          obtain ⟨g21, h⟩ := grd h
          refine WL.run tbOk 3 (acc := []) rfl (by repeat' (first | exact trivial | assumption | intro _ | exact g20 (by assumption) | exact g21 (by assumption) | apply And.intro | (refine not_i ?_; assumption) | (refine and_l ?_; assumption) | (refine and_i ?_ ?_) | decide | omega | (simp [vcs]; done) | (simp only [List.length_map]; omega))) ?_
          refine WL.nil ?_
          refine WQ.thenNormal ?_
          refine WC.seq ?_
          refine WC.seq ?_
          refine WC.region ?_
          refine WL.run tbOk 2 (acc := []) rfl (by repeat' (first | exact trivial | assumption | intro _ | apply And.intro | (refine not_i ?_; assumption) | (refine and_l ?_; assumption) | (refine and_i ?_ ?_) | decide | omega | (simp [vcs]; done) | (simp only [List.length_map]; omega))) ?_
          refine WL.nil ?_
          refine WQ.thenNormal ?_
          refine WC.cond rfl (fun hc12 => ?_) (fun hc12 => ?_)
          · replace h := ite_t hc12 h
            refine WC.region ?_
            refine WL.run tbOk 3 (acc := []) rfl (by repeat' (first | exact trivial | assumption | intro _ | apply And.intro | (refine not_i ?_; assumption) | (refine and_l ?_; assumption) | (refine and_i ?_ ?_) | decide | omega | (simp [vcs]; done) | (simp only [List.length_map]; omega))) ?_
            obtain ⟨v17, hvv17, h⟩ := bnd h
            refine WL.call0 fn25 rfl rfl rfl rfl (by repeat' (first | exact trivial | assumption | intro _ | apply And.intro | (refine not_i ?_; assumption) | (refine and_l ?_; assumption) | (refine and_i ?_ ?_) | decide | omega | (simp [vcs]; done) | (simp only [List.length_map]; omega))) rfl (dutyPercentage_con hw hvv17) ?_
            obtain ⟨g22, h⟩ := grd h
            obtain ⟨g23, h⟩ := grd h
            refine WL.run tbOk 3 (acc := []) rfl (by repeat' (first | exact trivial | assumption | intro _ | exact g22 (by assumption) | exact g23 (by assumption) | apply And.intro | (refine not_i ?_; assumption) | (refine and_l ?_; assumption) | (refine and_i ?_ ?_) | decide | omega | (simp [vcs]; done) | (simp only [List.length_map]; omega))) ?_
            refine WL.nil ?_
            refine WQ.thenNormal ?_
            refine WC.seq ?_
            refine WC.region ?_
            refine WL.run tbOk 2 (acc := []) rfl (by repeat' (first | exact trivial | assumption | intro _ | apply And.intro | (refine not_i ?_; assumption) | (refine and_l ?_; assumption) | (refine and_i ?_ ?_) | decide | omega | (simp [vcs]; done) | (simp only [List.length_map]; omega))) ?_
            refine WL.nil ?_
            refine WQ.thenNormal ?_
            refine WC.ret ?_
            cases h
            exact WQ.rets tbOk hR [] (.inl rfl) rfl rfl (Le.refl _) (by repeat' (first | exact trivial | refine ⟨rfl, ?_⟩)) rfl rfl rfl rfl
          · replace h := ite_f hc12 h
            refine WC.skip ?_
            refine WQ.thenNormal ?_
            refine WC.seq ?_
            refine WC.region ?_
            refine WL.run tbOk 2 (acc := []) rfl (by repeat' (first | exact trivial | assumption | intro _ | apply And.intro | (refine not_i ?_; assumption) | (refine and_l ?_; assumption) | (refine and_i ?_ ?_) | decide | omega | (simp [vcs]; done) | (simp only [List.length_map]; omega))) ?_
            refine WL.nil ?_
            refine WQ.thenNormal ?_
            refine WC.ret ?_
            cases h
            exact WQ.rets tbOk hR [] (.inl rfl) rfl rfl (Le.refl _) (by repeat' (first | exact trivial | refine ⟨rfl, ?_⟩)) rfl rfl rfl rfl
        · replace h := ite_f hc11 h
          refine WC.skip ?_
          refine WQ.thenNormal ?_
          refine WC.seq ?_
          refine WC.seq ?_
          refine WC.region ?_
          refine WL.run tbOk 2 (acc := []) rfl (by repeat' (first | exact trivial | assumption | intro _ | apply And.intro | (refine not_i ?_; assumption) | (refine and_l ?_; assumption) | (refine and_i ?_ ?_) | decide | omega | (simp [vcs]; done) | (simp only [List.length_map]; omega))) ?_
          refine WL.nil ?_
          refine WQ.thenNormal ?_
          refine WC.cond rfl (fun hc13 => ?_) (fun hc13 => ?_)
          · replace h := ite_t hc13 h
            refine WC.region ?_
            refine WL.run tbOk 3 (acc := []) rfl (by repeat' (first | exact trivial | assumption | intro _ | apply And.intro | (refine not_i ?_; assumption) | (refine and_l ?_; assumption) | (refine and_i ?_ ?_) | decide | omega | (simp [vcs]; done) | (simp only [List.length_map]; omega))) ?_
            obtain ⟨v18, hvv18, h⟩ := bnd h
            refine WL.call0 fn25 rfl rfl rfl rfl (by repeat' (first | exact trivial | assumption | intro _ | apply And.intro | (refine not_i ?_; assumption) | (refine and_l ?_; assumption) | (refine and_i ?_ ?_) | decide | omega | (simp [vcs]; done) | (simp only [List.length_map]; omega))) rfl (dutyPercentage_con hw hvv18) ?_
            obtain ⟨g24, h⟩ := grd h
            obtain ⟨g25, h⟩ := grd h
            refine WL.run tbOk 3 (acc := []) rfl (by repeat' (first | exact trivial | assumption | intro _ | exact g24 (by assumption) | exact g25 (by assumption) | apply And.intro | (refine not_i ?_; assumption) | (refine and_l ?_; assumption) | (refine and_i ?_ ?_) | decide | omega | (simp [vcs]; done) | (simp only [List.length_map]; omega))) ?_
            refine WL.nil ?_
            refine WQ.thenNormal ?_
            refine WC.seq ?_
            refine WC.region ?_
            refine WL.run tbOk 2 (acc := []) rfl (by repeat' (first | exact trivial | assumption | intro _ | apply And.intro | (refine not_i ?_; assumption) | (refine and_l ?_; assumption) | (refine and_i ?_ ?_) | decide | omega | (simp [vcs]; done) | (simp only [List.length_map]; omega))) ?_
            refine WL.nil ?_
            refine WQ.thenNormal ?_
            refine WC.ret ?_
            cases h
            exact WQ.rets tbOk hR [] (.inl rfl) rfl rfl (Le.refl _) (by repeat' (first | exact trivial | refine ⟨rfl, ?_⟩)) rfl rfl rfl rfl
          · replace h := ite_f hc13 h
            refine WC.skip ?_
            refine WQ.thenNormal ?_
            refine WC.seq ?_
            refine WC.region ?_
            refine WL.run tbOk 2 (acc := []) rfl (by repeat' (first | exact trivial | assumption | intro _ | apply And.intro | (refine not_i ?_; assumption) | (refine and_l ?_; assumption) | (refine and_i ?_ ?_) | decide | omega | (simp [vcs]; done) | (simp only [List.length_map]; omega))) ?_
            refine WL.nil ?_
            refine WQ.thenNormal ?_
            refine WC.ret ?_
            cases h
            exact WQ.rets tbOk hR [] (.inl rfl) rfl rfl (Le.refl _) (by repeat' (first | exact trivial | refine ⟨rfl, ?_⟩)) rfl rfl rfl rfl
      · replace h := ite_f hc10 h
        refine WC.skip ?_
        refine WQ.thenNormal ?_
        refine WC.seq ?_
        refine WC.region ?_
        refine WL.run tbOk 1 (acc := []) rfl (by repeat' (first | exact trivial | assumption | intro _ | apply And.intro | (refine not_i ?_; assumption) | (refine and_l ?_; assumption) | (refine and_i ?_ ?_) | decide | omega | (simp [vcs]; done) | (simp only [List.length_map]; omega))) ?_
        obtain ⟨v19, hvv19, h⟩ := bnd h
        refine WL.call0 fn28 rfl rfl rfl rfl (by repeat' (first | exact trivial | assumption | intro _ | apply And.intro | (refine not_i ?_; assumption) | (refine and_l ?_; assumption) | (refine and_i ?_ ?_) | decide | omega | (simp [vcs]; done) | (simp only [List.length_map]; omega))) rfl (con_le (.cons (Le.nil 1) (.cons (Le.refl _) .nil)) (joinS_con hw hvv19)) ?_
        refine WL.run tbOk 1 (acc := []) rfl (by repeat' (first | exact trivial | assumption | intro _ | apply And.intro | (refine not_i ?_; assumption) | (refine and_l ?_; assumption) | (refine and_i ?_ ?_) | decide | omega | (simp [vcs]; done) | (simp only [List.length_map]; omega))) ?_
        refine WL.nil ?_
        refine WQ.thenNormal ?_
        refine WC.seq ?_
        refine WC.seq ?_
        refine WC.region ?_
        refine WL.run tbOk 2 (acc := []) rfl (by repeat' (first | exact trivial | assumption | intro _ | apply And.intro | (refine not_i ?_; assumption) | (refine and_l ?_; assumption) | (refine and_i ?_ ?_) | decide | omega | (simp [vcs]; done) | (simp only [List.length_map]; omega))) ?_
        refine WL.nil ?_
        refine WQ.thenNormal ?_
        refine WC.cond rfl (fun hc14 => ?_) (fun hc14 => ?_)
        · replace h := ite_t hc14 h
          refine WC.region ?_
          refine WL.run tbOk 3 (acc := []) rfl (by repeat' (first | exact trivial | assumption | intro _ | apply And.intro | (refine not_i ?_; assumption) | (refine and_l ?_; assumption) | (refine and_i ?_ ?_) | decide | omega | (simp [vcs]; done) | (simp only [List.length_map]; omega))) ?_
          obtain ⟨v20, hvv20, h⟩ := bnd h
          refine WL.call0 fn25 rfl rfl rfl rfl (by repeat' (first | exact trivial | assumption | intro _ | apply And.intro | (refine not_i ?_; assumption) | (refine and_l ?_; assumption) | (refine and_i ?_ ?_) | decide | omega | (simp [vcs]; done) | (simp only [List.length_map]; omega))) rfl (dutyPercentage_con hw hvv20) ?_
          obtain ⟨g26, h⟩ := grd h
          obtain ⟨g27, h⟩ := grd h
          refine WL.run tbOk 3 (acc := []) rfl (by repeat' (first | exact trivial | assumption | intro _ | exact g26 (by assumption) | exact g27 (by assumption) | apply And.intro | (refine not_i ?_; assumption) | (refine and_l ?_; assumption) | (refine and_i ?_ ?_) | decide | omega | (simp [vcs]; done) | (simp only [List.length_map]; omega))) ?_
          refine WL.nil ?_
          refine WQ.thenNormal ?_
          refine WC.seq ?_
          refine WC.seq ?_
          refine WC.region ?_
          refine WL.run tbOk 2 (acc := []) rfl (by repeat' (first | exact trivial | assumption | intro _ | apply And.intro | (refine not_i ?_; assumption) | (refine and_l ?_; assumption) | (refine and_i ?_ ?_) | decide | omega | (simp [vcs]; done) | (simp only [List.length_map]; omega))) ?_
          refine WL.nil ?_
          refine WQ.thenNormal ?_
          refine WC.cond rfl (fun hc15 => ?_) (fun hc15 => ?_)
          · replace h := ite_t hc15 h
            refine WC.region ?_
            refine WL.run tbOk 3 (acc := []) rfl (by repeat' (first | exact trivial | assumption | intro _ | apply And.intro | (refine not_i ?_; assumption) | (refine and_l ?_; assumption) | (refine and_i ?_ ?_) | decide | omega | (simp [vcs]; done) | (simp only [List.length_map]; omega))) ?_
            obtain ⟨v21, hvv21, h⟩ := bnd h
            refine WL.call0 fn25 rfl rfl rfl rfl (by repeat' (first | exact trivial | assumption | intro _ | apply And.intro | (refine not_i ?_; assumption) | (refine and_l ?_; assumption) | (refine and_i ?_ ?_) | decide | omega | (simp [vcs]; done) | (simp only [List.length_map]; omega))) rfl (dutyPercentage_con hw hvv21) ?_
            obtain ⟨g28, h⟩ := grd h
            obtain ⟨g29, h⟩ := grd h
            refine WL.run tbOk 3 (acc := []) rfl (by repeat' (first | exact trivial | assumption | intro _ | exact g28 (by assumption) | exact g29 (by assumption) | apply And.intro | (refine not_i ?_; assumption) | (refine and_l ?_; assumption) | (refine and_i ?_ ?_) | decide | omega | (simp [vcs]; done) | (simp only [List.length_map]; omega))) ?_
            refine WL.nil ?_
            refine WQ.thenNormal ?_
            refine WC.seq ?_
            refine WC.region ?_
            refine WL.run tbOk 2 (acc := []) rfl (by repeat' (first | exact trivial | assumption | intro _ | apply And.intro | (refine not_i ?_; assumption) | (refine and_l ?_; assumption) | (refine and_i ?_ ?_) | decide | omega | (simp [vcs]; done) | (simp only [List.length_map]; omega))) ?_
            refine WL.nil ?_
            refine WQ.thenNormal ?_
            refine WC.ret ?_
            cases h
            exact WQ.rets tbOk hR [] (.inl rfl) rfl rfl (Le.refl _) (by repeat' (first | exact trivial | refine ⟨rfl, ?_⟩)) rfl rfl rfl rfl
          · replace h := ite_f hc15 h
            refine WC.skip ?_
            refine WQ.thenNormal ?_
            refine WC.seq ?_
            refine WC.region ?_
            refine WL.run tbOk 2 (acc := []) rfl (by repeat' (first | exact trivial | assumption | intro _ | apply And.intro | (refine not_i ?_; assumption) | (refine and_l ?_; assumption) | (refine and_i ?_ ?_) | decide | omega | (simp [vcs]; done) | (simp only [List.length_map]; omega))) ?_
            refine WL.nil ?_
            refine WQ.thenNormal ?_
            refine WC.ret ?_
            cases h
            exact WQ.rets tbOk hR [] (.inl rfl) rfl rfl (Le.refl _) (by repeat' (first | exact trivial | refine ⟨rfl, ?_⟩)) rfl rfl rfl rfl
        · replace h := ite_f hc14 h
          refine WC.skip ?_
          refine WQ.thenNormal ?_
          refine WC.seq ?_
          refine WC.seq ?_
          refine WC.region ?_
          refine WL.run tbOk 2 (acc := []) rfl (by repeat' (first | exact trivial | assumption | intro _ | apply And.intro | (refine not_i ?_; assumption) | (refine and_l ?_; assumption) | (refine and_i ?_ ?_) | decide | omega | (simp [vcs]; done) | (simp only [List.length_map]; omega))) ?_
          refine WL.nil ?_
          refine WQ.thenNormal ?_
          refine WC.cond rfl (fun hc16 => ?_) (fun hc16 => ?_)
          · replace h := ite_t hc16 h
            refine WC.region ?_
            refine WL.run tbOk 3 (acc := []) rfl (by repeat' (first | exact trivial | assumption | intro _ | apply And.intro | (refine not_i ?_; assumption) | (refine and_l ?_; assumption) | (refine and_i ?_ ?_) | decide | omega | (simp [vcs]; done) | (simp only [List.length_map]; omega))) ?_
            obtain ⟨v22, hvv22, h⟩ := bnd h
            refine WL.call0 fn25 rfl rfl rfl rfl (by repeat' (first | exact trivial | assumption | intro _ | apply And.intro | (refine not_i ?_; assumption) | (refine and_l ?_; assumption) | (refine and_i ?_ ?_) | decide | omega | (simp [vcs]; done) | (simp only [List.length_map]; omega))) rfl (dutyPercentage_con hw hvv22) ?_
            obtain ⟨g30, h⟩ := grd h
            obtain ⟨g31, h⟩ := grd h
            refine WL.run tbOk 3 (acc := []) rfl (by repeat' (first | exact trivial | assumption | intro _ | exact g30 (by assumption) | exact g31 (by assumption) | apply And.intro | (refine not_i ?_; assumption) | (refine and_l ?_; assumption) | (refine and_i ?_ ?_) | decide | omega | (simp [vcs]; done) | (simp only [List.length_map]; omega))) ?_
            refine WL.nil ?_
            refine WQ.thenNormal ?_
            refine WC.seq ?_
            refine WC.region ?_
            refine WL.run tbOk 2 (acc := []) rfl (by repeat' (first | exact trivial | assumption | intro _ | apply And.intro | (refine not_i ?_; assumption) | (refine and_l ?_; assumption) | (refine and_i ?_ ?_) | decide | omega | (simp [vcs]; done) | (simp only [List.length_map]; omega))) ?_
            refine WL.nil ?_
            refine WQ.thenNormal ?_
            refine WC.ret ?_
            cases h
            exact WQ.rets tbOk hR [] (.inl rfl) rfl rfl (Le.refl _) (by repeat' (first | exact trivial | refine ⟨rfl, ?_⟩)) rfl rfl rfl rfl
          · replace h := ite_f hc16 h
            refine WC.skip ?_
            refine WQ.thenNormal ?_
            refine WC.seq ?_
            refine WC.region ?_
            refine WL.run tbOk 2 (acc := []) rfl (by repeat' (first | exact trivial | assumption | intro _ | apply And.intro | (refine not_i ?_; assumption) | (refine and_l ?_; assumption) | (refine and_i ?_ ?_) | decide | omega | (simp [vcs]; done) | (simp only [List.length_map]; omega))) ?_
            refine WL.nil ?_
            refine WQ.thenNormal ?_
            refine WC.ret ?_
            cases h
            exact WQ.rets tbOk hR [] (.inl rfl) rfl rfl (Le.refl _) (by repeat' (first | exact trivial | refine ⟨rfl, ?_⟩)) rfl rfl rfl rfl

theorem dutyParseTerms_con {wg : World} (hw : WG wg) {a0 : ApiDuty} {a1 : (List Str)} {r : (List Str) × Bool × ApiDuty} (h : dutyParseTerms a0 a1 = some r) : Con Tryz.prog wg gl 57 [.p 0 0, .v (.sl 1 (a1.map eStr))] [(0, .blk 23 [.v (.int .i64 a0.Rate), .v (.int .i64 a0.Amount), .v (.int .i64 a0.Per), .v (.bool a0.HasMost), .v (.int .i64 a0.Most), .v (.bool a0.HasLeast), .v (.int .i64 a0.Least)])] (.tup [.v (.sl 1 (r.1.map eStr)), .v (.bool r.2.1)]) [(0, .blk 23 [.v (.int .i64 r.2.2.Rate), .v (.int .i64 r.2.2.Amount), .v (.int .i64 r.2.2.Per), .v (.bool r.2.2.HasMost), .v (.int .i64 r.2.2.Most), .v (.bool r.2.2.HasLeast), .v (.int .i64 r.2.2.Least)])] := by
  unfold dutyParseTerms at h
  refine con_of_WC (S := slotsOf 0 _) Tryz.func57 rfl Tryz.ntmps57 rfl (fun t x hx => (slotsOf_get hx).2) ?_
  intro F L w ρ0 R hR
  show WC _ _ _ ⟨[(0, .p 0 0), (1, .v (.sl 1 (a1.map eStr)))], [(0, .blk 23 [.v (.int .i64 a0.Rate), .v (.int .i64 a0.Amount), .v (.int .i64 a0.Per), .v (.bool a0.HasMost), .v (.int .i64 a0.Most), .v (.bool a0.HasLeast), .v (.int .i64 a0.Least)])]⟩ _ _
  refine WC.seq ?_
  refine WC.region ?_
  refine WL.run tbOk 2 (acc := []) rfl (by repeat' (first | exact trivial | assumption | intro _ | apply And.intro | (refine not_i ?_; assumption) | (refine and_l ?_; assumption) | (refine and_i ?_ ?_) | decide | omega | (simp [vcs]; done) | (simp only [List.length_map]; omega))) ?_
  refine WL.nil ?_
  refine WQ.thenNormal ?_
  refine WC.seq ?_
  refine WC.seq ?_
  refine WC.region ?_
  refine WL.run tbOk 1 (acc := []) rfl (by repeat' (first | exact trivial | assumption | intro _ | apply And.intro | (refine not_i ?_; assumption) | (refine and_l ?_; assumption) | (refine and_i ?_ ?_) | decide | omega | (simp [vcs]; done) | (simp only [List.length_map]; omega))) ?_
  obtain ⟨x, hxx, h⟩ := bnd h
  refine WL.q [] rfl rfl rfl (q_idx tbOk rfl (by repeat' (first | exact trivial | assumption | intro _ | apply And.intro | (refine not_i ?_; assumption) | (refine and_l ?_; assumption) | (refine and_i ?_ ?_) | decide | omega | (simp [vcs]; done) | (simp only [List.length_map]; omega))) (by decide) (map_get (f := eStr) hxx)) ?_
  refine WL.run tbOk 1 (acc := []) rfl (by repeat' (first | exact trivial | assumption | intro _ | apply And.intro | (refine not_i ?_; assumption) | (refine and_l ?_; assumption) | (refine and_i ?_ ?_) | decide | omega | (simp [vcs]; done) | (simp only [List.length_map]; omega))) ?_
  obtain ⟨v, hvv, h⟩ := bnd h
  refine WL.call0 fn73 rfl rfl rfl rfl (by repeat' (first | exact trivial | assumption | intro _ | apply And.intro | (refine not_i ?_; assumption) | (refine and_l ?_; assumption) | (refine and_i ?_ ?_) | decide | omega | (simp [vcs]; done) | (simp only [List.length_map]; omega))) rfl (dutyParsePercentage_con hw hvv) ?_
  refine WL.run tbOk 5 (acc := []) rfl (by repeat' (first | exact trivial | assumption | intro _ | apply And.intro | (refine not_i ?_; assumption) | (refine and_l ?_; assumption) | (refine and_i ?_ ?_) | decide | omega | (simp [vcs]; done) | (simp only [List.length_map]; omega))) ?_
  refine WL.nil ?_
  refine WQ.thenNormal ?_
  refine WC.seq ?_
  refine WC.region ?_
  refine WL.run tbOk 1 (acc := []) rfl (by repeat' (first | exact trivial | assumption | intro _ | apply And.intro | (refine not_i ?_; assumption) | (refine and_l ?_; assumption) | (refine and_i ?_ ?_) | decide | omega | (simp [vcs]; done) | (simp only [List.length_map]; omega))) ?_
  refine WL.nil ?_
  refine WQ.thenNormal ?_
  refine WC.cond rfl (fun hc1 => ?_) (fun hc1 => ?_)
  · replace h := ite_t hc1 h
    refine WC.seq ?_
    refine WC.region ?_
    refine WL.run tbOk 5 (acc := []) rfl (by repeat' (first | exact trivial | assumption | intro _ | apply And.intro | (refine not_i ?_; assumption) | (refine and_l ?_; assumption) | (refine and_i ?_ ?_) | decide | omega | (simp [vcs]; done) | (simp only [List.length_map]; omega))) ?_
    refine WL.nil ?_
    refine WQ.thenNormal ?_
    refine WC.seq ?_
    refine WC.seq ?_
    refine WC.region ?_
    refine WL.run tbOk 1 (acc := []) rfl (by repeat' (first | exact trivial | assumption | intro _ | apply And.intro | (refine not_i ?_; assumption) | (refine and_l ?_; assumption) | (refine and_i ?_ ?_) | decide | omega | (simp [vcs]; done) | (simp only [List.length_map]; omega))) ?_
    refine WL.q [] rfl rfl rfl (q_ev tbOk (.v (.int .i64 (a1.length : Int))) rfl (by repeat' (first | exact trivial | assumption | intro _ | apply And.intro | (refine not_i ?_; assumption) | (refine and_l ?_; assumption) | (refine and_i ?_ ?_) | decide | omega | (simp [vcs]; done) | (simp only [List.length_map]; omega))) (by simp only [List.length_map])) ?_
    refine WL.run tbOk 3 (acc := []) rfl (by repeat' (first | exact trivial | assumption | intro _ | apply And.intro | (refine not_i ?_; assumption) | (refine and_l ?_; assumption) | (refine and_i ?_ ?_) | decide | omega | (simp [vcs]; done) | (simp only [List.length_map]; omega))) ?_
    obtain ⟨g1, h⟩ := grd h
    refine WL.gq [] rfl rfl rfl rfl (fun hg => q_idx tbOk rfl (by repeat' (first | exact trivial | assumption | intro _ | apply And.intro | (refine not_i ?_; assumption) | (refine and_l ?_; assumption) | (refine and_i ?_ ?_) | decide | omega | (simp [vcs]; done) | (simp only [List.length_map]; omega))) (g1 hg).1 (map_getD (f := eStr) (g1 hg).2 (g1 hg).1)) ?_
    refine WL.run tbOk 3 (acc := []) rfl (by repeat' (first | exact trivial | assumption | intro _ | apply And.intro | (refine not_i ?_; assumption) | (refine and_l ?_; assumption) | (refine and_i ?_ ?_) | decide | omega | (simp [vcs]; done) | (simp only [List.length_map]; omega))) ?_
    refine WL.nil ?_
    refine WQ.thenNormal ?_
    refine WC.cond rfl (fun hc2 => ?_) (fun hc2 => ?_)
    · replace h := ite_t hc2 h
      refine WC.seq ?_
      refine WC.region ?_
      refine WL.run tbOk 1 (acc := []) rfl (by repeat' (first | exact trivial | assumption | intro _ | apply And.intro | (refine not_i ?_; assumption) | (refine and_l ?_; assumption) | (refine and_i ?_ ?_) | decide | omega | (simp [vcs]; done) | (simp only [List.length_map]; omega))) ?_
      obtain ⟨g2, h⟩ := grd h
      refine WL.q [] rfl rfl rfl (q_ev tbOk (.v (.sl 1 ((a1.drop (1 : Int).toNat).map eStr))) rfl (by repeat' (first | exact trivial | assumption | intro _ | apply And.intro | (refine not_i ?_; assumption) | (refine and_l ?_; assumption) | (refine and_i ?_ ?_) | decide | omega | (simp [vcs]; done) | (simp only [List.length_map]; omega))) (by simp only [List.map_take, List.map_drop])) ?_
      refine WL.run tbOk 2 (acc := []) rfl (by repeat' (first | exact trivial | assumption | intro _ | apply And.intro | (refine not_i ?_; assumption) | (refine and_l ?_; assumption) | (refine and_i ?_ ?_) | decide | omega | (simp [vcs]; done) | (simp only [List.length_map]; omega))) ?_
      refine WL.nil ?_
      refine WQ.thenNormal ?_
      refine WC.ret ?_
      refine WQ.thenRet ?_
      refine WQ.thenRet ?_
      cases h
      exact WQ.rets tbOk (r := .tup [.v (.sl 1 ((a1.drop (1 : Int).toNat).map eStr)), .v (.bool true)]) hR [] (.inl rfl) rfl rfl (Le.tup (.cons (Le.refl _) (.cons (Le.refl _) .nil))) (by repeat' (first | exact trivial | refine ⟨rfl, ?_⟩)) rfl rfl rfl rfl
    · replace h := ite_f hc2 h
      refine WC.skip ?_
      refine WQ.thenNormal ?_
      refine WC.region ?_
      refine WL.run tbOk 1 (acc := []) rfl (by repeat' (first | exact trivial | assumption | intro _ | apply And.intro | (refine not_i ?_; assumption) | (refine and_l ?_; assumption) | (refine and_i ?_ ?_) | decide | omega | (simp [vcs]; done) | (simp only [List.length_map]; omega))) ?_
      obtain ⟨g3, h⟩ := grd h
      refine WL.q [] rfl rfl rfl (q_ev tbOk (.v (.sl 1 ((a1.drop (2 : Int).toNat).map eStr))) rfl (by repeat' (first | exact trivial | assumption | intro _ | apply And.intro | (refine not_i ?_; assumption) | (refine and_l ?_; assumption) | (refine and_i ?_ ?_) | decide | omega | (simp [vcs]; done) | (simp only [List.length_map]; omega))) (by simp only [List.map_take, List.map_drop])) ?_
      refine WL.run tbOk 1 (acc := []) rfl (by repeat' (first | exact trivial | assumption | intro _ | apply And.intro | (refine not_i ?_; assumption) | (refine and_l ?_; assumption) | (refine and_i ?_ ?_) | decide | omega | (simp [vcs]; done) | (simp only [List.length_map]; omega))) ?_
      refine WL.nil ?_
      refine WQ.thenNormal ?_
      refine WC.seq ?_
      refine WC.region ?_
      refine WL.run tbOk 1 (acc := []) rfl (by repeat' (first | exact trivial | assumption | intro _ | apply And.intro | (refine not_i ?_; assumption) | (refine and_l ?_; assumption) | (refine and_i ?_ ?_) | decide | omega | (simp [vcs]; done) | (simp only [List.length_map]; omega))) ?_
      obtain ⟨x2, hxx2, h⟩ := bnd h
      refine WL.q [] rfl rfl rfl (q_idx tbOk rfl (by repeat' (first | exact trivial | assumption | intro _ | apply And.intro | (refine not_i ?_; assumption) | (refine and_l ?_; assumption) | (refine and_i ?_ ?_) | decide | omega | (simp [vcs]; done) | (simp only [List.length_map]; omega))) (by decide) (map_get (f := eStr) hxx2)) ?_
      refine WL.run tbOk 1 (acc := []) rfl (by repeat' (first | exact trivial | assumption | intro _ | apply And.intro | (refine not_i ?_; assumption) | (refine and_l ?_; assumption) | (refine and_i ?_ ?_) | decide | omega | (simp [vcs]; done) | (simp only [List.length_map]; omega))) ?_
      obtain ⟨v2, hvv2, h⟩ := bnd h
      refine WL.call0 fn74 rfl rfl rfl rfl (by repeat' (first | exact trivial | assumption | intro _ | apply And.intro | (refine not_i ?_; assumption) | (refine and_l ?_; assumption) | (refine and_i ?_ ?_) | decide | omega | (simp [vcs]; done) | (simp only [List.length_map]; omega))) rfl (cutS_con hw hvv2) ?_
      refine WL.run tbOk 7 (acc := []) rfl (by repeat' (first | exact trivial | assumption | intro _ | apply And.intro | (refine not_i ?_; assumption) | (refine and_l ?_; assumption) | (refine and_i ?_ ?_) | decide | omega | (simp [vcs]; done) | (simp only [List.length_map]; omega))) ?_
      refine WL.nil ?_
      refine WQ.thenNormal ?_
      refine WC.seq ?_
      refine WC.region ?_
      refine WL.run tbOk 1 (acc := []) rfl (by repeat' (first | exact trivial | assumption | intro _ | apply And.intro | (refine not_i ?_; assumption) | (refine and_l ?_; assumption) | (refine and_i ?_ ?_) | decide | omega | (simp [vcs]; done) | (simp only [List.length_map]; omega))) ?_
      obtain ⟨v3, hvv3, h⟩ := bnd h
      refine WL.call0 fn75 rfl rfl rfl rfl (by repeat' (first | exact trivial | assumption | intro _ | apply And.intro | (refine not_i ?_; assumption) | (refine and_l ?_; assumption) | (refine and_i ?_ ?_) | decide | omega | (simp [vcs]; done) | (simp only [List.length_map]; omega))) rfl (moneyParse_con hw hvv3) ?_
      refine WL.run tbOk 5 (acc := []) rfl (by repeat' (first | exact trivial | assumption | intro _ | apply And.intro | (refine not_i ?_; assumption) | (refine and_l ?_; assumption) | (refine and_i ?_ ?_) | decide | omega | (simp [vcs]; done) | (simp only [List.length_map]; omega))) ?_
      refine WL.nil ?_
      refine WQ.thenNormal ?_
      refine WC.seq ?_
      refine WC.region ?_
      refine WL.run tbOk 1 (acc := []) rfl (by repeat' (first | exact trivial | assumption | intro _ | apply And.intro | (refine not_i ?_; assumption) | (refine and_l ?_; assumption) | (refine and_i ?_ ?_) | decide | omega | (simp [vcs]; done) | (simp only [List.length_map]; omega))) ?_
      obtain ⟨v4, hvv4, h⟩ := bnd h
      refine WL.call0 fn76 rfl rfl rfl rfl (by repeat' (first | exact trivial | assumption | intro _ | apply And.intro | (refine not_i ?_; assumption) | (refine and_l ?_; assumption) | (refine and_i ?_ ?_) | decide | omega | (simp [vcs]; done) | (simp only [List.length_map]; omega))) rfl (atoiS_con hw hvv4) ?_
      refine WL.run tbOk 5 (acc := []) rfl (by repeat' (first | exact trivial | assumption | intro _ | apply And.intro | (refine not_i ?_; assumption) | (refine and_l ?_; assumption) | (refine and_i ?_ ?_) | decide | omega | (simp [vcs]; done) | (simp only [List.length_map]; omega))) ?_
      refine WL.nil ?_
      refine WQ.thenNormal ?_
      refine WC.seq ?_
      refine WC.region ?_
      refine WL.run tbOk 10 (acc := []) rfl (by repeat' (first | exact trivial | assumption | intro _ | apply And.intro | (refine not_i ?_; assumption) | (refine and_l ?_; assumption) | (refine and_i ?_ ?_) | decide | omega | (simp [vcs]; done) | (simp only [List.length_map]; omega))) ?_
      refine WL.nil ?_
      refine WQ.thenNormal ?_
      refine WC.seq ?_
      refine WC.order mixed ?_
      refine WR.run tbOk 1 (acc := []) rfl (by repeat' (first | exact trivial | assumption | intro _ | apply And.intro | (refine not_i ?_; assumption) | (refine and_l ?_; assumption) | (refine and_i ?_ ?_) | decide | omega | (simp [vcs]; done) | (simp only [List.length_map]; omega))) ?_
      obtain ⟨g4, h⟩ := grd h
      refine WR.q [] rfl rfl rfl (q_ev tbOk (.v (.sl 1 (((a1.drop (2 : Int).toNat).drop (1 : Int).toNat).map eStr))) rfl (by repeat' (first | exact trivial | assumption | intro _ | apply And.intro | (refine not_i ?_; assumption) | (refine and_l ?_; assumption) | (refine and_i ?_ ?_) | decide | omega | (simp [vcs]; done) | (simp only [List.length_map]; omega))) (by simp only [List.map_take, List.map_drop])) ?_
      refine WR.run tbOk 8 (acc := []) rfl (by repeat' (first | exact trivial | assumption | intro _ | apply And.intro | (refine not_i ?_; assumption) | (refine and_l ?_; assumption) | (refine and_i ?_ ?_) | decide | omega | (simp [vcs]; done) | (simp only [List.length_map]; omega))) ?_
      refine WR.nil (by kernel_rfl) ?_
      refine WQ.thenNormal ?_
      refine WC.ret ?_
      cases h
      exact WQ.rets tbOk (r := .tup [.v (.sl 1 (((a1.drop (2 : Int).toNat).drop (1 : Int).toNat).map eStr)), .v (.bool (bif (v3.2 == (0 : Int)) then v4.2 else false))]) hR [] (.inl rfl) rfl rfl (Le.tup (.cons (Le.refl _) (.cons (Le.refl _) .nil))) (by repeat' (first | exact trivial | refine ⟨rfl, ?_⟩)) rfl rfl rfl rfl
  · replace h := ite_f hc1 h
    refine WC.skip ?_
    refine WQ.thenNormal ?_
    refine WC.seq ?_
    refine WC.region ?_
    refine WL.run tbOk 1 (acc := []) rfl (by repeat' (first | exact trivial | assumption | intro _ | apply And.intro | (refine not_i ?_; assumption) | (refine and_l ?_; assumption) | (refine and_i ?_ ?_) | decide | omega | (simp [vcs]; done) | (simp only [List.length_map]; omega))) ?_
    obtain ⟨x3, hxx3, h⟩ := bnd h
    refine WL.q [] rfl rfl rfl (q_idx tbOk rfl (by repeat' (first | exact trivial | assumption | intro _ | apply And.intro | (refine not_i ?_; assumption) | (refine and_l ?_; assumption) | (refine and_i ?_ ?_) | decide | omega | (simp [vcs]; done) | (simp only [List.length_map]; omega))) (by decide) (map_get (f := eStr) hxx3)) ?_
    refine WL.run tbOk 1 (acc := []) rfl (by repeat' (first | exact trivial | assumption | intro _ | apply And.intro | (refine not_i ?_; assumption) | (refine and_l ?_; assumption) | (refine and_i ?_ ?_) | decide | omega | (simp [vcs]; done) | (simp only [List.length_map]; omega))) ?_
    obtain ⟨v5, hvv5, h⟩ := bnd h
    refine WL.call0 fn74 rfl rfl rfl rfl (by repeat' (first | exact trivial | assumption | intro _ | apply And.intro | (refine not_i ?_; assumption) | (refine and_l ?_; assumption) | (refine and_i ?_ ?_) | decide | omega | (simp [vcs]; done) | (simp only [List.length_map]; omega))) rfl (cutS_con hw hvv5) ?_
    refine WL.run tbOk 7 (acc := []) rfl (by repeat' (first | exact trivial | assumption | intro _ | apply And.intro | (refine not_i ?_; assumption) | (refine and_l ?_; assumption) | (refine and_i ?_ ?_) | decide | omega | (simp [vcs]; done) | (simp only [List.length_map]; omega))) ?_
    refine WL.nil ?_
    refine WQ.thenNormal ?_
    refine WC.seq ?_
    refine WC.region ?_
    refine WL.run tbOk 1 (acc := []) rfl (by repeat' (first | exact trivial | assumption | intro _ | apply And.intro | (refine not_i ?_; assumption) | (refine and_l ?_; assumption) | (refine and_i ?_ ?_) | decide | omega | (simp [vcs]; done) | (simp only [List.length_map]; omega))) ?_
    obtain ⟨v6, hvv6, h⟩ := bnd h
    refine WL.call0 fn75 rfl rfl rfl rfl (by repeat' (first | exact trivial | assumption | intro _ | apply And.intro | (refine not_i ?_; assumption) | (refine and_l ?_; assumption) | (refine and_i ?_ ?_) | decide | omega | (simp [vcs]; done) | (simp only [List.length_map]; omega))) rfl (moneyParse_con hw hvv6) ?_
    refine WL.run tbOk 5 (acc := []) rfl (by repeat' (first | exact trivial | assumption | intro _ | apply And.intro | (refine not_i ?_; assumption) | (refine and_l ?_; assumption) | (refine and_i ?_ ?_) | decide | omega | (simp [vcs]; done) | (simp only [List.length_map]; omega))) ?_
    refine WL.nil ?_
    refine WQ.thenNormal ?_
    refine WC.seq ?_
    refine WC.region ?_
    refine WL.run tbOk 1 (acc := []) rfl (by repeat' (first | exact trivial | assumption | intro _ | apply And.intro | (refine not_i ?_; assumption) | (refine and_l ?_; assumption) | (refine and_i ?_ ?_) | decide | omega | (simp [vcs]; done) | (simp only [List.length_map]; omega))) ?_
    obtain ⟨v7, hvv7, h⟩ := bnd h
    refine WL.call0 fn76 rfl rfl rfl rfl (by repeat' (first | exact trivial | assumption | intro _ | apply And.intro | (refine not_i ?_; assumption) | (refine and_l ?_; assumption) | (refine and_i ?_ ?_) | decide | omega | (simp [vcs]; done) | (simp only [List.length_map]; omega))) rfl (atoiS_con hw hvv7) ?_
    refine WL.run tbOk 5 (acc := []) rfl (by repeat' (first | exact trivial | assumption | intro _ | apply And.intro | (refine not_i ?_; assumption) | (refine and_l ?_; assumption) | (refine and_i ?_ ?_) | decide | omega | (simp [vcs]; done) | (simp only [List.length_map]; omega))) ?_
    refine WL.nil ?_
    refine WQ.thenNormal ?_
    refine WC.seq ?_
    refine WC.region ?_
    refine WL.run tbOk 10 (acc := []) rfl (by repeat' (first | exact trivial | assumption | intro _ | apply And.intro | (refine not_i ?_; assumption) | (refine and_l ?_; assumption) | (refine and_i ?_ ?_) | decide | omega | (simp [vcs]; done) | (simp only [List.length_map]; omega))) ?_
    refine WL.nil ?_
    refine WQ.thenNormal ?_
    refine WC.seq ?_
    refine WC.order mixed ?_
    refine WR.run tbOk 1 (acc := []) rfl (by repeat' (first | exact trivial | assumption | intro _ | apply And.intro | (refine not_i ?_; assumption) | (refine and_l ?_; assumption) | (refine and_i ?_ ?_) | decide | omega | (simp [vcs]; done) | (simp only [List.length_map]; omega))) ?_
    obtain ⟨g5, h⟩ := grd h
    refine WR.q [] rfl rfl rfl (q_ev tbOk (.v (.sl 1 ((a1.drop (1 : Int).toNat).map eStr))) rfl (by repeat' (first | exact trivial | assumption | intro _ | apply And.intro | (refine not_i ?_; assumption) | (refine and_l ?_; assumption) | (refine and_i ?_ ?_) | decide | omega | (simp [vcs]; done) | (simp only [List.length_map]; omega))) (by simp only [List.map_take, List.map_drop])) ?_
    refine WR.run tbOk 8 (acc := []) rfl (by repeat' (first | exact trivial | assumption | intro _ | apply And.intro | (refine not_i ?_; assumption) | (refine and_l ?_; assumption) | (refine and_i ?_ ?_) | decide | omega | (simp [vcs]; done) | (simp only [List.length_map]; omega))) ?_
    refine WR.nil (by kernel_rfl) ?_
    refine WQ.thenNormal ?_
    refine WC.ret ?_
    cases h
    exact WQ.rets tbOk (r := .tup [.v (.sl 1 ((a1.drop (1 : Int).toNat).map eStr)), .v (.bool (bif (v6.2 == (0 : Int)) then v7.2 else false))]) hR [] (.inl rfl) rfl rfl (Le.tup (.cons (Le.refl _) (.cons (Le.refl _) .nil))) (by repeat' (first | exact trivial | refine ⟨rfl, ?_⟩)) rfl rfl rfl rfl

theorem dutyParseBound_con {wg : World} (hw : WG wg) {d : ApiDuty} {name : Str} {text : Str} {r : Bool × ApiDuty} (h : dutyParseBound d name text = some r) : Con Tryz.prog wg gl 58 [.p 0 0, .v (.str name), .v (.str text)] [(0, .blk 23 [.v (.int .i64 d.Rate), .v (.int .i64 d.Amount), .v (.int .i64 d.Per), .v (.bool d.HasMost), .v (.int .i64 d.Most), .v (.bool d.HasLeast), .v (.int .i64 d.Least)])] (.v (.bool r.1)) [(0, .blk 23 [.v (.int .i64 r.2.Rate), .v (.int .i64 r.2.Amount), .v (.int .i64 r.2.Per), .v (.bool r.2.HasMost), .v (.int .i64 r.2.Most), .v (.bool r.2.HasLeast), .v (.int .i64 r.2.Least)])] := by
  unfold dutyParseBound at h
  refine con_of_WC (S := slotsOf 0 _) Tryz.func58 rfl Tryz.ntmps58 rfl (fun t x hx => (slotsOf_get hx).2) ?_
  intro F L w ρ0 R hR
  show WC _ _ _ ⟨[(0, .p 0 0), (1, .v (.str name)), (2, .v (.str text))], [(0, .blk 23 [.v (.int .i64 d.Rate), .v (.int .i64 d.Amount), .v (.int .i64 d.Per), .v (.bool d.HasMost), .v (.int .i64 d.Most), .v (.bool d.HasLeast), .v (.int .i64 d.Least)])]⟩ _ _
  refine WC.seq ?_
  refine WC.region ?_
  refine WL.run tbOk 1 (acc := []) rfl (by repeat' (first | exact trivial | assumption | intro _ | apply And.intro | (refine not_i ?_; assumption) | (refine and_l ?_; assumption) | (refine and_i ?_ ?_) | decide | omega | (simp [vcs]; done) | (simp only [List.length_map]; omega))) ?_
  refine WL.nil ?_
  refine WQ.thenNormal ?_
  refine WC.seq ?_
  refine WC.region ?_
  refine WL.run tbOk 1 (acc := []) rfl (by repeat' (first | exact trivial | assumption | intro _ | apply And.intro | (refine not_i ?_; assumption) | (refine and_l ?_; assumption) | (refine and_i ?_ ?_) | decide | omega | (simp [vcs]; done) | (simp only [List.length_map]; omega))) ?_
  obtain ⟨v, hvv, h⟩ := bnd h
  refine WL.call0 fn73 rfl rfl rfl rfl (by repeat' (first | exact trivial | assumption | intro _ | apply And.intro | (refine not_i ?_; assumption) | (refine and_l ?_; assumption) | (refine and_i ?_ ?_) | decide | omega | (simp [vcs]; done) | (simp only [List.length_map]; omega))) rfl (dutyParsePercentage_con hw hvv) ?_
  refine WL.run tbOk 5 (acc := []) rfl (by repeat' (first | exact trivial | assumption | intro _ | apply And.intro | (refine not_i ?_; assumption) | (refine and_l ?_; assumption) | (refine and_i ?_ ?_) | decide | omega | (simp [vcs]; done) | (simp only [List.length_map]; omega))) ?_
  refine WL.nil ?_
  refine WQ.thenNormal ?_
  refine WC.seq ?_
  refine WC.seq ?_
  refine WC.region ?_
  refine WL.run tbOk 1 (acc := []) rfl (by repeat' (first | exact trivial | assumption | intro _ | apply And.intro | (refine not_i ?_; assumption) | (refine and_l ?_; assumption) | (refine and_i ?_ ?_) | decide | omega | (simp [vcs]; done) | (simp only [List.length_map]; omega))) ?_
  refine WL.nil ?_
  refine WQ.thenNormal ?_
  refine WC.block ?_
  refine WC.seq ?_
  refine WC.region ?_
  refine WL.run tbOk 2 (acc := []) rfl (by repeat' (first | exact trivial | assumption | intro _ | apply And.intro | (refine not_i ?_; assumption) | (refine and_l ?_; assumption) | (refine and_i ?_ ?_) | decide | omega | (simp [vcs]; done) | (simp only [List.length_map]; omega))) ?_
  refine WL.nil ?_
  refine WQ.thenNormal ?_
  refine WC.cond rfl (fun hc1 => ?_) (fun hc1 => ?_)
  · replace h := ite_t hc1 h
    refine WC.region ?_
    refine WL.run tbOk 9 (acc := []) rfl (by repeat' (first | exact trivial | assumption | intro _ | apply And.intro | (refine not_i ?_; assumption) | (refine and_l ?_; assumption) | (refine and_i ?_ ?_) | decide | omega | (simp [vcs]; done) | (simp only [List.length_map]; omega))) ?_
    refine WL.nil ?_
    refine WQ.blockNormal ?_
    refine WQ.thenNormal ?_
    refine WC.seq ?_
    refine WC.region ?_
    refine WL.run tbOk 2 (acc := []) rfl (by repeat' (first | exact trivial | assumption | intro _ | apply And.intro | (refine not_i ?_; assumption) | (refine and_l ?_; assumption) | (refine and_i ?_ ?_) | decide | omega | (simp [vcs]; done) | (simp only [List.length_map]; omega))) ?_
    refine WL.nil ?_
    refine WQ.thenNormal ?_
    refine WC.ret ?_
    cases h
    exact WQ.rets tbOk hR [] (.inl rfl) rfl rfl (Le.refl _) (by repeat' (first | exact trivial | refine ⟨rfl, ?_⟩)) rfl rfl rfl rfl
  · replace h := ite_f hc1 h
    refine WC.seq ?_
    refine WC.region ?_
    refine WL.run tbOk 2 (acc := []) rfl (by repeat' (first | exact trivial | assumption | intro _ | apply And.intro | (refine not_i ?_; assumption) | (refine and_l ?_; assumption) | (refine and_i ?_ ?_) | decide | omega | (simp [vcs]; done) | (simp only [List.length_map]; omega))) ?_
    refine WL.nil ?_
    refine WQ.thenNormal ?_
    refine WC.cond rfl (fun hc2 => ?_) (fun hc2 => ?_)
    · replace h := ite_t hc2 h
      refine WC.region ?_
      refine WL.run tbOk 9 (acc := []) rfl (by repeat' (first | exact trivial | assumption | intro _ | apply And.intro | (refine not_i ?_; assumption) | (refine and_l ?_; assumption) | (refine and_i ?_ ?_) | decide | omega | (simp [vcs]; done) | (simp only [List.length_map]; omega))) ?_
      refine WL.nil ?_
      refine WQ.blockNormal ?_
      refine WQ.thenNormal ?_
      refine WC.seq ?_
      refine WC.region ?_
      refine WL.run tbOk 2 (acc := []) rfl (by repeat' (first | exact trivial | assumption | intro _ | apply And.intro | (refine not_i ?_; assumption) | (refine and_l ?_; assumption) | (refine and_i ?_ ?_) | decide | omega | (simp [vcs]; done) | (simp only [List.length_map]; omega))) ?_
      refine WL.nil ?_
      refine WQ.thenNormal ?_
      refine WC.ret ?_
      cases h
      exact WQ.rets tbOk hR [] (.inl rfl) rfl rfl (Le.refl _) (by repeat' (first | exact trivial | refine ⟨rfl, ?_⟩)) rfl rfl rfl rfl
    · replace h := ite_f hc2 h
      refine WC.seq ?_
      refine WC.region ?_
      refine WL.run tbOk 1 (acc := []) rfl (by repeat' (first | exact trivial | assumption | intro _ | apply And.intro | (refine not_i ?_; assumption) | (refine and_l ?_; assumption) | (refine and_i ?_ ?_) | decide | omega | (simp [vcs]; done) | (simp only [List.length_map]; omega))) ?_
      refine WL.nil ?_
      refine WQ.thenNormal ?_
      refine WC.ret ?_
      refine WQ.blockRet ?_
      refine WQ.thenRet ?_
      cases h
      exact WQ.rets tbOk hR [] (.inl rfl) rfl rfl (Le.refl _) (by repeat' (first | exact trivial | refine ⟨rfl, ?_⟩)) rfl rfl rfl rfl

theorem dutyParseWords_con {wg : World} (hw : WG wg) {words : (List Str)} {r : ApiDuty × Bool} (h : dutyParseWords words = some r) : Con Tryz.prog wg gl 32 [.v (.sl 1 (words.map eStr))] [] (.tup [.v (.agg [.int .i64 r.1.Rate, .int .i64 r.1.Amount, .int .i64 r.1.Per, .bool r.1.HasMost, .int .i64 r.1.Most, .bool r.1.HasLeast, .int .i64 r.1.Least]), .v (.bool r.2)]) [] := by
  unfold dutyParseWords at h
  refine con_of_WC (S := slotsOf 0 _) Tryz.func32 rfl Tryz.ntmps32 rfl (fun t x hx => (slotsOf_get hx).2) ?_
  intro F L w ρ0 R hR
  show WC _ _ _ ⟨[(0, .v (.sl 1 (words.map eStr)))], []⟩ _ _
  refine WC.seq ?_
  refine WC.region ?_
  refine WL.run tbOk 2 (acc := []) rfl (by repeat' (first | exact trivial | assumption | intro _ | apply And.intro | (refine not_i ?_; assumption) | (refine and_l ?_; assumption) | (refine and_i ?_ ?_) | decide | omega | (simp [vcs]; done) | (simp only [List.length_map]; omega))) ?_
  refine WL.nil ?_
  refine WQ.thenNormal ?_
  refine WC.seq ?_
  refine WC.region ?_
  refine WL.run tbOk 1 (acc := []) rfl (by repeat' (first | exact trivial | assumption | intro _ | apply And.intro | (refine not_i ?_; assumption) | (refine and_l ?_; assumption) | (refine and_i ?_ ?_) | decide | omega | (simp [vcs]; done) | (simp only [List.length_map]; omega))) ?_
  refine WL.nil ?_
  refine WQ.thenNormal ?_
  refine WC.seq ?_
  refine WC.region ?_
  refine WL.run tbOk 1 (acc := []) rfl (by repeat' (first | exact trivial | assumption | intro _ | apply And.intro | (refine not_i ?_; assumption) | (refine and_l ?_; assumption) | (refine and_i ?_ ?_) | decide | omega | (simp [vcs]; done) | (simp only [List.length_map]; omega))) ?_
  obtain ⟨v, hvv, h⟩ := bnd h
  refine WL.callO [(0, 4)] [(0, 4)] [4] fn57 rfl rfl rfl rfl (by repeat' (first | exact trivial | assumption | intro _ | apply And.intro | (refine not_i ?_; assumption) | (refine and_l ?_; assumption) | (refine and_i ?_ ?_) | decide | omega | (simp [vcs]; done) | (simp only [List.length_map]; omega))) (dutyParseTerms_con hw hvv) rfl rfl (by repeat' (first | exact trivial | refine ⟨rfl, ?_⟩)) rfl rfl rfl rfl rfl rfl ?_
  refine WL.run tbOk 5 (acc := []) rfl (by repeat' (first | exact trivial | assumption | intro _ | apply And.intro | (refine not_i ?_; assumption) | (refine and_l ?_; assumption) | (refine and_i ?_ ?_) | decide | omega | (simp [vcs]; done) | (simp only [List.length_map]; omega))) ?_
  refine WL.nil ?_
  refine WQ.thenNormal ?_
  refine WC.seq ?_
  refine WC.seq ?_
  refine WC.region ?_
  refine WL.run tbOk 1 (acc := []) rfl (by repeat' (first | exact trivial | assumption | intro _ | apply And.intro | (refine not_i ?_; assumption) | (refine and_l ?_; assumption) | (refine and_i ?_ ?_) | decide | omega | (simp [vcs]; done) | (simp only [List.length_map]; omega))) ?_
  refine WL.q [] rfl rfl rfl (q_ev tbOk (.v (.int .i64 (v.1.length : Int))) rfl (by repeat' (first | exact trivial | assumption | intro _ | apply And.intro | (refine not_i ?_; assumption) | (refine and_l ?_; assumption) | (refine and_i ?_ ?_) | decide | omega | (simp [vcs]; done) | (simp only [List.length_map]; omega))) (by simp only [List.length_map])) ?_
  refine WL.nil ?_
  refine WQ.thenNormal ?_
  refine WC.block ?_
  refine WC.seq ?_
  refine WC.block ?_
  refine WC.seq ?_
  refine WC.block ?_
  refine WC.seqCut (X := (List Str) × Bool × Int × Int × Int × Bool × Int × Bool × Int) (fun gG => ⟨[(0, .v (.sl 1 (gG.1.map eStr))), (5, .v (.bool gG.2.1)), (4, .p 4 0), (2, .p 2 0)], [(2, .blk 23 [.v (.int .i64 0), .v (.int .i64 0), .v (.int .i64 0), .v (.bool false), .v (.int .i64 0), .v (.bool false), .v (.int .i64 0)]), (4, .blk 23 [.v (.int .i64 gG.2.2.1), .v (.int .i64 gG.2.2.2.1), .v (.int .i64 gG.2.2.2.2.1), .v (.bool gG.2.2.2.2.2.1), .v (.int .i64 gG.2.2.2.2.2.2.1), .v (.bool gG.2.2.2.2.2.2.2.1), .v (.int .i64 gG.2.2.2.2.2.2.2.2)])]⟩) (fun gG => dutyParseWords_j1 gG.1 gG.2.1 gG.2.2.1 gG.2.2.2.1 gG.2.2.2.2.1 gG.2.2.2.2.2.1 gG.2.2.2.2.2.2.1 gG.2.2.2.2.2.2.2.1 gG.2.2.2.2.2.2.2.2 = some r) ?_ ?_
  · refine WC.block ?_
    refine WC.seq ?_
    refine WC.block ?_
    refine WC.seq ?_
    refine WC.seq ?_
    refine WC.seq ?_
    refine WC.region ?_
    refine WL.run tbOk 2 (acc := []) rfl (by repeat' (first | exact trivial | assumption | intro _ | apply And.intro | (refine not_i ?_; assumption) | (refine and_l ?_; assumption) | (refine and_i ?_ ?_) | decide | omega | (simp [vcs]; done) | (simp only [List.length_map]; omega))) ?_
    refine WL.nil ?_
    refine WQ.thenNormal ?_
    refine WC.cond rfl (fun hc1 => ?_) (fun hc1 => ?_)
    · replace h := ite_t hc1 h
      refine WC.exit ?_
      refine WQ.thenExit ?_
      refine WQ.thenExit ?_
      refine WQ.blockExit ?_
      refine WQ.thenNormal ?_
      refine WC.seq ?_
      refine WC.order mixed ?_
      refine WR.run tbOk 1 (acc := []) rfl (by repeat' (first | exact trivial | assumption | intro _ | apply And.intro | (refine not_i ?_; assumption) | (refine and_l ?_; assumption) | (refine and_i ?_ ?_) | decide | omega | (simp [vcs]; done) | (simp only [List.length_map]; omega))) ?_
      obtain ⟨x3, hxx3, h⟩ := bnd h
      refine WR.q [] rfl rfl rfl (q_idx tbOk rfl (by repeat' (first | exact trivial | assumption | intro _ | apply And.intro | (refine not_i ?_; assumption) | (refine and_l ?_; assumption) | (refine and_i ?_ ?_) | decide | omega | (simp [vcs]; done) | (simp only [List.length_map]; omega))) (by decide) (map_get (f := eStr) hxx3)) ?_
      refine WR.run tbOk 2 (acc := []) rfl (by repeat' (first | exact trivial | assumption | intro _ | apply And.intro | (refine not_i ?_; assumption) | (refine and_l ?_; assumption) | (refine and_i ?_ ?_) | decide | omega | (simp [vcs]; done) | (simp only [List.length_map]; omega))) ?_
      obtain ⟨x4, hxx4, h⟩ := bnd h
      refine WR.q [] rfl rfl rfl (q_idx tbOk rfl (by repeat' (first | exact trivial | assumption | intro _ | apply And.intro | (refine not_i ?_; assumption) | (refine and_l ?_; assumption) | (refine and_i ?_ ?_) | decide | omega | (simp [vcs]; done) | (simp only [List.length_map]; omega))) (by decide) (map_get (f := eStr) hxx4)) ?_
      refine WR.run tbOk 1 (acc := []) rfl (by repeat' (first | exact trivial | assumption | intro _ | apply And.intro | (refine not_i ?_; assumption) | (refine and_l ?_; assumption) | (refine and_i ?_ ?_) | decide | omega | (simp [vcs]; done) | (simp only [List.length_map]; omega))) ?_
      obtain ⟨v3, hvv3, h⟩ := bnd h
      refine WR.callO [(0, 4)] [(0, 4)] [4] fn58 rfl rfl rfl rfl (by repeat' (first | exact trivial | assumption | intro _ | apply And.intro | (refine not_i ?_; assumption) | (refine and_l ?_; assumption) | (refine and_i ?_ ?_) | decide | omega | (simp [vcs]; done) | (simp only [List.length_map]; omega))) (dutyParseBound_con hw hvv3) rfl rfl (by repeat' (first | exact trivial | refine ⟨rfl, ?_⟩)) rfl rfl rfl rfl rfl rfl ?_
      refine WR.run tbOk 4 (acc := []) rfl (by repeat' (first | exact trivial | assumption | intro _ | apply And.intro | (refine not_i ?_; assumption) | (refine and_l ?_; assumption) | (refine and_i ?_ ?_) | decide | omega | (simp [vcs]; done) | (simp only [List.length_map]; omega))) ?_
      refine WR.nil (by kernel_rfl) ?_
      refine WQ.thenNormal ?_
      refine WC.region ?_
      refine WL.run tbOk 1 (acc := []) rfl (by repeat' (first | exact trivial | assumption | intro _ | apply And.intro | (refine not_i ?_; assumption) | (refine and_l ?_; assumption) | (refine and_i ?_ ?_) | decide | omega | (simp [vcs]; done) | (simp only [List.length_map]; omega))) ?_
      obtain ⟨g1, h⟩ := grd h
      refine WL.q [] rfl rfl rfl (q_ev tbOk (.v (.sl 1 ((v.1.drop (2 : Int).toNat).map eStr))) rfl (by repeat' (first | exact trivial | assumption | intro _ | apply And.intro | (refine not_i ?_; assumption) | (refine and_l ?_; assumption) | (refine and_i ?_ ?_) | decide | omega | (simp [vcs]; done) | (simp only [List.length_map]; omega))) (by simp only [List.map_take, List.map_drop])) ?_
      refine WL.run tbOk 1 (acc := []) rfl (by repeat' (first | exact trivial | assumption | intro _ | apply And.intro | (refine not_i ?_; assumption) | (refine and_l ?_; assumption) | (refine and_i ?_ ?_) | decide | omega | (simp [vcs]; done) | (simp only [List.length_map]; omega))) ?_
      refine WL.nil ?_
      refine WQ.blockNormal ?_
      exact WQ.cut [] ((v.1.drop (2 : Int).toNat), (bif v3.1 then v.2.1 else false), v3.2.Rate, v3.2.Amount, v3.2.Per, v3.2.HasMost, v3.2.Most, v3.2.HasLeast, v3.2.Least) ⟨(by repeat' (first | exact trivial | refine ⟨rfl, ?_⟩)), (by repeat' (first | exact trivial | refine ⟨rfl, ?_⟩)), rfl, rfl, rfl, rfl⟩ h
    · replace h := ite_f hc1 h
      refine WC.skip ?_
      refine WQ.thenNormal ?_
      refine WC.seq ?_
      refine WC.seq ?_
      refine WC.region ?_
      refine WL.run tbOk 2 (acc := []) rfl (by repeat' (first | exact trivial | assumption | intro _ | apply And.intro | (refine not_i ?_; assumption) | (refine and_l ?_; assumption) | (refine and_i ?_ ?_) | decide | omega | (simp [vcs]; done) | (simp only [List.length_map]; omega))) ?_
      refine WL.nil ?_
      refine WQ.thenNormal ?_
      refine WC.cond rfl (fun hc2 => ?_) (fun hc2 => ?_)
      · replace h := ite_t hc2 h
        refine WC.exit ?_
        refine WQ.thenExit ?_
        refine WQ.thenExit ?_
        refine WQ.blockPass rfl ?_
        refine WQ.thenExit ?_
        refine WQ.blockExit ?_
        exact WQ.cut [] (v.1, v.2.1, v.2.2.Rate, v.2.2.Amount, v.2.2.Per, v.2.2.HasMost, v.2.2.Most, v.2.2.HasLeast, v.2.2.Least) ⟨(by repeat' (first | exact trivial | refine ⟨rfl, ?_⟩)), (by repeat' (first | exact trivial | refine ⟨rfl, ?_⟩)), rfl, rfl, rfl, rfl⟩ h
      · replace h := ite_f hc2 h
        refine WC.skip ?_
        refine WQ.thenNormal ?_
        refine WC.seq ?_
        refine WC.region ?_
        refine WL.run tbOk 2 (acc := []) rfl (by repeat' (first | exact trivial | assumption | intro _ | apply And.intro | (refine not_i ?_; assumption) | (refine and_l ?_; assumption) | (refine and_i ?_ ?_) | decide | omega | (simp [vcs]; done) | (simp only [List.length_map]; omega))) ?_
        refine WL.nil ?_
        refine WQ.thenNormal ?_
        refine WC.cond rfl (fun hc3 => ?_) (fun hc3 => ?_)
        · replace h := ite_t hc3 h
          refine WC.exit ?_
          refine WQ.thenExit ?_
          refine WQ.blockPass rfl ?_
          refine WQ.thenExit ?_
          refine WQ.blockPass rfl ?_
          refine WQ.thenExit ?_
          refine WQ.blockExit ?_
          refine WQ.thenNormal ?_
          refine WC.exit ?_
          refine WQ.blockPass rfl ?_
          refine WQ.thenExit ?_
          refine WQ.blockExit ?_
          refine WQ.thenNormal ?_
          refine WC.seq ?_
          refine WC.region ?_
          refine WL.run tbOk 4 (acc := []) rfl (by repeat' (first | exact trivial | assumption | intro _ | apply And.intro | (refine not_i ?_; assumption) | (refine and_l ?_; assumption) | (refine and_i ?_ ?_) | decide | omega | (simp [vcs]; done) | (simp only [List.length_map]; omega))) ?_
          refine WL.nil ?_
          refine WQ.thenNormal ?_
          refine WC.ret ?_
          cases h
          exact WQ.rets tbOk (r := .tup [.v (.agg [.int .i64 v.2.2.Rate, .int .i64 v.2.2.Amount, .int .i64 v.2.2.Per, .bool v.2.2.HasMost, .int .i64 v.2.2.Most, .bool v.2.2.HasLeast, .int .i64 v.2.2.Least]), .v (.bool v.2.1)]) hR [] (.inl rfl) rfl rfl (Le.tup (.cons (Le.refl _) (.cons (Le.refl _) .nil))) (by repeat' (first | exact trivial | refine ⟨rfl, ?_⟩)) rfl rfl rfl rfl
        · replace h := ite_f hc3 h
          refine WC.skip ?_
          refine WQ.thenNormal ?_
          refine WC.exit ?_
          refine WQ.blockPass rfl ?_
          refine WQ.thenExit ?_
          refine WQ.blockPass rfl ?_
          refine WQ.thenExit ?_
          refine WQ.blockPass rfl ?_
          refine WQ.thenExit ?_
          refine WQ.blockExit ?_
          refine WQ.thenNormal ?_
          refine WC.seq ?_
          refine WC.region ?_
          refine WL.run tbOk 1 (acc := []) rfl (by repeat' (first | exact trivial | assumption | intro _ | apply And.intro | (refine not_i ?_; assumption) | (refine and_l ?_; assumption) | (refine and_i ?_ ?_) | decide | omega | (simp [vcs]; done) | (simp only [List.length_map]; omega))) ?_
          refine WL.nil ?_
          refine WQ.thenNormal ?_
          refine WC.exit ?_
          refine WQ.blockExit ?_
          refine WQ.thenNormal ?_
          refine WC.seq ?_
          refine WC.region ?_
          refine WL.run tbOk 4 (acc := []) rfl (by repeat' (first | exact trivial | assumption | intro _ | apply And.intro | (refine not_i ?_; assumption) | (refine and_l ?_; assumption) | (refine and_i ?_ ?_) | decide | omega | (simp [vcs]; done) | (simp only [List.length_map]; omega))) ?_
          refine WL.nil ?_
          refine WQ.thenNormal ?_
          refine WC.ret ?_
          cases h
          exact WQ.rets tbOk (r := .tup [.v (.agg [.int .i64 v.2.2.Rate, .int .i64 v.2.2.Amount, .int .i64 v.2.2.Per, .bool v.2.2.HasMost, .int .i64 v.2.2.Most, .bool v.2.2.HasLeast, .int .i64 v.2.2.Least]), .v (.bool false)]) hR [] (.inl rfl) rfl rfl (Le.tup (.cons (Le.refl _) (.cons (Le.refl _) .nil))) (by repeat' (first | exact trivial | refine ⟨rfl, ?_⟩)) rfl rfl rfl rfl
  · rintro ⟨words2, ok, c4_0, c4_1, c4_2, c4_3, c4_4, c4_5, c4_6⟩ h
    replace h : dutyParseWords_j1 words2 ok c4_0 c4_1 c4_2 c4_3 c4_4 c4_5 c4_6 = some _ := h
    unfold dutyParseWords_j1 at h
    show WC _ _ _ ⟨[(0, .v (.sl 1 (words2.map eStr))), (5, .v (.bool ok)), (4, .p 4 0), (2, .p 2 0)], [(2, .blk 23 [.v (.int .i64 0), .v (.int .i64 0), .v (.int .i64 0), .v (.bool false), .v (.int .i64 0), .v (.bool false), .v (.int .i64 0)]), (4, .blk 23 [.v (.int .i64 c4_0), .v (.int .i64 c4_1), .v (.int .i64 c4_2), .v (.bool c4_3), .v (.int .i64 c4_4), .v (.bool c4_5), .v (.int .i64 c4_6)])]⟩ _ _
    refine WC.seq ?_
    refine WC.order mixed ?_
    refine WR.run tbOk 1 (acc := []) rfl (by repeat' (first | exact trivial | assumption | intro _ | apply And.intro | (refine not_i ?_; assumption) | (refine and_l ?_; assumption) | (refine and_i ?_ ?_) | decide | omega | (simp [vcs]; done) | (simp only [List.length_map]; omega))) ?_
    obtain ⟨x, hxx, h⟩ := bnd h
    refine WR.q [] rfl rfl rfl (q_idx tbOk rfl (by repeat' (first | exact trivial | assumption | intro _ | apply And.intro | (refine not_i ?_; assumption) | (refine and_l ?_; assumption) | (refine and_i ?_ ?_) | decide | omega | (simp [vcs]; done) | (simp only [List.length_map]; omega))) (by decide) (map_get (f := eStr) hxx)) ?_
    refine WR.run tbOk 2 (acc := []) rfl (by repeat' (first | exact trivial | assumption | intro _ | apply And.intro | (refine not_i ?_; assumption) | (refine and_l ?_; assumption) | (refine and_i ?_ ?_) | decide | omega | (simp [vcs]; done) | (simp only [List.length_map]; omega))) ?_
    obtain ⟨x2, hxx2, h⟩ := bnd h
    refine WR.q [] rfl rfl rfl (q_idx tbOk rfl (by repeat' (first | exact trivial | assumption | intro _ | apply And.intro | (refine not_i ?_; assumption) | (refine and_l ?_; assumption) | (refine and_i ?_ ?_) | decide | omega | (simp [vcs]; done) | (simp only [List.length_map]; omega))) (by decide) (map_get (f := eStr) hxx2)) ?_
    refine WR.run tbOk 1 (acc := []) rfl (by repeat' (first | exact trivial | assumption | intro _ | apply And.intro | (refine not_i ?_; assumption) | (refine and_l ?_; assumption) | (refine and_i ?_ ?_) | decide | omega | (simp [vcs]; done) | (simp only [List.length_map]; omega))) ?_
    obtain ⟨v2, hvv2, h⟩ := bnd h
    refine WR.callO [(0, 4)] [(0, 4)] [4] fn58 rfl rfl rfl rfl (by repeat' (first | exact trivial | assumption | intro _ | apply And.intro | (refine not_i ?_; assumption) | (refine and_l ?_; assumption) | (refine and_i ?_ ?_) | decide | omega | (simp [vcs]; done) | (simp only [List.length_map]; omega))) (dutyParseBound_con hw hvv2) rfl rfl (by repeat' (first | exact trivial | refine ⟨rfl, ?_⟩)) rfl rfl rfl rfl rfl rfl ?_
    refine WR.run tbOk 4 (acc := []) rfl (by repeat' (first | exact trivial | assumption | intro _ | apply And.intro | (refine not_i ?_; assumption) | (refine and_l ?_; assumption) | (refine and_i ?_ ?_) | decide | omega | (simp [vcs]; done) | (simp only [List.length_map]; omega))) ?_
    refine WR.nil (by kernel_rfl) ?_
    refine WQ.thenNormal ?_
    refine WC.exit ?_
    refine WQ.blockPass rfl ?_
    refine WQ.thenExit ?_
    refine WQ.blockPass rfl ?_
    refine WQ.thenExit ?_
    refine WQ.blockExit ?_
    refine WQ.thenNormal ?_
    refine WC.seq ?_
    refine WC.region ?_
    refine WL.run tbOk 4 (acc := []) rfl (by repeat' (first | exact trivial | assumption | intro _ | apply And.intro | (refine not_i ?_; assumption) | (refine and_l ?_; assumption) | (refine and_i ?_ ?_) | decide | omega | (simp [vcs]; done) | (simp only [List.length_map]; omega))) ?_
    refine WL.nil ?_
    refine WQ.thenNormal ?_
    refine WC.ret ?_
    cases h
    exact WQ.rets tbOk (r := .tup [.v (.agg [.int .i64 v2.2.Rate, .int .i64 v2.2.Amount, .int .i64 v2.2.Per, .bool v2.2.HasMost, .int .i64 v2.2.Most, .bool v2.2.HasLeast, .int .i64 v2.2.Least]), .v (.bool (bif v2.1 then ok else false))]) hR [] (.inl rfl) rfl rfl (Le.tup (.cons (Le.refl _) (.cons (Le.refl _) .nil))) (by repeat' (first | exact trivial | refine ⟨rfl, ?_⟩)) rfl rfl rfl rfl

theorem dutyParse_con {wg : World} (hw : WG wg) {s : Str} {r : ApiDuty × Int} (h : dutyParse s = some r) : Con Tryz.prog wg gl 17 [.v (.str s)] [] (.tup [.v (.agg [.int .i64 r.1.Rate, .int .i64 r.1.Amount, .int .i64 r.1.Per, .bool r.1.HasMost, .int .i64 r.1.Most, .bool r.1.HasLeast, .int .i64 r.1.Least]), .v (.int .i64 r.2)]) [] := by
  unfold dutyParse at h
  refine con_of_WC (S := slotsOf 0 _) Tryz.func17 rfl Tryz.ntmps17 rfl (fun t x hx => (slotsOf_get hx).2) ?_
  intro F L w ρ0 R hR
  show WC _ _ _ ⟨[(0, .v (.str s))], []⟩ _ _
  refine WC.seq ?_
  refine WC.region ?_
  refine WL.run tbOk 2 (acc := []) rfl (by repeat' (first | exact trivial | assumption | intro _ | apply And.intro | (refine not_i ?_; assumption) | (refine and_l ?_; assumption) | (refine and_i ?_ ?_) | decide | omega | (simp [vcs]; done) | (simp only [List.length_map]; omega))) ?_
  refine WL.nil ?_
  refine WQ.thenNormal ?_
  refine WC.seq ?_
  refine WC.region ?_
  refine WL.run tbOk 1 (acc := []) rfl (by repeat' (first | exact trivial | assumption | intro _ | apply And.intro | (refine not_i ?_; assumption) | (refine and_l ?_; assumption) | (refine and_i ?_ ?_) | decide | omega | (simp [vcs]; done) | (simp only [List.length_map]; omega))) ?_
  obtain ⟨v, hvv, h⟩ := bnd h
  refine WL.call0 fn33 rfl rfl rfl rfl (by repeat' (first | exact trivial | assumption | intro _ | apply And.intro | (refine not_i ?_; assumption) | (refine and_l ?_; assumption) | (refine and_i ?_ ?_) | decide | omega | (simp [vcs]; done) | (simp only [List.length_map]; omega))) rfl (splitS_con hw hvv) ?_
  obtain ⟨v2, hvv2, h⟩ := bnd h
  refine WL.call0 fn32 rfl rfl rfl rfl (by repeat' (first | exact trivial | assumption | intro _ | apply And.intro | (refine not_i ?_; assumption) | (refine and_l ?_; assumption) | (refine and_i ?_ ?_) | decide | omega | (simp [vcs]; done) | (simp only [List.length_map]; omega))) rfl (dutyParseWords_con hw hvv2) ?_
  refine WL.run tbOk 6 (acc := []) rfl (by repeat' (first | exact trivial | assumption | intro _ | apply And.intro | (refine not_i ?_; assumption) | (refine and_l ?_; assumption) | (refine and_i ?_ ?_) | decide | omega | (simp [vcs]; done) | (simp only [List.length_map]; omega))) ?_
  refine WL.nil ?_
  refine WQ.thenNormal ?_
  refine WC.seq ?_
  refine WC.seq ?_
  refine WC.region ?_
  refine WL.run tbOk 4 (acc := []) rfl (by repeat' (first | exact trivial | assumption | intro _ | apply And.intro | (refine not_i ?_; assumption) | (refine and_l ?_; assumption) | (refine and_i ?_ ?_) | decide | omega | (simp [vcs]; done) | (simp only [List.length_map]; omega))) ?_
  obtain ⟨v3, hvv3, h⟩ := bnd h
  refine WL.gcall0 fn11 rfl rfl rfl rfl rfl (fun _ => (by repeat' (first | exact trivial | assumption | intro _ | apply And.intro | (refine not_i ?_; assumption) | (refine and_l ?_; assumption) | (refine and_i ?_ ?_) | decide | omega | (simp [vcs]; done) | (simp only [List.length_map]; omega)))) rfl (fun hg => (dutyValidate_con hw (ite_t hg hvv3))) ?_
  refine WL.run tbOk 4 (acc := []) rfl (by repeat' (first | exact trivial | assumption | intro _ | apply And.intro | (refine not_i ?_; assumption) | (refine and_l ?_; assumption) | (refine and_i ?_ ?_) | decide | omega | (simp [vcs]; done) | (simp only [List.length_map]; omega))) ?_
  obtain ⟨v4, hvv4, h⟩ := bnd h
  refine WL.gcall0 fn15 rfl rfl rfl rfl rfl (fun _ => (by repeat' (first | exact trivial | assumption | intro _ | apply And.intro | (refine not_i ?_; assumption) | (refine and_l ?_; assumption) | (refine and_i ?_ ?_) | decide | omega | (simp [vcs]; done) | (simp only [List.length_map]; omega)))) rfl (fun hg => (dutyFormat_con hw (ite_t hg hvv4))) ?_
  refine WL.run tbOk 3 (acc := []) rfl (by repeat' (first | exact trivial | assumption | intro _ | apply And.intro | (refine not_i ?_; assumption) | (refine and_l ?_; assumption) | (refine and_i ?_ ?_) | decide | omega | (simp [vcs]; done) | (simp only [List.length_map]; omega))) ?_
  refine WL.nil ?_
  refine WQ.thenNormal ?_
  refine WC.cond rfl (fun hc1 => ?_) (fun hc1 => ?_)
  · replace h := ite_t hc1 h
    refine WC.seq ?_
    refine WC.region ?_
    refine WL.run tbOk 3 (acc := []) rfl (by repeat' (first | exact trivial | assumption | intro _ | apply And.intro | (refine not_i ?_; assumption) | (refine and_l ?_; assumption) | (refine and_i ?_ ?_) | decide | omega | (simp [vcs]; done) | (simp only [List.length_map]; omega))) ?_
    refine WL.nil ?_
    refine WQ.thenNormal ?_
    refine WC.ret ?_
    refine WQ.thenRet ?_
    cases h
    exact WQ.rets tbOk (r := .tup [.v (.agg [.int .i64 ((⟨0, 0, 0, false, 0, false, 0⟩ : ApiDuty).Rate), .int .i64 ((⟨0, 0, 0, false, 0, false, 0⟩ : ApiDuty).Amount), .int .i64 ((⟨0, 0, 0, false, 0, false, 0⟩ : ApiDuty).Per), .bool ((⟨0, 0, 0, false, 0, false, 0⟩ : ApiDuty).HasMost), .int .i64 ((⟨0, 0, 0, false, 0, false, 0⟩ : ApiDuty).Most), .bool ((⟨0, 0, 0, false, 0, false, 0⟩ : ApiDuty).HasLeast), .int .i64 ((⟨0, 0, 0, false, 0, false, 0⟩ : ApiDuty).Least)]), .v (.int .i64 (4 : Int))]) hR [] (.inl rfl) rfl rfl (Le.tup (.cons (Le.refl _) (.cons (Le.refl _) .nil))) (by repeat' (first | exact trivial | refine ⟨rfl, ?_⟩)) rfl rfl rfl rfl
  · replace h := ite_f hc1 h
    refine WC.skip ?_
    refine WQ.thenNormal ?_
    refine WC.seq ?_
    refine WC.region ?_
    refine WL.run tbOk 3 (acc := []) rfl (by repeat' (first | exact trivial | assumption | intro _ | apply And.intro | (refine not_i ?_; assumption) | (refine and_l ?_; assumption) | (refine and_i ?_ ?_) | decide | omega | (simp [vcs]; done) | (simp only [List.length_map]; omega))) ?_
    refine WL.nil ?_
    refine WQ.thenNormal ?_
    refine WC.ret ?_
    cases h
    exact WQ.rets tbOk (r := .tup [.v (.agg [.int .i64 v2.1.Rate, .int .i64 v2.1.Amount, .int .i64 v2.1.Per, .bool v2.1.HasMost, .int .i64 v2.1.Most, .bool v2.1.HasLeast, .int .i64 v2.1.Least]), .v (.int .i64 (0 : Int))]) hR [] (.inl rfl) rfl rfl (Le.tup (.cons (Le.refl _) (.cons (Le.refl _) .nil))) (by repeat' (first | exact trivial | refine ⟨rfl, ?_⟩)) rfl rfl rfl rfl

theorem refFormatDuty_con {wg : World} (hw : WG wg) {d : ApiDuty} {r : Str} (h : refFormatDuty d = some r) : Con Tryz.prog wg gl 16 [.v (.agg [.int .i64 d.Rate, .int .i64 d.Amount, .int .i64 d.Per, .bool d.HasMost, .int .i64 d.Most, .bool d.HasLeast, .int .i64 d.Least])] [] (.v (.str r)) [] := by
  unfold refFormatDuty at h
  refine con_of_WC (S := slotsOf 0 _) Tryz.func16 rfl Tryz.ntmps16 rfl (fun t x hx => (slotsOf_get hx).2) ?_
  intro F L w ρ0 R hR
  show WC _ _ _ ⟨[(0, .v (.agg [.int .i64 d.Rate, .int .i64 d.Amount, .int .i64 d.Per, .bool d.HasMost, .int .i64 d.Most, .bool d.HasLeast, .int .i64 d.Least]))], []⟩ _ _
  refine WC.seq ?_
  refine WC.region ?_
  refine WL.run tbOk 2 (acc := []) rfl (by repeat' (first | exact trivial | assumption | intro _ | apply And.intro | (refine not_i ?_; assumption) | (refine and_l ?_; assumption) | (refine and_i ?_ ?_) | decide | omega | (simp [vcs]; done) | (simp only [List.length_map]; omega))) ?_
  refine WL.nil ?_
  refine WQ.thenNormal ?_
  refine WC.seq ?_
  refine WC.seq ?_
  refine WC.region ?_
  refine WL.run tbOk 1 (acc := []) rfl (by repeat' (first | exact trivial | assumption | intro _ | apply And.intro | (refine not_i ?_; assumption) | (refine and_l ?_; assumption) | (refine and_i ?_ ?_) | decide | omega | (simp [vcs]; done) | (simp only [List.length_map]; omega))) ?_
  obtain ⟨v, hvv, h⟩ := bnd h
  refine WL.call0 fn12 rfl rfl rfl rfl (by repeat' (first | exact trivial | assumption | intro _ | apply And.intro | (refine not_i ?_; assumption) | (refine and_l ?_; assumption) | (refine and_i ?_ ?_) | decide | omega | (simp [vcs]; done) | (simp only [List.length_map]; omega))) rfl (refDuty_con hw hvv) ?_
  refine WL.run tbOk 1 (acc := []) rfl (by repeat' (first | exact trivial | assumption | intro _ | apply And.intro | (refine not_i ?_; assumption) | (refine and_l ?_; assumption) | (refine and_i ?_ ?_) | decide | omega | (simp [vcs]; done) | (simp only [List.length_map]; omega))) ?_
  refine WL.nil ?_
  refine WQ.thenNormal ?_
  refine WC.cond rfl (fun hc1 => ?_) (fun hc1 => ?_)
  · replace h := ite_t hc1 h
    refine WC.seq ?_
    refine WC.region ?_
    refine WL.run tbOk 1 (acc := []) rfl (by repeat' (first | exact trivial | assumption | intro _ | apply And.intro | (refine not_i ?_; assumption) | (refine and_l ?_; assumption) | (refine and_i ?_ ?_) | decide | omega | (simp [vcs]; done) | (simp only [List.length_map]; omega))) ?_
    refine WL.nil ?_
    refine WQ.thenNormal ?_
    refine WC.ret ?_
    refine WQ.thenRet ?_
    cases h
    exact WQ.rets tbOk hR [] (.inl rfl) rfl rfl (Le.refl _) (by repeat' (first | exact trivial | refine ⟨rfl, ?_⟩)) rfl rfl rfl rfl
  · replace h := ite_f hc1 h
    refine WC.skip ?_
    refine WQ.thenNormal ?_
    refine WC.seq ?_
    refine WC.region ?_
    refine WL.run tbOk 2 (acc := []) rfl (by repeat' (first | exact trivial | assumption | intro _ | apply And.intro | (refine not_i ?_; assumption) | (refine and_l ?_; assumption) | (refine and_i ?_ ?_) | decide | omega | (simp [vcs]; done) | (simp only [List.length_map]; omega))) ?_
    obtain ⟨v2, hvv2, h⟩ := bnd h
    refine WL.call0 fn29 rfl rfl rfl rfl (by repeat' (first | exact trivial | assumption | intro _ | apply And.intro | (refine not_i ?_; assumption) | (refine and_l ?_; assumption) | (refine and_i ?_ ?_) | decide | omega | (simp [vcs]; done) | (simp only [List.length_map]; omega))) rfl (r12Percent_con hw hvv2) ?_
    refine WL.run tbOk 1 (acc := []) rfl (by repeat' (first | exact trivial | assumption | intro _ | apply And.intro | (refine not_i ?_; assumption) | (refine and_l ?_; assumption) | (refine and_i ?_ ?_) | decide | omega | (simp [vcs]; done) | (simp only [List.length_map]; omega))) ?_
    refine WL.nil ?_
    refine WQ.thenNormal ?_
    refine WC.seq ?_
    refine WC.seq ?_
    refine WC.region ?_
    refine WL.run tbOk 3 (acc := []) rfl (by repeat' (first | exact trivial | assumption | intro _ | apply And.intro | (refine not_i ?_; assumption) | (refine and_l ?_; assumption) | (refine and_i ?_ ?_) | decide | omega | (simp [vcs]; done) | (simp only [List.length_map]; omega))) ?_
    refine WL.nil ?_
    refine WQ.thenNormal ?_
    refine WC.cond rfl (fun hc2 => ?_) (fun hc2 => ?_)
    · replace h := ite_t hc2 h
      refine WC.seq ?_
      refine WC.order mixed ?_
      refine WR.run tbOk 2 (acc := []) rfl (by repeat' (first | exact trivial | assumption | intro _ | apply And.intro | (refine not_i ?_; assumption) | (refine and_l ?_; assumption) | (refine and_i ?_ ?_) | decide | omega | (simp [vcs]; done) | (simp only [List.length_map]; omega))) ?_
      obtain ⟨v3, hvv3, h⟩ := bnd h
      refine WR.call0 fn30 rfl rfl rfl rfl (by repeat' (first | exact trivial | assumption | intro _ | apply And.intro | (refine not_i ?_; assumption) | (refine and_l ?_; assumption) | (refine and_i ?_ ?_) | decide | omega | (simp [vcs]; done) | (simp only [List.length_map]; omega))) rfl (r02Format_con hw hvv3) ?_
      obtain ⟨g1, h⟩ := grd h
      refine WR.run tbOk 3 (acc := []) rfl (by repeat' (first | exact trivial | assumption | intro _ | exact g1 (by assumption) | apply And.intro | (refine not_i ?_; assumption) | (refine and_l ?_; assumption) | (refine and_i ?_ ?_) | decide | omega | (simp [vcs]; done) | (simp only [List.length_map]; omega))) ?_
      obtain ⟨v4, hvv4, h⟩ := bnd h
      refine WR.call0 fn31 rfl rfl rfl rfl (by repeat' (first | exact trivial | assumption | intro _ | apply And.intro | (refine not_i ?_; assumption) | (refine and_l ?_; assumption) | (refine and_i ?_ ?_) | decide | omega | (simp [vcs]; done) | (simp only [List.length_map]; omega))) rfl (r02Digits_con hw hvv4) ?_
      obtain ⟨g2, h⟩ := grd h
      refine WR.run tbOk 2 (acc := []) rfl (by repeat' (first | exact trivial | assumption | intro _ | exact g2 (by assumption) | apply And.intro | (refine not_i ?_; assumption) | (refine and_l ?_; assumption) | (refine and_i ?_ ?_) | decide | omega | (simp [vcs]; done) | (simp only [List.length_map]; omega))) ?_
      refine WR.nil (by kernel_rfl) ?_
      refine WQ.thenNormal ?_
      refine WC.seq ?_
      refine WC.region ?_
      refine WL.run tbOk 3 (acc := []) rfl (by repeat' (first | exact trivial | assumption | intro _ | apply And.intro | (refine not_i ?_; assumption) | (refine and_l ?_; assumption) | (refine and_i ?_ ?_) | decide | omega | (simp [vcs]; done) | (simp only [List.length_map]; omega))) ?_
      refine WL.nil ?_
      refine WQ.thenNormal ?_
      refine WC.cond rfl (fun hc3 => ?_) (fun hc3 => ?_)
      · replace h := ite_t hc3 h
        refine WC.region ?_
        refine WL.run tbOk 2 (acc := []) rfl (by repeat' (first | exact trivial | assumption | intro _ | apply And.intro | (refine not_i ?_; assumption) | (refine and_l ?_; assumption) | (refine and_i ?_ ?_) | decide | omega | (simp [vcs]; done) | (simp only [List.length_map]; omega))) ?_
        refine WL.nil ?_
        refine WQ.thenNormal ?_
        refine WC.seq ?_
        refine WC.seq ?_
        refine WC.region ?_
        refine WL.run tbOk 2 (acc := []) rfl (by repeat' (first | exact trivial | assumption | intro _ | apply And.intro | (refine not_i ?_; assumption) | (refine and_l ?_; assumption) | (refine and_i ?_ ?_) | decide | omega | (simp [vcs]; done) | (simp only [List.length_map]; omega))) ?_
        refine WL.nil ?_
        refine WQ.thenNormal ?_
        refine WC.cond rfl (fun hc4 => ?_) (fun hc4 => ?_)
        · replace h := ite_t hc4 h
          refine WC.region ?_
          obtain ⟨g3, h⟩ := grd h
          refine WL.run tbOk 4 (acc := []) rfl (by repeat' (first | exact trivial | assumption | intro _ | exact g3 (by assumption) | apply And.intro | (refine not_i ?_; assumption) | (refine and_l ?_; assumption) | (refine and_i ?_ ?_) | decide | omega | (simp [vcs]; done) | (simp only [List.length_map]; omega))) ?_
          obtain ⟨v5, hvv5, h⟩ := bnd h
          refine WL.call0 fn29 rfl rfl rfl rfl (by repeat' (first | exact trivial | assumption | intro _ | apply And.intro | (refine not_i ?_; assumption) | (refine and_l ?_; assumption) | (refine and_i ?_ ?_) | decide | omega | (simp [vcs]; done) | (simp only [List.length_map]; omega))) rfl (r12Percent_con hw hvv5) ?_
          obtain ⟨g4, h⟩ := grd h
          refine WL.run tbOk 2 (acc := []) rfl (by repeat' (first | exact trivial | assumption | intro _ | exact g4 (by assumption) | apply And.intro | (refine not_i ?_; assumption) | (refine and_l ?_; assumption) | (refine and_i ?_ ?_) | decide | omega | (simp [vcs]; done) | (simp only [List.length_map]; omega))) ?_
          refine WL.nil ?_
          refine WQ.thenNormal ?_
          refine WC.seq ?_
          refine WC.seq ?_
          refine WC.region ?_
          refine WL.run tbOk 2 (acc := []) rfl (by repeat' (first | exact trivial | assumption | intro _ | apply And.intro | (refine not_i ?_; assumption) | (refine and_l ?_; assumption) | (refine and_i ?_ ?_) | decide | omega | (simp [vcs]; done) | (simp only [List.length_map]; omega))) ?_
          refine WL.nil ?_
          refine WQ.thenNormal ?_
          refine WC.cond rfl (fun hc5 => ?_) (fun hc5 => ?_)
          · replace h := ite_t hc5 h
            refine WC.region ?_
            obtain ⟨g5, h⟩ := grd h
            refine WL.run tbOk 4 (acc := []) rfl (by repeat' (first | exact trivial | assumption | intro _ | exact g5 (by assumption) | apply And.intro | (refine not_i ?_; assumption) | (refine and_l ?_; assumption) | (refine and_i ?_ ?_) | decide | omega | (simp [vcs]; done) | (simp only [List.length_map]; omega))) ?_
            obtain ⟨v6, hvv6, h⟩ := bnd h
            refine WL.call0 fn29 rfl rfl rfl rfl (by repeat' (first | exact trivial | assumption | intro _ | apply And.intro | (refine not_i ?_; assumption) | (refine and_l ?_; assumption) | (refine and_i ?_ ?_) | decide | omega | (simp [vcs]; done) | (simp only [List.length_map]; omega))) rfl (r12Percent_con hw hvv6) ?_
            obtain ⟨g6, h⟩ := grd h
            refine WL.run tbOk 2 (acc := []) rfl (by repeat' (first | exact trivial | assumption | intro _ | exact g6 (by assumption) | apply And.intro | (refine not_i ?_; assumption) | (refine and_l ?_; assumption) | (refine and_i ?_ ?_) | decide | omega | (simp [vcs]; done) | (simp only [List.length_map]; omega))) ?_
            refine WL.nil ?_
            refine WQ.thenNormal ?_
            refine WC.seq ?_
            refine WC.region ?_
            refine WL.run tbOk 2 (acc := []) rfl (by repeat' (first | exact trivial | assumption | intro _ | apply And.intro | (refine not_i ?_; assumption) | (refine and_l ?_; assumption) | (refine and_i ?_ ?_) | decide | omega | (simp [vcs]; done) | (simp only [List.length_map]; omega))) ?_
            refine WL.nil ?_
            refine WQ.thenNormal ?_
            refine WC.ret ?_
            cases h
            exact WQ.rets tbOk hR [] (.inl rfl) rfl rfl (Le.refl _) (by repeat' (first | exact trivial | refine ⟨rfl, ?_⟩)) rfl rfl rfl rfl
          · replace h := ite_f hc5 h
            refine WC.skip ?_
            refine WQ.thenNormal ?_
            refine WC.seq ?_
            refine WC.region ?_
            refine WL.run tbOk 2 (acc := []) rfl (by repeat' (first | exact trivial | assumption | intro _ | apply And.intro | (refine not_i ?_; assumption) | (refine and_l ?_; assumption) | (refine and_i ?_ ?_) | decide | omega | (simp [vcs]; done) | (simp only [List.length_map]; omega))) ?_
            refine WL.nil ?_
            refine WQ.thenNormal ?_
            refine WC.ret ?_
            cases h
            exact WQ.rets tbOk hR [] (.inl rfl) rfl rfl (Le.refl _) (by repeat' (first | exact trivial | refine ⟨rfl, ?_⟩)) rfl rfl rfl rfl
        · replace h := ite_f hc4 h
          refine WC.skip ?_
          refine WQ.thenNormal ?_
          refine WC.seq ?_
          refine WC.seq ?_
          refine WC.region ?_
          refine WL.run tbOk 2 (acc := []) rfl (by repeat' (first | exact trivial | assumption | intro _ | apply And.intro | (refine not_i ?_; assumption) | (refine and_l ?_; assumption) | (refine and_i ?_ ?_) | decide | omega | (simp [vcs]; done) | (simp only [List.length_map]; omega))) ?_
          refine WL.nil ?_
          refine WQ.thenNormal ?_
          refine WC.cond rfl (fun hc6 => ?_) (fun hc6 => ?_)
          · replace h := ite_t hc6 h
            refine WC.region ?_
            obtain ⟨g7, h⟩ := grd h
            refine WL.run tbOk 4 (acc := []) rfl (by repeat' (first | exact trivial | assumption | intro _ | exact g7 (by assumption) | apply And.intro | (refine not_i ?_; assumption) | (refine and_l ?_; assumption) | (refine and_i ?_ ?_) | decide | omega | (simp [vcs]; done) | (simp only [List.length_map]; omega))) ?_
            obtain ⟨v7, hvv7, h⟩ := bnd h
            refine WL.call0 fn29 rfl rfl rfl rfl (by repeat' (first | exact trivial | assumption | intro _ | apply And.intro | (refine not_i ?_; assumption) | (refine and_l ?_; assumption) | (refine and_i ?_ ?_) | decide | omega | (simp [vcs]; done) | (simp only [List.length_map]; omega))) rfl (r12Percent_con hw hvv7) ?_
            obtain ⟨g8, h⟩ := grd h
            refine WL.run tbOk 2 (acc := []) rfl (by repeat' (first | exact trivial | assumption | intro _ | exact g8 (by assumption) | apply And.intro | (refine not_i ?_; assumption) | (refine and_l ?_; assumption) | (refine and_i ?_ ?_) | decide | omega | (simp [vcs]; done) | (simp only [List.length_map]; omega))) ?_
            refine WL.nil ?_
            refine WQ.thenNormal ?_
            refine WC.seq ?_
            refine WC.region ?_
            refine WL.run tbOk 2 (acc := []) rfl (by repeat' (first | exact trivial | assumption | intro _ | apply And.intro | (refine not_i ?_; assumption) | (refine and_l ?_; assumption) | (refine and_i ?_ ?_) | decide | omega | (simp [vcs]; done) | (simp only [List.length_map]; omega))) ?_
            refine WL.nil ?_
            refine WQ.thenNormal ?_
            refine WC.ret ?_
            cases h
            exact WQ.rets tbOk hR [] (.inl rfl) rfl rfl (Le.refl _) (by repeat' (first | exact trivial | refine ⟨rfl, ?_⟩)) rfl rfl rfl rfl
          · replace h := ite_f hc6 h
            refine WC.skip ?_
            refine WQ.thenNormal ?_
            refine WC.seq ?_
            refine WC.region ?_
            refine WL.run tbOk 2 (acc := []) rfl (by repeat' (first | exact trivial | assumption | intro _ | apply And.intro | (refine not_i ?_; assumption) | (refine and_l ?_; assumption) | (refine and_i ?_ ?_) | decide | omega | (simp [vcs]; done) | (simp only [List.length_map]; omega))) ?_
            refine WL.nil ?_
            refine WQ.thenNormal ?_
            refine WC.ret ?_
            cases h
            exact WQ.rets tbOk hR [] (.inl rfl) rfl rfl (Le.refl _) (by repeat' (first | exact trivial | refine ⟨rfl, ?_⟩)) rfl rfl rfl rfl
      · replace h := ite_f hc3 h
        refine WC.region ?_
        obtain ⟨g9, h⟩ := grd h
        obtain ⟨g10, h⟩ := grd h
        refine WL.run tbOk 5 (acc := []) rfl (by repeat' (first | exact trivial | assumption | intro _ | exact g9 (by assumption) | exact g10 (by assumption) | apply And.intro | (refine not_i ?_; assumption) | (refine and_l ?_; assumption) | (refine and_i ?_ ?_) | decide | omega | (simp [vcs]; done) | (simp only [List.length_map]; omega))) ?_
        refine WL.nil ?_
        refine WQ.thenNormal ?_
        refine WC.seq ?_
        refine WC.seq ?_
        refine WC.region ?_
        refine WL.run tbOk 2 (acc := []) rfl (by repeat' (first | exact trivial | assumption | intro _ | apply And.intro | (refine not_i ?_; assumption) | (refine and_l ?_; assumption) | (refine and_i ?_ ?_) | decide | omega | (simp [vcs]; done) | (simp only [List.length_map]; omega))) ?_
        refine WL.nil ?_
        refine WQ.thenNormal ?_
        refine WC.cond rfl (fun hc7 => ?_) (fun hc7 => ?_)
        · replace h := ite_t hc7 h
          refine WC.region ?_
          obtain ⟨g11, h⟩ := grd h
          refine WL.run tbOk 4 (acc := []) rfl (by repeat' (first | exact trivial | assumption | intro _ | exact g11 (by assumption) | apply And.intro | (refine not_i ?_; assumption) | (refine and_l ?_; assumption) | (refine and_i ?_ ?_) | decide | omega | (simp [vcs]; done) | (simp only [List.length_map]; omega))) ?_
          obtain ⟨v8, hvv8, h⟩ := bnd h
          refine WL.call0 fn29 rfl rfl rfl rfl (by repeat' (first | exact trivial | assumption | intro _ | apply And.intro | (refine not_i ?_; assumption) | (refine and_l ?_; assumption) | (refine and_i ?_ ?_) | decide | omega | (simp [vcs]; done) | (simp only [List.length_map]; omega))) rfl (r12Percent_con hw hvv8) ?_
          obtain ⟨g12, h⟩ := grd h
          refine WL.run tbOk 2 (acc := []) rfl (by repeat' (first | exact trivial | assumption | intro _ | exact g12 (by assumption) | apply And.intro | (refine not_i ?_; assumption) | (refine and_l ?_; assumption) | (refine and_i ?_ ?_) | decide | omega | (simp [vcs]; done) | (simp only [List.length_map]; omega))) ?_
          refine WL.nil ?_
          refine WQ.thenNormal ?_
          refine WC.seq ?_
          refine WC.seq ?_
          refine WC.region ?_
          refine WL.run tbOk 2 (acc := []) rfl (by repeat' (first | exact trivial | assumption | intro _ | apply And.intro | (refine not_i ?_; assumption) | (refine and_l ?_; assumption) | (refine and_i ?_ ?_) | decide | omega | (simp [vcs]; done) | (simp only [List.length_map]; omega))) ?_
          refine WL.nil ?_
          refine WQ.thenNormal ?_
          refine WC.cond rfl (fun hc8 => ?_) (fun hc8 => ?_)
          · replace h := ite_t hc8 h
            refine WC.region ?_
            obtain ⟨g13, h⟩ := grd h
            refine WL.run tbOk 4 (acc := []) rfl (by repeat' (first | exact trivial | assumption | intro _ | exact g13 (by assumption) | apply And.intro | (refine not_i ?_; assumption) | (refine and_l ?_; assumption) | (refine and_i ?_ ?_) | decide | omega | (simp [vcs]; done) | (simp only [List.length_map]; omega))) ?_
            obtain ⟨v9, hvv9, h⟩ := bnd h
            refine WL.call0 fn29 rfl rfl rfl rfl (by repeat' (first | exact trivial | assumption | intro _ | apply And.intro | (refine not_i ?_; assumption) | (refine and_l ?_; assumption) | (refine and_i ?_ ?_) | decide | omega | (simp [vcs]; done) | (simp only [List.length_map]; omega))) rfl (r12Percent_con hw hvv9) ?_
            obtain ⟨g14, h⟩ := grd h
            refine WL.run tbOk 2 (acc := []) rfl (by repeat' (first | exact trivial | assumption | intro _ | exact g14 (by assumption) | apply And.intro | (refine not_i ?_; assumption) | (refine and_l ?_; assumption) | (refine and_i ?_ ?_) | decide | omega | (simp [vcs]; done) | (simp only [List.length_map]; omega))) ?_
            refine WL.nil ?_
            refine WQ.thenNormal ?_
            refine WC.seq ?_
            refine WC.region ?_
            refine WL.run tbOk 2 (acc := []) rfl (by repeat' (first | exact trivial | assumption | intro _ | apply And.intro | (refine not_i ?_; assumption) | (refine and_l ?_; assumption) | (refine and_i ?_ ?_) | decide | omega | (simp [vcs]; done) | (simp only [List.length_map]; omega))) ?_
            refine WL.nil ?_
            refine WQ.thenNormal ?_
            refine WC.ret ?_
            cases h
            exact WQ.rets tbOk hR [] (.inl rfl) rfl rfl (Le.refl _) (by repeat' (first | exact trivial | refine ⟨rfl, ?_⟩)) rfl rfl rfl rfl
          · replace h := ite_f hc8 h
            refine WC.skip ?_
            refine WQ.thenNormal ?_
            refine WC.seq ?_
            refine WC.region ?_
            refine WL.run tbOk 2 (acc := []) rfl (by repeat' (first | exact trivial | assumption | intro _ | apply And.intro | (refine not_i ?_; assumption) | (refine and_l ?_; assumption) | (refine and_i ?_ ?_) | decide | omega | (simp [vcs]; done) | (simp only [List.length_map]; omega))) ?_
            refine WL.nil ?_
            refine WQ.thenNormal ?_
            refine WC.ret ?_
            cases h
            exact WQ.rets tbOk hR [] (.inl rfl) rfl rfl (Le.refl _) (by repeat' (first | exact trivial | refine ⟨rfl, ?_⟩)) rfl rfl rfl rfl
        · replace h := ite_f hc7 h
          refine WC.skip ?_
          refine WQ.thenNormal ?_
          refine WC.seq ?_
          refine WC.seq ?_
          refine WC.region ?_
          refine WL.run tbOk 2 (acc := []) rfl (by repeat' (first | exact trivial | assumption | intro _ | apply And.intro | (refine not_i ?_; assumption) | (refine and_l ?_; assumption) | (refine and_i ?_ ?_) | decide | omega | (simp [vcs]; done) | (simp only [List.length_map]; omega))) ?_
          refine WL.nil ?_
          refine WQ.thenNormal ?_
          refine WC.cond rfl (fun hc9 => ?_) (fun hc9 => ?_)
          · replace h := ite_t hc9 h
            refine WC.region ?_
            obtain ⟨g15, h⟩ := grd h
            refine WL.run tbOk 4 (acc := []) rfl (by repeat' (first | exact trivial | assumption | intro _ | exact g15 (by assumption) | apply And.intro | (refine not_i ?_; assumption) | (refine and_l ?_; assumption) | (refine and_i ?_ ?_) | decide | omega | (simp [vcs]; done) | (simp only [List.length_map]; omega))) ?_
            obtain ⟨v10, hvv10, h⟩ := bnd h
            refine WL.call0 fn29 rfl rfl rfl rfl (by repeat' (first | exact trivial | assumption | intro _ | apply And.intro | (refine not_i ?_; assumption) | (refine and_l ?_; assumption) | (refine and_i ?_ ?_) | decide | omega | (simp [vcs]; done) | (simp only [List.length_map]; omega))) rfl (r12Percent_con hw hvv10) ?_
            obtain ⟨g16, h⟩ := grd h
            refine WL.run tbOk 2 (acc := []) rfl (by repeat' (first | exact trivial | assumption | intro _ | exact g16 (by assumption) | apply And.intro | (refine not_i ?_; assumption) | (refine and_l ?_; assumption) | (refine and_i ?_ ?_) | decide | omega | (simp [vcs]; done) | (simp only [List.length_map]; omega))) ?_
            refine WL.nil ?_
            refine WQ.thenNormal ?_
            refine WC.seq ?_
            refine WC.region ?_
            refine WL.run tbOk 2 (acc := []) rfl (by repeat' (first | exact trivial | assumption | intro _ | apply And.intro | (refine not_i ?_; assumption) | (refine and_l ?_; assumption) | (refine and_i ?_ ?_) | decide | omega | (simp [vcs]; done) | (simp only [List.length_map]; omega))) ?_
            refine WL.nil ?_
            refine WQ.thenNormal ?_
            refine WC.ret ?_
            cases h
            exact WQ.rets tbOk hR [] (.inl rfl) rfl rfl (Le.refl _) (by repeat' (first | exact trivial | refine ⟨rfl, ?_⟩)) rfl rfl rfl rfl
          · replace h := ite_f hc9 h
            refine WC.skip ?_
            refine WQ.thenNormal ?_
            refine WC.seq ?_
            refine WC.region ?_
            refine WL.run tbOk 2 (acc := []) rfl (by repeat' (first | exact trivial | assumption | intro _ | apply And.intro | (refine not_i ?_; assumption) | (refine and_l ?_; assumption) | (refine and_i ?_ ?_) | decide | omega | (simp [vcs]; done) | (simp only [List.length_map]; omega))) ?_
            refine WL.nil ?_
            refine WQ.thenNormal ?_
            refine WC.ret ?_
            cases h
            exact WQ.rets tbOk hR [] (.inl rfl) rfl rfl (Le.refl _) (by repeat' (first | exact trivial | refine ⟨rfl, ?_⟩)) rfl rfl rfl rfl
    · replace h := ite_f hc2 h
      refine WC.skip ?_
      refine WQ.thenNormal ?_
      refine WC.seq ?_
      refine WC.seq ?_
      refine WC.region ?_
      refine WL.run tbOk 2 (acc := []) rfl (by repeat' (first | exact trivial | assumption | intro _ | apply And.intro | (refine not_i ?_; assumption) | (refine and_l ?_; assumption) | (refine and_i ?_ ?_) | decide | omega | (simp [vcs]; done) | (simp only [List.length_map]; omega))) ?_
      refine WL.nil ?_
      refine WQ.thenNormal ?_
      refine WC.cond rfl (fun hc10 => ?_) (fun hc10 => ?_)
      · replace h := ite_t hc10 h
        refine WC.region ?_
        obtain ⟨g17, h⟩ := grd h
        refine WL.run tbOk 4 (acc := []) rfl (by repeat' (first | exact trivial | assumption | intro _ | exact g17 (by assumption) | apply And.intro | (refine not_i ?_; assumption) | (refine and_l ?_; assumption) | (refine and_i ?_ ?_) | decide | omega | (simp [vcs]; done) | (simp only [List.length_map]; omega))) ?_
        obtain ⟨v11, hvv11, h⟩ := bnd h
        refine WL.call0 fn29 rfl rfl rfl rfl (by repeat' (first | exact trivial | assumption | intro _ | apply And.intro | (refine not_i ?_; assumption) | (refine and_l ?_; assumption) | (refine and_i ?_ ?_) | decide | omega | (simp [vcs]; done) | (simp only [List.length_map]; omega))) rfl (r12Percent_con hw hvv11) ?_
        obtain ⟨g18, h⟩ := grd h
        refine WL.run tbOk 2 (acc := []) rfl (by repeat' (first | exact trivial | assumption | intro _ | exact g18 (by assumption) | apply And.intro | (refine not_i ?_; assumption) | (refine and_l ?_; assumption) | (refine and_i ?_ ?_) | decide | omega | (simp [vcs]; done) | (simp only [List.length_map]; omega))) ?_
        refine WL.nil ?_
        refine WQ.thenNormal ?_
        refine WC.seq ?_
        refine WC.seq ?_
        refine WC.region ?_
        refine WL.run tbOk 2 (acc := []) rfl (by repeat' (first | exact trivial | assumption | intro _ | apply And.intro | (refine not_i ?_; assumption) | (refine and_l ?_; assumption) | (refine and_i ?_ ?_) | decide | omega | (simp [vcs]; done) | (simp only [List.length_map]; omega))) ?_
        refine WL.nil ?_
        refine WQ.thenNormal ?_
        refine WC.cond rfl (fun hc11 => ?_) (fun hc11 => ?_)
        · replace h := ite_t hc11 h
          refine WC.region ?_
          obtain ⟨g19, h⟩ := grd h
          refine WL.run tbOk 4 (acc := []) rfl (by repeat' (first | exact trivial | assumption | intro _ | exact g19 (by assumption) | apply And.intro | (refine not_i ?_; assumption) | (refine and_l ?_; assumption) | (refine and_i ?_ ?_) | decide | omega | (simp [vcs]; done) | (simp only [List.length_map]; omega))) ?_
          obtain ⟨v12, hvv12, h⟩ := bnd h
          refine WL.call0 fn29 rfl rfl rfl rfl (by repeat' (first | exact trivial | assumption | intro _ | apply And.intro | (refine not_i ?_; assumption) | (refine and_l ?_; assumption) | (refine and_i ?_ ?_) | decide | omega | (simp [vcs]; done) | (simp only [List.length_map]; omega))) rfl (r12Percent_con hw hvv12) ?_
          obtain ⟨g20, h⟩ := grd h
          refine WL.run tbOk 2 (acc := []) rfl (by repeat' (first | exact trivial | assumption | intro _ | exact g20 (by assumption) | apply And.intro | (refine not_i ?_; assumption) | (refine and_l ?_; assumption) | (refine and_i ?_ ?_) | decide | omega | (simp [vcs]; done) | (simp only [List.length_map]; omega))) ?_
          refine WL.nil ?_
          refine WQ.thenNormal ?_
          refine WC.seq ?_
          refine WC.region ?_
          refine WL.run tbOk 2 (acc := []) rfl (by repeat' (first | exact trivial | assumption | intro _ | apply And.intro | (refine not_i ?_; assumption) | (refine and_l ?_; assumption) | (refine and_i ?_ ?_) | decide | omega | (simp [vcs]; done) | (simp only [List.length_map]; omega))) ?_
          refine WL.nil ?_
          refine WQ.thenNormal ?_
          refine WC.ret ?_
          cases h
          exact WQ.rets tbOk hR [] (.inl rfl) rfl rfl (Le.refl _) (by repeat' (first | exact trivial | refine ⟨rfl, ?_⟩)) rfl rfl rfl rfl
        · replace h := ite_f hc11 h
          refine WC.skip ?_
          refine WQ.thenNormal ?_
          refine WC.seq ?_
          refine WC.region ?_
          refine WL.run tbOk 2 (acc := []) rfl (by repeat' (first | exact trivial | assumption | intro _ | apply And.intro | (refine not_i ?_; assumption) | (refine and_l ?_; assumption) | (refine and_i ?_ ?_) | decide | omega | (simp [vcs]; done) | (simp only [List.length_map]; omega))) ?_
          refine WL.nil ?_
          refine WQ.thenNormal ?_
          refine WC.ret ?_
          cases h
          exact WQ.rets tbOk hR [] (.inl rfl) rfl rfl (Le.refl _) (by repeat' (first | exact trivial | refine ⟨rfl, ?_⟩)) rfl rfl rfl rfl
      · replace h := ite_f hc10 h
        refine WC.skip ?_
        refine WQ.thenNormal ?_
        refine WC.seq ?_
        refine WC.seq ?_
        refine WC.region ?_
        refine WL.run tbOk 2 (acc := []) rfl (by repeat' (first | exact trivial | assumption | intro _ | apply And.intro | (refine not_i ?_; assumption) | (refine and_l ?_; assumption) | (refine and_i ?_ ?_) | decide | omega | (simp [vcs]; done) | (simp only [List.length_map]; omega))) ?_
        refine WL.nil ?_
        refine WQ.thenNormal ?_
        refine WC.cond rfl (fun hc12 => ?_) (fun hc12 => ?_)
        · replace h := ite_t hc12 h
          refine WC.region ?_
          obtain ⟨g21, h⟩ := grd h
          refine WL.run tbOk 4 (acc := []) rfl (by repeat' (first | exact trivial | assumption | intro _ | exact g21 (by assumption) | apply And.intro | (refine not_i ?_; assumption) | (refine and_l ?_; assumption) | (refine and_i ?_ ?_) | decide | omega | (simp [vcs]; done) | (simp only [List.length_map]; omega))) ?_
          obtain ⟨v13, hvv13, h⟩ := bnd h
          refine WL.call0 fn29 rfl rfl rfl rfl (by repeat' (first | exact trivial | assumption | intro _ | apply And.intro | (refine not_i ?_; assumption) | (refine and_l ?_; assumption) | (refine and_i ?_ ?_) | decide | omega | (simp [vcs]; done) | (simp only [List.length_map]; omega))) rfl (r12Percent_con hw hvv13) ?_
          obtain ⟨g22, h⟩ := grd h
          refine WL.run tbOk 2 (acc := []) rfl (by repeat' (first | exact trivial | assumption | intro _ | exact g22 (by assumption) | apply And.intro | (refine not_i ?_; assumption) | (refine and_l ?_; assumption) | (refine and_i ?_ ?_) | decide | omega | (simp [vcs]; done) | (simp only [List.length_map]; omega))) ?_
          refine WL.nil ?_
          refine WQ.thenNormal ?_
          refine WC.seq ?_
          refine WC.region ?_
          refine WL.run tbOk 2 (acc := []) rfl (by repeat' (first | exact trivial | assumption | intro _ | apply And.intro | (refine not_i ?_; assumption) | (refine and_l ?_; assumption) | (refine and_i ?_ ?_) | decide | omega | (simp [vcs]; done) | (simp only [List.length_map]; omega))) ?_
          refine WL.nil ?_
          refine WQ.thenNormal ?_
          refine WC.ret ?_
          cases h
          exact WQ.rets tbOk hR [] (.inl rfl) rfl rfl (Le.refl _) (by repeat' (first | exact trivial | refine ⟨rfl, ?_⟩)) rfl rfl rfl rfl
        · replace h := ite_f hc12 h
          refine WC.skip ?_
          refine WQ.thenNormal ?_
          refine WC.seq ?_
          refine WC.region ?_
          refine WL.run tbOk 2 (acc := []) rfl (by repeat' (first | exact trivial | assumption | intro _ | apply And.intro | (refine not_i ?_; assumption) | (refine and_l ?_; assumption) | (refine and_i ?_ ?_) | decide | omega | (simp [vcs]; done) | (simp only [List.length_map]; omega))) ?_
          refine WL.nil ?_
          refine WQ.thenNormal ?_
          refine WC.ret ?_
          cases h
          exact WQ.rets tbOk hR [] (.inl rfl) rfl rfl (Le.refl _) (by repeat' (first | exact trivial | refine ⟨rfl, ?_⟩)) rfl rfl rfl rfl

theorem refParseDuty_con {wg : World} (hw : WG wg) {a0 : Str} {r : ApiDuty × Int} (h : refParseDuty a0 = some r) : Con Tryz.prog wg gl 18 [.v (.str a0)] [] (.tup [.v (.agg [.int .i64 r.1.Rate, .int .i64 r.1.Amount, .int .i64 r.1.Per, .bool r.1.HasMost, .int .i64 r.1.Most, .bool r.1.HasLeast, .int .i64 r.1.Least]), .v (.int .i64 r.2)]) [] := by
  unfold refParseDuty at h
  refine con_of_WC (S := slotsOf 0 _) Tryz.func18 rfl Tryz.ntmps18 rfl (fun t x hx => (slotsOf_get hx).2) ?_
  intro F L w ρ0 R hR
  show WC _ _ _ ⟨[(0, .v (.str a0))], []⟩ _ _
  refine WC.seq ?_
  refine WC.region ?_
  refine WL.run tbOk 2 (acc := []) rfl (by repeat' (first | exact trivial | assumption | intro _ | apply And.intro | (refine not_i ?_; assumption) | (refine and_l ?_; assumption) | (refine and_i ?_ ?_) | decide | omega | (simp [vcs]; done) | (simp only [List.length_map]; omega))) ?_
  refine WL.nil ?_
  refine WQ.thenNormal ?_
  refine WC.seq ?_
  refine WC.region ?_
  refine WL.run tbOk 3 (acc := []) rfl (by repeat' (first | exact trivial | assumption | intro _ | apply And.intro | (refine not_i ?_; assumption) | (refine and_l ?_; assumption) | (refine and_i ?_ ?_) | decide | omega | (simp [vcs]; done) | (simp only [List.length_map]; omega))) ?_
  refine WL.nil ?_
  refine WQ.thenNormal ?_
  refine WC.seq ?_
  refine WC.region ?_
  refine WL.run tbOk 1 (acc := []) rfl (by repeat' (first | exact trivial | assumption | intro _ | apply And.intro | (refine not_i ?_; assumption) | (refine and_l ?_; assumption) | (refine and_i ?_ ?_) | decide | omega | (simp [vcs]; done) | (simp only [List.length_map]; omega))) ?_
  obtain ⟨v, hvv, h⟩ := bnd h
  refine WL.call0 fn34 rfl rfl rfl rfl (by repeat' (first | exact trivial | assumption | intro _ | apply And.intro | (refine not_i ?_; assumption) | (refine and_l ?_; assumption) | (refine and_i ?_ ?_) | decide | omega | (simp [vcs]; done) | (simp only [List.length_map]; omega))) rfl (r08Split_con hw hvv) ?_
  refine WL.run tbOk 1 (acc := []) rfl (by repeat' (first | exact trivial | assumption | intro _ | apply And.intro | (refine not_i ?_; assumption) | (refine and_l ?_; assumption) | (refine and_i ?_ ?_) | decide | omega | (simp [vcs]; done) | (simp only [List.length_map]; omega))) ?_
  refine WL.nil ?_
  refine WQ.thenNormal ?_
  refine WC.seq ?_
  refine WC.seq ?_
  refine WC.region ?_
  refine WL.run tbOk 1 (acc := []) rfl (by repeat' (first | exact trivial | assumption | intro _ | apply And.intro | (refine not_i ?_; assumption) | (refine and_l ?_; assumption) | (refine and_i ?_ ?_) | decide | omega | (simp [vcs]; done) | (simp only [List.length_map]; omega))) ?_
  refine WL.nil ?_
  refine WQ.thenNormal ?_
  refine WC.block ?_
  obtain ⟨e1, hl1, hk1⟩ := bnd h
  clear h
  refine WC.loop (σ := Int × Int × Int × Int × Bool × Int × Bool × Int) (τ := (Int × Int × Int × Bool × Int × Bool × Int)) (fun sS => ⟨[(6, .v (.int .i64 sS.1)), (5, .v (.sl 1 (v.map eStr))), (4, .p 4 0), (2, .p 2 0), (0, .v (.str a0))], [(2, .blk 23 [.v (.int .i64 0), .v (.int .i64 0), .v (.int .i64 0), .v (.bool false), .v (.int .i64 0), .v (.bool false), .v (.int .i64 0)]), (4, .blk 23 [.v (.int .i64 sS.2.1), .v (.int .i64 sS.2.2.1), .v (.int .i64 sS.2.2.2.1), .v (.bool sS.2.2.2.2.1), .v (.int .i64 sS.2.2.2.2.2.1), .v (.bool sS.2.2.2.2.2.2.1), .v (.int .i64 sS.2.2.2.2.2.2.2)])]⟩) (refParseDuty_b1 a0 v) [] ((0 : Int), 0, 0, 0, false, 0, false, 0) hl1 ⟨(by repeat' (first | exact trivial | refine ⟨rfl, ?_⟩)), (by repeat' (first | exact trivial | refine ⟨rfl, ?_⟩)), rfl, rfl, rfl, rfl⟩ ?_
  rintro ⟨t6, c4_0, c4_1, c4_2, c4_3, c4_4, c4_5, c4_6⟩ m hn1 he1 hx1
  obtain ⟨o1, hf1⟩ := some_of hx1
  have h := hf1
  unfold refParseDuty_b1 at h
  show WC _ _ _ ⟨[(6, .v (.int .i64 t6)), (5, .v (.sl 1 (v.map eStr))), (4, .p 4 0), (2, .p 2 0), (0, .v (.str a0))], [(2, .blk 23 [.v (.int .i64 0), .v (.int .i64 0), .v (.int .i64 0), .v (.bool false), .v (.int .i64 0), .v (.bool false), .v (.int .i64 0)]), (4, .blk 23 [.v (.int .i64 c4_0), .v (.int .i64 c4_1), .v (.int .i64 c4_2), .v (.bool c4_3), .v (.int .i64 c4_4), .v (.bool c4_5), .v (.int .i64 c4_6)])]⟩ _ _
  refine WC.seq ?_
  refine WC.seq ?_
  refine WC.region ?_
  refine WL.run tbOk 2 (acc := []) rfl (by repeat' (first | exact trivial | assumption | intro _ | apply And.intro | (refine not_i ?_; assumption) | (refine and_l ?_; assumption) | (refine and_i ?_ ?_) | decide | omega | (simp [vcs]; done) | (simp only [List.length_map]; omega))) ?_
  refine WL.q [] rfl rfl rfl (q_ev tbOk (.v (.int .i64 (v.length : Int))) rfl (by repeat' (first | exact trivial | assumption | intro _ | apply And.intro | (refine not_i ?_; assumption) | (refine and_l ?_; assumption) | (refine and_i ?_ ?_) | decide | omega | (simp [vcs]; done) | (simp only [List.length_map]; omega))) (by simp only [List.length_map])) ?_
  refine WL.run tbOk 1 (acc := []) rfl (by repeat' (first | exact trivial | assumption | intro _ | apply And.intro | (refine not_i ?_; assumption) | (refine and_l ?_; assumption) | (refine and_i ?_ ?_) | decide | omega | (simp [vcs]; done) | (simp only [List.length_map]; omega))) ?_
  refine WL.nil ?_
  refine WQ.thenNormal ?_
  refine WC.cond rfl (fun hc2 => ?_) (fun hc2 => ?_)
  · replace h := ite_t hc2 h
    refine WC.skip ?_
    refine WQ.thenNormal ?_
    refine WC.seqCut (X := Int × Int × Int × Int × Bool × Int × Bool × Int) (fun gG => ⟨[(6, .v (.int .i64 gG.1)), (5, .v (.sl 1 (v.map eStr))), (4, .p 4 0), (2, .p 2 0), (0, .v (.str a0))], [(2, .blk 23 [.v (.int .i64 0), .v (.int .i64 0), .v (.int .i64 0), .v (.bool false), .v (.int .i64 0), .v (.bool false), .v (.int .i64 0)]), (4, .blk 23 [.v (.int .i64 gG.2.1), .v (.int .i64 gG.2.2.1), .v (.int .i64 gG.2.2.2.1), .v (.bool gG.2.2.2.2.1), .v (.int .i64 gG.2.2.2.2.2.1), .v (.bool gG.2.2.2.2.2.2.1), .v (.int .i64 gG.2.2.2.2.2.2.2)])]⟩) (fun gG => refParseDuty_j1 a0 v gG.1 gG.2.1 gG.2.2.1 gG.2.2.2.1 gG.2.2.2.2.1 gG.2.2.2.2.2.1 gG.2.2.2.2.2.2.1 gG.2.2.2.2.2.2.2 = some o1) ?_ ?_
    · refine WC.block ?_
      refine WC.seq ?_
      refine WC.region ?_
      refine WL.run tbOk 2 (acc := []) rfl (by repeat' (first | exact trivial | assumption | intro _ | apply And.intro | (refine not_i ?_; assumption) | (refine and_l ?_; assumption) | (refine and_i ?_ ?_) | decide | omega | (simp [vcs]; done) | (simp only [List.length_map]; omega))) ?_
      obtain ⟨g1, h⟩ := grd h
      obtain ⟨x9, hxx9, h⟩ := bnd h
      refine WL.q [] rfl rfl rfl (q_idx tbOk rfl (by repeat' (first | exact trivial | assumption | intro _ | apply And.intro | (refine not_i ?_; assumption) | (refine and_l ?_; assumption) | (refine and_i ?_ ?_) | decide | omega | (simp [vcs]; done) | (simp only [List.length_map]; omega))) g1 (map_get (f := eStr) hxx9)) ?_
      refine WL.run tbOk 1 (acc := []) rfl (by repeat' (first | exact trivial | assumption | intro _ | apply And.intro | (refine not_i ?_; assumption) | (refine and_l ?_; assumption) | (refine and_i ?_ ?_) | decide | omega | (simp [vcs]; done) | (simp only [List.length_map]; omega))) ?_
      obtain ⟨v9, hvv9, h⟩ := bnd h
      refine WL.call0 fn34 rfl rfl rfl rfl (by repeat' (first | exact trivial | assumption | intro _ | apply And.intro | (refine not_i ?_; assumption) | (refine and_l ?_; assumption) | (refine and_i ?_ ?_) | decide | omega | (simp [vcs]; done) | (simp only [List.length_map]; omega))) rfl (r08Split_con hw hvv9) ?_
      refine WL.run tbOk 1 (acc := []) rfl (by repeat' (first | exact trivial | assumption | intro _ | apply And.intro | (refine not_i ?_; assumption) | (refine and_l ?_; assumption) | (refine and_i ?_ ?_) | decide | omega | (simp [vcs]; done) | (simp only [List.length_map]; omega))) ?_
      refine WL.nil ?_
      refine WQ.thenNormal ?_
      refine WC.block ?_
      refine WC.seq ?_
      refine WC.region ?_
      refine WL.run tbOk 1 (acc := []) rfl (by repeat' (first | exact trivial | assumption | intro _ | apply And.intro | (refine not_i ?_; assumption) | (refine and_l ?_; assumption) | (refine and_i ?_ ?_) | decide | omega | (simp [vcs]; done) | (simp only [List.length_map]; omega))) ?_
      refine WL.q [] rfl rfl rfl (q_ev tbOk (.v (.int .i64 (v9.length : Int))) rfl (by repeat' (first | exact trivial | assumption | intro _ | apply And.intro | (refine not_i ?_; assumption) | (refine and_l ?_; assumption) | (refine and_i ?_ ?_) | decide | omega | (simp [vcs]; done) | (simp only [List.length_map]; omega))) (by simp only [List.length_map])) ?_
      refine WL.run tbOk 2 (acc := []) rfl (by repeat' (first | exact trivial | assumption | intro _ | apply And.intro | (refine not_i ?_; assumption) | (refine and_l ?_; assumption) | (refine and_i ?_ ?_) | decide | omega | (simp [vcs]; done) | (simp only [List.length_map]; omega))) ?_
      refine WL.nil ?_
      refine WQ.thenNormal ?_
      refine WC.cond rfl (fun hc3 => ?_) (fun hc3 => ?_)
      · replace h := ite_t hc3 h
        refine WC.seq ?_
        refine WC.region ?_
        refine WL.run tbOk 1 (acc := []) rfl (by repeat' (first | exact trivial | assumption | intro _ | apply And.intro | (refine not_i ?_; assumption) | (refine and_l ?_; assumption) | (refine and_i ?_ ?_) | decide | omega | (simp [vcs]; done) | (simp only [List.length_map]; omega))) ?_
        obtain ⟨x10, hxx10, h⟩ := bnd h
        refine WL.q [] rfl rfl rfl (q_idx tbOk rfl (by repeat' (first | exact trivial | assumption | intro _ | apply And.intro | (refine not_i ?_; assumption) | (refine and_l ?_; assumption) | (refine and_i ?_ ?_) | decide | omega | (simp [vcs]; done) | (simp only [List.length_map]; omega))) (by decide) (map_get (f := eStr) hxx10)) ?_
        refine WL.run tbOk 1 (acc := []) rfl (by repeat' (first | exact trivial | assumption | intro _ | apply And.intro | (refine not_i ?_; assumption) | (refine and_l ?_; assumption) | (refine and_i ?_ ?_) | decide | omega | (simp [vcs]; done) | (simp only [List.length_map]; omega))) ?_
        obtain ⟨v10, hvv10, h⟩ := bnd h
        refine WL.call0 fn35 rfl rfl rfl rfl (by repeat' (first | exact trivial | assumption | intro _ | apply And.intro | (refine not_i ?_; assumption) | (refine and_l ?_; assumption) | (refine and_i ?_ ?_) | decide | omega | (simp [vcs]; done) | (simp only [List.length_map]; omega))) rfl (r02Parse_con hw hvv10) ?_
        refine WL.run tbOk 5 (acc := []) rfl (by repeat' (first | exact trivial | assumption | intro _ | apply And.intro | (refine not_i ?_; assumption) | (refine and_l ?_; assumption) | (refine and_i ?_ ?_) | decide | omega | (simp [vcs]; done) | (simp only [List.length_map]; omega))) ?_
        refine WL.nil ?_
        refine WQ.thenNormal ?_
        refine WC.region ?_
        refine WL.run tbOk 1 (acc := []) rfl (by repeat' (first | exact trivial | assumption | intro _ | apply And.intro | (refine not_i ?_; assumption) | (refine and_l ?_; assumption) | (refine and_i ?_ ?_) | decide | omega | (simp [vcs]; done) | (simp only [List.length_map]; omega))) ?_
        obtain ⟨x11, hxx11, h⟩ := bnd h
        refine WL.q [] rfl rfl rfl (q_idx tbOk rfl (by repeat' (first | exact trivial | assumption | intro _ | apply And.intro | (refine not_i ?_; assumption) | (refine and_l ?_; assumption) | (refine and_i ?_ ?_) | decide | omega | (simp [vcs]; done) | (simp only [List.length_map]; omega))) (by decide) (map_get (f := eStr) hxx11)) ?_
        refine WL.run tbOk 1 (acc := []) rfl (by repeat' (first | exact trivial | assumption | intro _ | apply And.intro | (refine not_i ?_; assumption) | (refine and_l ?_; assumption) | (refine and_i ?_ ?_) | decide | omega | (simp [vcs]; done) | (simp only [List.length_map]; omega))) ?_
        obtain ⟨v11, hvv11, h⟩ := bnd h
        refine WL.call0 fn36 rfl rfl rfl rfl (by repeat' (first | exact trivial | assumption | intro _ | apply And.intro | (refine not_i ?_; assumption) | (refine and_l ?_; assumption) | (refine and_i ?_ ?_) | decide | omega | (simp [vcs]; done) | (simp only [List.length_map]; omega))) rfl (r08Num_con hw hvv11) ?_
        refine WL.run tbOk 2 (acc := []) rfl (by repeat' (first | exact trivial | assumption | intro _ | apply And.intro | (refine not_i ?_; assumption) | (refine and_l ?_; assumption) | (refine and_i ?_ ?_) | decide | omega | (simp [vcs]; done) | (simp only [List.length_map]; omega))) ?_
        refine WL.nil ?_
        refine WQ.blockNormal ?_
        refine WQ.blockNormal ?_
        exact WQ.cut [] (t6, c4_0, v10.1, v11, c4_3, c4_4, c4_5, c4_6) ⟨(by repeat' (first | exact trivial | refine ⟨rfl, ?_⟩)), (by repeat' (first | exact trivial | refine ⟨rfl, ?_⟩)), rfl, rfl, rfl, rfl⟩ h
      · replace h := ite_f hc3 h
        refine WC.seq ?_
        refine WC.region ?_
        refine WL.run tbOk 2 (acc := []) rfl (by repeat' (first | exact trivial | assumption | intro _ | apply And.intro | (refine not_i ?_; assumption) | (refine and_l ?_; assumption) | (refine and_i ?_ ?_) | decide | omega | (simp [vcs]; done) | (simp only [List.length_map]; omega))) ?_
        obtain ⟨g2, h⟩ := grd h
        obtain ⟨x12, hxx12, h⟩ := bnd h
        refine WL.q [] rfl rfl rfl (q_idx tbOk rfl (by repeat' (first | exact trivial | assumption | intro _ | apply And.intro | (refine not_i ?_; assumption) | (refine and_l ?_; assumption) | (refine and_i ?_ ?_) | decide | omega | (simp [vcs]; done) | (simp only [List.length_map]; omega))) g2 (map_get (f := eStr) hxx12)) ?_
        refine WL.run tbOk 6 (acc := []) rfl (by repeat' (first | exact trivial | assumption | intro _ | apply And.intro | (refine not_i ?_; assumption) | (refine and_l ?_; assumption) | (refine and_i ?_ ?_) | decide | omega | (simp [vcs]; done) | (simp only [List.length_map]; omega))) ?_
        refine WL.gq [] rfl rfl rfl rfl (fun hg => q_ev tbOk (.v (.int .i64 (v.length : Int))) rfl (by repeat' (first | exact trivial | assumption | intro _ | apply And.intro | (refine not_i ?_; assumption) | (refine and_l ?_; assumption) | (refine and_i ?_ ?_) | decide | omega | (simp [vcs]; done) | (simp only [List.length_map]; omega))) (by simp only [List.length_map])) ?_
        refine WL.run tbOk 3 (acc := []) rfl (by repeat' (first | exact trivial | assumption | intro _ | apply And.intro | (refine not_i ?_; assumption) | (refine and_l ?_; assumption) | (refine and_i ?_ ?_) | decide | omega | (simp [vcs]; done) | (simp only [List.length_map]; omega))) ?_
        refine WL.nil ?_
        refine WQ.thenNormal ?_
        refine WC.cond rfl (fun hc4 => ?_) (fun hc4 => ?_)
        · replace h := ite_t hc4 h
          refine WC.seq ?_
          refine WC.region ?_
          refine WL.run tbOk 3 (acc := []) rfl (by repeat' (first | exact trivial | assumption | intro _ | apply And.intro | (refine not_i ?_; assumption) | (refine and_l ?_; assumption) | (refine and_i ?_ ?_) | decide | omega | (simp [vcs]; done) | (simp only [List.length_map]; omega))) ?_
          refine WL.nil ?_
          refine WQ.thenNormal ?_
          refine WC.region ?_
          refine WL.run tbOk 2 (acc := []) rfl (by repeat' (first | exact trivial | assumption | intro _ | apply And.intro | (refine not_i ?_; assumption) | (refine and_l ?_; assumption) | (refine and_i ?_ ?_) | decide | omega | (simp [vcs]; done) | (simp only [List.length_map]; omega))) ?_
          obtain ⟨g3, h⟩ := grd h
          obtain ⟨x13, hxx13, h⟩ := bnd h
          refine WL.q [] rfl rfl rfl (q_idx tbOk rfl (by repeat' (first | exact trivial | assumption | intro _ | apply And.intro | (refine not_i ?_; assumption) | (refine and_l ?_; assumption) | (refine and_i ?_ ?_) | decide | omega | (simp [vcs]; done) | (simp only [List.length_map]; omega))) g3 (map_get (f := eStr) hxx13)) ?_
          refine WL.run tbOk 1 (acc := []) rfl (by repeat' (first | exact trivial | assumption | intro _ | apply And.intro | (refine not_i ?_; assumption) | (refine and_l ?_; assumption) | (refine and_i ?_ ?_) | decide | omega | (simp [vcs]; done) | (simp only [List.length_map]; omega))) ?_
          obtain ⟨v12, hvv12, h⟩ := bnd h
          refine WL.call0 fn37 rfl rfl rfl rfl (by repeat' (first | exact trivial | assumption | intro _ | apply And.intro | (refine not_i ?_; assumption) | (refine and_l ?_; assumption) | (refine and_i ?_ ?_) | decide | omega | (simp [vcs]; done) | (simp only [List.length_map]; omega))) rfl (refShare_con hw hvv12) ?_
          refine WL.run tbOk 4 (acc := []) rfl (by repeat' (first | exact trivial | assumption | intro _ | apply And.intro | (refine not_i ?_; assumption) | (refine and_l ?_; assumption) | (refine and_i ?_ ?_) | decide | omega | (simp [vcs]; done) | (simp only [List.length_map]; omega))) ?_
          refine WL.nil ?_
          refine WQ.blockNormal ?_
          refine WQ.blockNormal ?_
          exact WQ.cut [] ((IntKind.i64.wrap (t6 + (1 : Int))), c4_0, c4_1, c4_2, true, v12, c4_5, c4_6) ⟨(by repeat' (first | exact trivial | refine ⟨rfl, ?_⟩)), (by repeat' (first | exact trivial | refine ⟨rfl, ?_⟩)), rfl, rfl, rfl, rfl⟩ h
        · replace h := ite_f hc4 h
          refine WC.seq ?_
          refine WC.region ?_
          refine WL.run tbOk 2 (acc := []) rfl (by repeat' (first | exact trivial | assumption | intro _ | apply And.intro | (refine not_i ?_; assumption) | (refine and_l ?_; assumption) | (refine and_i ?_ ?_) | decide | omega | (simp [vcs]; done) | (simp only [List.length_map]; omega))) ?_
          obtain ⟨g4, h⟩ := grd h
          obtain ⟨x14, hxx14, h⟩ := bnd h
          refine WL.q [] rfl rfl rfl (q_idx tbOk rfl (by repeat' (first | exact trivial | assumption | intro _ | apply And.intro | (refine not_i ?_; assumption) | (refine and_l ?_; assumption) | (refine and_i ?_ ?_) | decide | omega | (simp [vcs]; done) | (simp only [List.length_map]; omega))) g4 (map_get (f := eStr) hxx14)) ?_
          refine WL.run tbOk 6 (acc := []) rfl (by repeat' (first | exact trivial | assumption | intro _ | apply And.intro | (refine not_i ?_; assumption) | (refine and_l ?_; assumption) | (refine and_i ?_ ?_) | decide | omega | (simp [vcs]; done) | (simp only [List.length_map]; omega))) ?_
          refine WL.gq [] rfl rfl rfl rfl (fun hg => q_ev tbOk (.v (.int .i64 (v.length : Int))) rfl (by repeat' (first | exact trivial | assumption | intro _ | apply And.intro | (refine not_i ?_; assumption) | (refine and_l ?_; assumption) | (refine and_i ?_ ?_) | decide | omega | (simp [vcs]; done) | (simp only [List.length_map]; omega))) (by simp only [List.length_map])) ?_
          refine WL.run tbOk 3 (acc := []) rfl (by repeat' (first | exact trivial | assumption | intro _ | apply And.intro | (refine not_i ?_; assumption) | (refine and_l ?_; assumption) | (refine and_i ?_ ?_) | decide | omega | (simp [vcs]; done) | (simp only [List.length_map]; omega))) ?_
          refine WL.nil ?_
          refine WQ.thenNormal ?_
          refine WC.cond rfl (fun hc5 => ?_) (fun hc5 => ?_)
          · replace h := ite_t hc5 h
            refine WC.seq ?_
            refine WC.region ?_
            refine WL.run tbOk 3 (acc := []) rfl (by repeat' (first | exact trivial | assumption | intro _ | apply And.intro | (refine not_i ?_; assumption) | (refine and_l ?_; assumption) | (refine and_i ?_ ?_) | decide | omega | (simp [vcs]; done) | (simp only [List.length_map]; omega))) ?_
            refine WL.nil ?_
            refine WQ.thenNormal ?_
            refine WC.region ?_
            refine WL.run tbOk 2 (acc := []) rfl (by repeat' (first | exact trivial | assumption | intro _ | apply And.intro | (refine not_i ?_; assumption) | (refine and_l ?_; assumption) | (refine and_i ?_ ?_) | decide | omega | (simp [vcs]; done) | (simp only [List.length_map]; omega))) ?_
            obtain ⟨g5, h⟩ := grd h
            obtain ⟨x15, hxx15, h⟩ := bnd h
            refine WL.q [] rfl rfl rfl (q_idx tbOk rfl (by repeat' (first | exact trivial | assumption | intro _ | apply And.intro | (refine not_i ?_; assumption) | (refine and_l ?_; assumption) | (refine and_i ?_ ?_) | decide | omega | (simp [vcs]; done) | (simp only [List.length_map]; omega))) g5 (map_get (f := eStr) hxx15)) ?_
            refine WL.run tbOk 1 (acc := []) rfl (by repeat' (first | exact trivial | assumption | intro _ | apply And.intro | (refine not_i ?_; assumption) | (refine and_l ?_; assumption) | (refine and_i ?_ ?_) | decide | omega | (simp [vcs]; done) | (simp only [List.length_map]; omega))) ?_
            obtain ⟨v13, hvv13, h⟩ := bnd h
            refine WL.call0 fn37 rfl rfl rfl rfl (by repeat' (first | exact trivial | assumption | intro _ | apply And.intro | (refine not_i ?_; assumption) | (refine and_l ?_; assumption) | (refine and_i ?_ ?_) | decide | omega | (simp [vcs]; done) | (simp only [List.length_map]; omega))) rfl (refShare_con hw hvv13) ?_
            refine WL.run tbOk 4 (acc := []) rfl (by repeat' (first | exact trivial | assumption | intro _ | apply And.intro | (refine not_i ?_; assumption) | (refine and_l ?_; assumption) | (refine and_i ?_ ?_) | decide | omega | (simp [vcs]; done) | (simp only [List.length_map]; omega))) ?_
            refine WL.nil ?_
            refine WQ.blockNormal ?_
            refine WQ.blockNormal ?_
            exact WQ.cut [] ((IntKind.i64.wrap (t6 + (1 : Int))), c4_0, c4_1, c4_2, c4_3, c4_4, true, v13) ⟨(by repeat' (first | exact trivial | refine ⟨rfl, ?_⟩)), (by repeat' (first | exact trivial | refine ⟨rfl, ?_⟩)), rfl, rfl, rfl, rfl⟩ h
          · replace h := ite_f hc5 h
            refine WC.seq ?_
            refine WC.region ?_
            refine WL.run tbOk 3 (acc := []) rfl (by repeat' (first | exact trivial | assumption | intro _ | apply And.intro | (refine not_i ?_; assumption) | (refine and_l ?_; assumption) | (refine and_i ?_ ?_) | decide | omega | (simp [vcs]; done) | (simp only [List.length_map]; omega))) ?_
            refine WL.nil ?_
            refine WQ.thenNormal ?_
            refine WC.cond rfl (fun hc6 => ?_) (fun hc6 => ?_)
            · replace h := ite_t hc6 h
              refine WC.region ?_
              refine WL.run tbOk 2 (acc := []) rfl (by repeat' (first | exact trivial | assumption | intro _ | apply And.intro | (refine not_i ?_; assumption) | (refine and_l ?_; assumption) | (refine and_i ?_ ?_) | decide | omega | (simp [vcs]; done) | (simp only [List.length_map]; omega))) ?_
              obtain ⟨g6, h⟩ := grd h
              obtain ⟨x16, hxx16, h⟩ := bnd h
              refine WL.q [] rfl rfl rfl (q_idx tbOk rfl (by repeat' (first | exact trivial | assumption | intro _ | apply And.intro | (refine not_i ?_; assumption) | (refine and_l ?_; assumption) | (refine and_i ?_ ?_) | decide | omega | (simp [vcs]; done) | (simp only [List.length_map]; omega))) g6 (map_get (f := eStr) hxx16)) ?_
              refine WL.run tbOk 1 (acc := []) rfl (by repeat' (first | exact trivial | assumption | intro _ | apply And.intro | (refine not_i ?_; assumption) | (refine and_l ?_; assumption) | (refine and_i ?_ ?_) | decide | omega | (simp [vcs]; done) | (simp only [List.length_map]; omega))) ?_
              obtain ⟨v14, hvv14, h⟩ := bnd h
              refine WL.call0 fn37 rfl rfl rfl rfl (by repeat' (first | exact trivial | assumption | intro _ | apply And.intro | (refine not_i ?_; assumption) | (refine and_l ?_; assumption) | (refine and_i ?_ ?_) | decide | omega | (simp [vcs]; done) | (simp only [List.length_map]; omega))) rfl (refShare_con hw hvv14) ?_
              refine WL.run tbOk 2 (acc := []) rfl (by repeat' (first | exact trivial | assumption | intro _ | apply And.intro | (refine not_i ?_; assumption) | (refine and_l ?_; assumption) | (refine and_i ?_ ?_) | decide | omega | (simp [vcs]; done) | (simp only [List.length_map]; omega))) ?_
              refine WL.nil ?_
              refine WQ.blockNormal ?_
              refine WQ.blockNormal ?_
              exact WQ.cut [] (t6, v14, c4_1, c4_2, c4_3, c4_4, c4_5, c4_6) ⟨(by repeat' (first | exact trivial | refine ⟨rfl, ?_⟩)), (by repeat' (first | exact trivial | refine ⟨rfl, ?_⟩)), rfl, rfl, rfl, rfl⟩ h
            · replace h := ite_f hc6 h
              refine WC.skip ?_
              refine WQ.blockNormal ?_
              refine WQ.blockNormal ?_
              exact WQ.cut [] (t6, c4_0, c4_1, c4_2, c4_3, c4_4, c4_5, c4_6) ⟨(by repeat' (first | exact trivial | refine ⟨rfl, ?_⟩)), (by repeat' (first | exact trivial | refine ⟨rfl, ?_⟩)), rfl, rfl, rfl, rfl⟩ h
    · rintro ⟨t64, c4_05, c4_15, c4_25, c4_35, c4_45, c4_55, c4_65⟩ h
      replace h : refParseDuty_j1 a0 v t64 c4_05 c4_15 c4_25 c4_35 c4_45 c4_55 c4_65 = some _ := h
      unfold refParseDuty_j1 at h
      show WC _ _ _ ⟨[(6, .v (.int .i64 t64)), (5, .v (.sl 1 (v.map eStr))), (4, .p 4 0), (2, .p 2 0), (0, .v (.str a0))], [(2, .blk 23 [.v (.int .i64 0), .v (.int .i64 0), .v (.int .i64 0), .v (.bool false), .v (.int .i64 0), .v (.bool false), .v (.int .i64 0)]), (4, .blk 23 [.v (.int .i64 c4_05), .v (.int .i64 c4_15), .v (.int .i64 c4_25), .v (.bool c4_35), .v (.int .i64 c4_45), .v (.bool c4_55), .v (.int .i64 c4_65)])]⟩ _ _
      refine WC.region ?_
      refine WL.run tbOk 3 (acc := []) rfl (by repeat' (first | exact trivial | assumption | intro _ | apply And.intro | (refine not_i ?_; assumption) | (refine and_l ?_; assumption) | (refine and_i ?_ ?_) | decide | omega | (simp [vcs]; done) | (simp only [List.length_map]; omega))) ?_
      refine WL.nil ?_
      cases h
      exact WQ.next [] ((IntKind.i64.wrap (t64 + (1 : Int))), c4_05, c4_15, c4_25, c4_35, c4_45, c4_55, c4_65) ⟨(by repeat' (first | exact trivial | refine ⟨rfl, ?_⟩)), (by repeat' (first | exact trivial | refine ⟨rfl, ?_⟩)), rfl, rfl, rfl, rfl⟩ (hn1 _ hf1)
  · replace h := ite_f hc2 h
    refine WC.exit ?_
    refine WQ.thenExit ?_
    cases h
    have he := he1 _ hf1
    subst he
    replace h := hk1
    dsimp only at h
    refine WQ.thenExit ?_
    refine WQ.blockExit ?_
    refine WQ.thenNormal ?_
    refine WC.seq ?_
    refine WC.seq ?_
    refine WC.region ?_
    refine WL.run tbOk 4 (acc := []) rfl (by repeat' (first | exact trivial | assumption | intro _ | apply And.intro | (refine not_i ?_; assumption) | (refine and_l ?_; assumption) | (refine and_i ?_ ?_) | decide | omega | (simp [vcs]; done) | (simp only [List.length_map]; omega))) ?_
    obtain ⟨v15, hvv15, h⟩ := bnd h
    refine WL.gcall0 fn16 rfl rfl rfl rfl rfl (fun _ => (by repeat' (first | exact trivial | assumption | intro _ | apply And.intro | (refine not_i ?_; assumption) | (refine and_l ?_; assumption) | (refine and_i ?_ ?_) | decide | omega | (simp [vcs]; done) | (simp only [List.length_map]; omega)))) rfl (fun hg => (refFormatDuty_con hw (ite_t hg hvv15))) ?_
    refine WL.run tbOk 3 (acc := []) rfl (by repeat' (first | exact trivial | assumption | intro _ | apply And.intro | (refine not_i ?_; assumption) | (refine and_l ?_; assumption) | (refine and_i ?_ ?_) | decide | omega | (simp [vcs]; done) | (simp only [List.length_map]; omega))) ?_
    refine WL.nil ?_
    refine WQ.thenNormal ?_
    refine WC.cond rfl (fun hc7 => ?_) (fun hc7 => ?_)
    · replace h := ite_t hc7 h
      refine WC.seq ?_
      refine WC.region ?_
      refine WL.run tbOk 3 (acc := []) rfl (by repeat' (first | exact trivial | assumption | intro _ | apply And.intro | (refine not_i ?_; assumption) | (refine and_l ?_; assumption) | (refine and_i ?_ ?_) | decide | omega | (simp [vcs]; done) | (simp only [List.length_map]; omega))) ?_
      refine WL.nil ?_
      refine WQ.thenNormal ?_
      refine WC.ret ?_
      refine WQ.thenRet ?_
      cases h
      exact WQ.rets tbOk (r := .tup [.v (.agg [.int .i64 ((⟨0, 0, 0, false, 0, false, 0⟩ : ApiDuty).Rate), .int .i64 ((⟨0, 0, 0, false, 0, false, 0⟩ : ApiDuty).Amount), .int .i64 ((⟨0, 0, 0, false, 0, false, 0⟩ : ApiDuty).Per), .bool ((⟨0, 0, 0, false, 0, false, 0⟩ : ApiDuty).HasMost), .int .i64 ((⟨0, 0, 0, false, 0, false, 0⟩ : ApiDuty).Most), .bool ((⟨0, 0, 0, false, 0, false, 0⟩ : ApiDuty).HasLeast), .int .i64 ((⟨0, 0, 0, false, 0, false, 0⟩ : ApiDuty).Least)]), .v (.int .i64 (4 : Int))]) hR [] (.inl rfl) rfl rfl (Le.tup (.cons (Le.refl _) (.cons (Le.refl _) .nil))) (by repeat' (first | exact trivial | refine ⟨rfl, ?_⟩)) rfl rfl rfl rfl
    · replace h := ite_f hc7 h
      refine WC.skip ?_
      refine WQ.thenNormal ?_
      refine WC.seq ?_
      refine WC.region ?_
      refine WL.run tbOk 3 (acc := []) rfl (by repeat' (first | exact trivial | assumption | intro _ | apply And.intro | (refine not_i ?_; assumption) | (refine and_l ?_; assumption) | (refine and_i ?_ ?_) | decide | omega | (simp [vcs]; done) | (simp only [List.length_map]; omega))) ?_
      refine WL.nil ?_
      refine WQ.thenNormal ?_
      refine WC.ret ?_
      cases h
      exact WQ.rets tbOk (r := .tup [.v (.agg [.int .i64 ((⟨c4_0, c4_1, c4_2, c4_3, c4_4, c4_5, c4_6⟩ : ApiDuty).Rate), .int .i64 ((⟨c4_0, c4_1, c4_2, c4_3, c4_4, c4_5, c4_6⟩ : ApiDuty).Amount), .int .i64 ((⟨c4_0, c4_1, c4_2, c4_3, c4_4, c4_5, c4_6⟩ : ApiDuty).Per), .bool ((⟨c4_0, c4_1, c4_2, c4_3, c4_4, c4_5, c4_6⟩ : ApiDuty).HasMost), .int .i64 ((⟨c4_0, c4_1, c4_2, c4_3, c4_4, c4_5, c4_6⟩ : ApiDuty).Most), .bool ((⟨c4_0, c4_1, c4_2, c4_3, c4_4, c4_5, c4_6⟩ : ApiDuty).HasLeast), .int .i64 ((⟨c4_0, c4_1, c4_2, c4_3, c4_4, c4_5, c4_6⟩ : ApiDuty).Least)]), .v (.int .i64 (0 : Int))]) hR [] (.inl rfl) rfl rfl (Le.tup (.cons (Le.refl _) (.cons (Le.refl _) .nil))) (by repeat' (first | exact trivial | refine ⟨rfl, ?_⟩)) rfl rfl rfl rfl

end Go.Proofs.YtinickkcieecdaaGreatDoor
