/- Contracts: the program's functions compute the plain ones; by program (gen.py). -/
import Derived.Test.YtlacgaihahemmaaGreatDoorLib
import Derived.Test.YtlacgaihahemmaaGreatDoorPg
import Derived.Test.YtlacgaihahemmaaGreatDoorCa
import Derived.Test.YtlacgaihahemmaaGreatDoorCb
import Derived.Test.YtlacgaihahemmaaGreatDoorCc
import Derived.Test.YtlacgaihahemmaaGreatDoorCd
import Derived.Test.YtlacgaihahemmaaGreatDoorCe
set_option linter.unusedVariables false
set_option linter.unusedSimpArgs false
namespace Go.Proofs.YtlacgaihahemmaaGreatDoor
open Go.V Go.C

theorem refHas_con {wg : World} (hw : WG wg) {l : (List Str)} {s : Str} {r : Bool} (h : refHas l s = some r) : Con Tryz.prog wg gl 90 [.v (.sl 1 (l.map eStr)), .v (.str s)] [] (.v (.bool r)) [] := by
  unfold refHas at h
  refine con_of_WC (S := slotsOf 0 _) Tryz.func90 rfl Tryz.ntmps90 rfl (fun t x hx => (slotsOf_get hx).2) ?_
  intro F L w ρ0 R hR
  show WC _ _ _ ⟨[(0, .v (.sl 1 (l.map eStr))), (1, .v (.str s))], []⟩ _ _
  refine WC.seq ?_
  refine WC.region ?_
  refine WL.run tbOk 1 (acc := []) rfl trivial ?_
  refine WL.nil ?_
  refine WQ.thenNormal ?_
  refine WC.seq ?_
  refine WC.seq ?_
  refine WC.region ?_
  refine WL.run tbOk 1 (acc := []) rfl trivial ?_
  refine WL.nil ?_
  refine WQ.thenNormal ?_
  refine WC.thenCut (X := Unit) (fun gG => ⟨[], []⟩) (fun gG => refHas_j1  = some r) ?_ ?_
  · refine WC.block ?_
    obtain ⟨eQ1, hl1, hk1⟩ := bnd h
    clear h
    refine WC.loop (σ := Int) (τ := ((Bool) ⊕ (Unit))) (fun sS => ⟨[(5, .v (.int .i64 sS)), (0, .v (.sl 1 (l.map eStr))), (1, .v (.str s))], []⟩) (refHas_b1 l s) [] (0 : Int) hl1 ⟨(by exact ⟨rfl, rfl, rfl, trivial⟩), (by exact trivial), rfl, rfl, rfl, rfl⟩ ?_
    intro i m hn1 he1 hx1
    obtain ⟨o1, hf1⟩ := some_of hx1
    have h := hf1
    unfold refHas_b1 at h
    show WC _ _ _ ⟨[(5, .v (.int .i64 i)), (0, .v (.sl 1 (l.map eStr))), (1, .v (.str s))], []⟩ _ _
    refine WC.seq ?_
    refine WC.seq ?_
    refine WC.region ?_
    refine WL.run tbOk 2 (acc := []) rfl trivial ?_
    refine WL.q [] rfl rfl rfl (q_ev tbOk (.v (.int .i64 (l.length : Int))) rfl (by exact trivial) (by first | (simp only [List.length_map]; done) | (simp only [List.length_map]; rfl) | rfl)) ?_
    refine WL.run tbOk 1 (acc := []) rfl trivial ?_
    refine WL.nil ?_
    refine WQ.thenNormal ?_
    refine WC.cond rfl (fun hc1 => ?_) (fun hc1 => ?_)
    · replace h := ite_t hc1 h
      refine WC.skip ?_
      refine WQ.thenNormal ?_
      refine WC.seq ?_
      refine WC.block ?_
      refine WC.seq ?_
      refine WC.region ?_
      refine WL.run tbOk 2 (acc := []) rfl trivial ?_
      obtain ⟨g1, h⟩ := grd h
      obtain ⟨x2, hxx2, h⟩ := bnd h
      refine WL.q [] rfl rfl rfl (q_idx tbOk rfl (by exact trivial) g1 (map_get (f := eStr) hxx2)) ?_
      refine WL.run tbOk 3 (acc := []) rfl trivial ?_
      refine WL.nil ?_
      refine WQ.thenNormal ?_
      refine WC.cond rfl (fun hc2 => ?_) (fun hc2 => ?_)
      · replace h := ite_t hc2 h
        refine WC.seq ?_
        refine WC.region ?_
        refine WL.run tbOk 1 (acc := []) rfl trivial ?_
        refine WL.nil ?_
        refine WQ.thenNormal ?_
        refine WC.ret ?_
        refine WQ.blockRet ?_
        refine WQ.thenRet ?_
        cases h
        have he := he1 _ hf1
        subst he
        have h : some true = some _ := hk1
        refine WQ.thenRet ?_
        refine WQ.blockRet ?_
        refine WQ.thenRet ?_
        cases h
        exact WQ.rets tbOk hR [] (.inl rfl) rfl rfl (Le.refl _) (by exact trivial) rfl rfl rfl rfl
      · replace h := ite_f hc2 h
        refine WC.skip ?_
        refine WQ.blockNormal ?_
        refine WQ.thenNormal ?_
        refine WC.region ?_
        refine WL.run tbOk 3 (acc := []) rfl trivial ?_
        refine WL.nil ?_
        cases h
        exact WQ.next [] (IntKind.i64.wrap (i + (1 : Int))) ⟨(by exact ⟨rfl, rfl, rfl, trivial⟩), (by exact trivial), rfl, rfl, rfl, rfl⟩ (hn1 _ hf1)
    · replace h := ite_f hc1 h
      refine WC.exit ?_
      refine WQ.thenExit ?_
      cases h
      have he := he1 _ hf1
      subst he
      replace h := hk1
      try dsimp only at h
      refine WQ.thenExit ?_
      refine WQ.blockExit ?_
      exact WQ.cut [] () ⟨(by exact trivial), (by exact trivial), rfl, rfl, rfl, rfl⟩ h
  · intro _ h
    replace h : refHas_j1 = some _ := h
    unfold refHas_j1 at h
    show WC _ _ _ ⟨[], []⟩ _ _
    refine WC.seq ?_
    refine WC.region ?_
    refine WL.run tbOk 1 (acc := []) rfl trivial ?_
    refine WL.nil ?_
    refine WQ.thenNormal ?_
    refine WC.ret ?_
    cases h
    exact WQ.rets tbOk hR [] (.inl rfl) rfl rfl (Le.refl _) (by exact trivial) rfl rfl rfl rfl

theorem refSubset_con {wg : World} (hw : WG wg) {a : (List Str)} {b : (List Str)} {r : Bool} (h : refSubset a b = some r) : Con Tryz.prog wg gl 65 [.v (.sl 1 (a.map eStr)), .v (.sl 1 (b.map eStr))] [] (.v (.bool r)) [] := by
  unfold refSubset at h
  refine con_of_WC (S := slotsOf 0 _) Tryz.func65 rfl Tryz.ntmps65 rfl (fun t x hx => (slotsOf_get hx).2) ?_
  intro F L w ρ0 R hR
  show WC _ _ _ ⟨[(0, .v (.sl 1 (a.map eStr))), (1, .v (.sl 1 (b.map eStr)))], []⟩ _ _
  refine WC.seq ?_
  refine WC.region ?_
  refine WL.run tbOk 1 (acc := []) rfl trivial ?_
  refine WL.nil ?_
  refine WQ.thenNormal ?_
  refine WC.seq ?_
  refine WC.seq ?_
  refine WC.region ?_
  refine WL.run tbOk 1 (acc := []) rfl trivial ?_
  refine WL.nil ?_
  refine WQ.thenNormal ?_
  refine WC.thenCut (X := Unit) (fun gG => ⟨[], []⟩) (fun gG => refSubset_j1  = some r) ?_ ?_
  · refine WC.block ?_
    obtain ⟨eQ1, hl1, hk1⟩ := bnd h
    clear h
    refine WC.loop (σ := Int) (τ := ((Bool) ⊕ (Unit))) (fun sS => ⟨[(5, .v (.int .i64 sS)), (0, .v (.sl 1 (a.map eStr))), (1, .v (.sl 1 (b.map eStr)))], []⟩) (refSubset_b1 a b) [] (0 : Int) hl1 ⟨(by exact ⟨rfl, rfl, rfl, trivial⟩), (by exact trivial), rfl, rfl, rfl, rfl⟩ ?_
    intro i m hn1 he1 hx1
    obtain ⟨o1, hf1⟩ := some_of hx1
    have h := hf1
    unfold refSubset_b1 at h
    show WC _ _ _ ⟨[(5, .v (.int .i64 i)), (0, .v (.sl 1 (a.map eStr))), (1, .v (.sl 1 (b.map eStr)))], []⟩ _ _
    refine WC.seq ?_
    refine WC.seq ?_
    refine WC.region ?_
    refine WL.run tbOk 2 (acc := []) rfl trivial ?_
    refine WL.q [] rfl rfl rfl (q_ev tbOk (.v (.int .i64 (a.length : Int))) rfl (by exact trivial) (by first | (simp only [List.length_map]; done) | (simp only [List.length_map]; rfl) | rfl)) ?_
    refine WL.run tbOk 1 (acc := []) rfl trivial ?_
    refine WL.nil ?_
    refine WQ.thenNormal ?_
    refine WC.cond rfl (fun hc1 => ?_) (fun hc1 => ?_)
    · replace h := ite_t hc1 h
      refine WC.skip ?_
      refine WQ.thenNormal ?_
      refine WC.seq ?_
      refine WC.block ?_
      refine WC.seq ?_
      refine WC.region ?_
      refine WL.run tbOk 3 (acc := []) rfl trivial ?_
      obtain ⟨g1, h⟩ := grd h
      obtain ⟨x2, hxx2, h⟩ := bnd h
      refine WL.q [] rfl rfl rfl (q_idx tbOk rfl (by exact trivial) g1 (map_get (f := eStr) hxx2)) ?_
      refine WL.run tbOk 1 (acc := []) rfl trivial ?_
      obtain ⟨v2, hvv2, h⟩ := bnd h
      refine WL.call0 fn90 rfl rfl rfl rfl (by exact trivial) rfl (refHas_con hw hvv2) ?_
      refine WL.run tbOk 1 (acc := []) rfl trivial ?_
      refine WL.nil ?_
      refine WQ.thenNormal ?_
      refine WC.cond rfl (fun hc2 => ?_) (fun hc2 => ?_)
      · replace h := ite_t hc2 h
        refine WC.seq ?_
        refine WC.region ?_
        refine WL.run tbOk 1 (acc := []) rfl trivial ?_
        refine WL.nil ?_
        refine WQ.thenNormal ?_
        refine WC.ret ?_
        refine WQ.blockRet ?_
        refine WQ.thenRet ?_
        cases h
        have he := he1 _ hf1
        subst he
        have h : some false = some _ := hk1
        refine WQ.thenRet ?_
        refine WQ.blockRet ?_
        refine WQ.thenRet ?_
        cases h
        exact WQ.rets tbOk hR [] (.inl rfl) rfl rfl (Le.refl _) (by exact trivial) rfl rfl rfl rfl
      · replace h := ite_f hc2 h
        refine WC.skip ?_
        refine WQ.blockNormal ?_
        refine WQ.thenNormal ?_
        refine WC.region ?_
        refine WL.run tbOk 3 (acc := []) rfl trivial ?_
        refine WL.nil ?_
        cases h
        exact WQ.next [] (IntKind.i64.wrap (i + (1 : Int))) ⟨(by exact ⟨rfl, rfl, rfl, trivial⟩), (by exact trivial), rfl, rfl, rfl, rfl⟩ (hn1 _ hf1)
    · replace h := ite_f hc1 h
      refine WC.exit ?_
      refine WQ.thenExit ?_
      cases h
      have he := he1 _ hf1
      subst he
      replace h := hk1
      try dsimp only at h
      refine WQ.thenExit ?_
      refine WQ.blockExit ?_
      exact WQ.cut [] () ⟨(by exact trivial), (by exact trivial), rfl, rfl, rfl, rfl⟩ h
  · intro _ h
    replace h : refSubset_j1 = some _ := h
    unfold refSubset_j1 at h
    show WC _ _ _ ⟨[], []⟩ _ _
    refine WC.seq ?_
    refine WC.region ?_
    refine WL.run tbOk 1 (acc := []) rfl trivial ?_
    refine WL.nil ?_
    refine WQ.thenNormal ?_
    refine WC.ret ?_
    cases h
    exact WQ.rets tbOk hR [] (.inl rfl) rfl rfl (Le.refl _) (by exact trivial) rfl rfl rfl rfl

theorem refWith_con {wg : World} (hw : WG wg) {l : (List Str)} {s : Str} {r : (List Str)} (h : refWith l s = some r) : Con Tryz.prog wg gl 66 [.v (.sl 1 (l.map eStr)), .v (.str s)] [] (.v (.sl 1 (r.map eStr))) [] := by
  unfold refWith at h
  refine con_of_WC (S := slotsOf 0 _) Tryz.func66 rfl Tryz.ntmps66 rfl (fun t x hx => (slotsOf_get hx).2) ?_
  intro F L w ρ0 R hR
  show WC _ _ _ ⟨[(0, .v (.sl 1 (l.map eStr))), (1, .v (.str s))], []⟩ _ _
  refine WC.seq ?_
  refine WC.region ?_
  refine WL.run tbOk 1 (acc := []) rfl trivial ?_
  refine WL.nil ?_
  refine WQ.thenNormal ?_
  refine WC.seq ?_
  refine WC.region ?_
  refine WL.run tbOk 1 (acc := []) rfl trivial ?_
  refine WL.nil ?_
  refine WQ.thenNormal ?_
  refine WC.seq ?_
  refine WC.thenCut (X := Int) (fun gG => ⟨[(5, .v (.int .i64 gG)), (0, .v (.sl 1 (l.map eStr))), (1, .v (.str s))], []⟩) (fun gG => refWith_j1 l s gG = some r) ?_ ?_
  · refine WC.block ?_
    obtain ⟨eQ1, hl1, hk1⟩ := bnd h
    clear h
    refine WC.loop (σ := Int) (τ := (Int)) (fun sS => ⟨[(5, .v (.int .i64 sS)), (0, .v (.sl 1 (l.map eStr))), (1, .v (.str s))], []⟩) (refWith_b1 l s) [] (0 : Int) hl1 ⟨(by exact ⟨rfl, rfl, rfl, trivial⟩), (by exact trivial), rfl, rfl, rfl, rfl⟩ ?_
    intro k2 m hn1 he1 hx1
    obtain ⟨o1, hf1⟩ := some_of hx1
    have h := hf1
    unfold refWith_b1 at h
    show WC _ _ _ ⟨[(5, .v (.int .i64 k2)), (0, .v (.sl 1 (l.map eStr))), (1, .v (.str s))], []⟩ _ _
    refine WC.seq ?_
    refine WC.seq ?_
    refine WC.region ?_
    refine WL.run tbOk 2 (acc := []) rfl trivial ?_
    refine WL.q [] rfl rfl rfl (q_ev tbOk (.v (.int .i64 (l.length : Int))) rfl (by exact trivial) (by first | (simp only [List.length_map]; done) | (simp only [List.length_map]; rfl) | rfl)) ?_
    refine WL.run tbOk 4 (acc := []) rfl (by repeat' (first | exact trivial | assumption | intro _ | apply And.intro | (refine not_i ?_; assumption) | (refine and_l ?_; assumption) | (refine and_i ?_ ?_) | decide | omega | (simp [vcs]; done) | (simp only [List.length_map]; omega))) ?_
    obtain ⟨g7, h⟩ := grd h
    refine WL.gq [] rfl rfl rfl rfl (fun hg => q_idx tbOk rfl (by repeat' (first | exact trivial | assumption | intro _ | apply And.intro | (refine not_i ?_; assumption) | (refine and_l ?_; assumption) | (refine and_i ?_ ?_) | decide | omega | (simp [vcs]; done) | (simp only [List.length_map]; omega))) (g7 hg).1 (map_getD (f := eStr) (g7 hg).2 (g7 hg).1)) ?_
    refine WL.run tbOk 4 (acc := []) rfl (by repeat' (first | exact trivial | assumption | intro _ | apply And.intro | (refine not_i ?_; assumption) | (refine and_l ?_; assumption) | (refine and_i ?_ ?_) | decide | omega | (simp [vcs]; done) | (simp only [List.length_map]; omega))) ?_
    refine WL.nil ?_
    refine WQ.thenNormal ?_
    refine WC.cond rfl (fun hc2 => ?_) (fun hc2 => ?_)
    · replace h := ite_t hc2 h
      refine WC.skip ?_
      refine WQ.thenNormal ?_
      refine WC.block ?_
      refine WC.region ?_
      refine WL.run tbOk 3 (acc := []) rfl trivial ?_
      refine WL.nil ?_
      refine WQ.blockNormal ?_
      cases h
      exact WQ.next [] (IntKind.i64.wrap (k2 + (1 : Int))) ⟨(by exact ⟨rfl, rfl, rfl, trivial⟩), (by exact trivial), rfl, rfl, rfl, rfl⟩ (hn1 _ hf1)
    · replace h := ite_f hc2 h
      refine WC.exit ?_
      refine WQ.thenExit ?_
      cases h
      have he := he1 _ hf1
      subst he
      replace h := hk1
      try dsimp only at h
      refine WQ.thenExit ?_
      refine WQ.blockExit ?_
      exact WQ.cut [] k2 ⟨(by exact ⟨rfl, rfl, rfl, trivial⟩), (by exact trivial), rfl, rfl, rfl, rfl⟩ h
  · intro k h
    replace h : refWith_j1 l s k = some _ := h
    unfold refWith_j1 at h
    show WC _ _ _ ⟨[(5, .v (.int .i64 k)), (0, .v (.sl 1 (l.map eStr))), (1, .v (.str s))], []⟩ _ _
    refine WC.seq ?_
    refine WC.seq ?_
    refine WC.region ?_
    refine WL.run tbOk 2 (acc := []) rfl trivial ?_
    refine WL.q [] rfl rfl rfl (q_ev tbOk (.v (.int .i64 (l.length : Int))) rfl (by exact trivial) (by first | (simp only [List.length_map]; done) | (simp only [List.length_map]; rfl) | rfl)) ?_
    refine WL.run tbOk 4 (acc := []) rfl (by repeat' (first | exact trivial | assumption | intro _ | apply And.intro | (refine not_i ?_; assumption) | (refine and_l ?_; assumption) | (refine and_i ?_ ?_) | decide | omega | (simp [vcs]; done) | (simp only [List.length_map]; omega))) ?_
    obtain ⟨g1, h⟩ := grd h
    refine WL.gq [] rfl rfl rfl rfl (fun hg => q_idx tbOk rfl (by repeat' (first | exact trivial | assumption | intro _ | apply And.intro | (refine not_i ?_; assumption) | (refine and_l ?_; assumption) | (refine and_i ?_ ?_) | decide | omega | (simp [vcs]; done) | (simp only [List.length_map]; omega))) (g1 hg).1 (map_getD (f := eStr) (g1 hg).2 (g1 hg).1)) ?_
    refine WL.run tbOk 4 (acc := []) rfl (by repeat' (first | exact trivial | assumption | intro _ | apply And.intro | (refine not_i ?_; assumption) | (refine and_l ?_; assumption) | (refine and_i ?_ ?_) | decide | omega | (simp [vcs]; done) | (simp only [List.length_map]; omega))) ?_
    refine WL.nil ?_
    refine WQ.thenNormal ?_
    refine WC.cond rfl (fun hc1 => ?_) (fun hc1 => ?_)
    · replace h := ite_t hc1 h
      refine WC.seq ?_
      refine WC.region ?_
      refine WL.run tbOk 2 (acc := []) rfl trivial ?_
      refine WL.nil ?_
      refine WQ.thenNormal ?_
      refine WC.ret ?_
      refine WQ.thenRet ?_
      cases h
      exact WQ.rets tbOk hR [] (.inl rfl) rfl rfl (Le.refl _) (by exact trivial) rfl rfl rfl rfl
    · replace h := ite_f hc1 h
      refine WC.skip ?_
      refine WQ.thenNormal ?_
      refine WC.seq ?_
      refine WC.order mixed ?_
      refine WR.buildRow tbOk (([] : (List Str)).map eStr) rfl rfl rfl rfl (by exact trivial) rfl rfl ?_
      refine WR.run tbOk 2 (acc := []) rfl trivial ?_
      obtain ⟨g2, h⟩ := grd h
      refine WR.q [] rfl rfl rfl (q_ev tbOk (.v (.sl 1 (((l.take k.toNat).drop (0 : Int).toNat).map eStr))) rfl (by repeat' (first | exact trivial | assumption | intro _ | apply And.intro | (refine not_i ?_; assumption) | (refine and_l ?_; assumption) | (refine and_i ?_ ?_) | decide | omega | (simp [vcs]; done) | (simp only [List.length_map]; omega))) (by first | (simp only [List.map_take, List.map_drop]; done) | (simp only [List.map_take, List.map_drop]; rfl) | rfl)) ?_
      obtain ⟨g3, h⟩ := grd h
      refine WR.append tbOk (((l.take k.toNat).drop (0 : Int).toNat).map eStr) [37, 33] ap41 rfl rfl rfl rfl (fun _ e => by cases e; rfl) (by exact trivial) (map_cells (f := eStr) (xs := ((l.take k.toNat).drop (0 : Int).toNat)) fun _ => rfl) (by have := g3; simp only [List.length_map, List.length_nil, List.length_cons] at this ⊢; omega) rfl rfl rfl rfl rfl ?_
      refine WR.run tbOk 2 (acc := []) rfl trivial ?_
      obtain ⟨g4, h⟩ := grd h
      refine WR.append tbOk ((((l.take k.toNat).drop (0 : Int).toNat) ++ [s]).map eStr) [40, 37] ap41 rfl rfl rfl rfl (fun _ e => by cases e; rfl) (by exact trivial) (map_cells (f := eStr) (xs := [s]) fun _ => rfl) (by have := g4; simp only [List.length_map, List.length_nil, List.length_cons] at this ⊢; omega) rfl rfl (by simp only [List.map_append]; try rfl) rfl rfl ?_
      refine WR.run tbOk 2 (acc := []) rfl trivial ?_
      obtain ⟨g5, h⟩ := grd h
      refine WR.q [] rfl rfl rfl (q_ev tbOk (.v (.sl 1 ((l.drop k.toNat).map eStr))) rfl (by repeat' (first | exact trivial | assumption | intro _ | apply And.intro | (refine not_i ?_; assumption) | (refine and_l ?_; assumption) | (refine and_i ?_ ?_) | decide | omega | (simp [vcs]; done) | (simp only [List.length_map]; omega))) (by first | (simp only [List.map_take, List.map_drop]; done) | (simp only [List.map_take, List.map_drop]; rfl) | rfl)) ?_
      obtain ⟨g6, h⟩ := grd h
      refine WR.append tbOk (((((l.take k.toNat).drop (0 : Int).toNat) ++ [s]) ++ (l.drop k.toNat)).map eStr) [44, 40] ap41 rfl rfl rfl rfl (fun _ e => by cases e; rfl) (by exact trivial) (map_cells (f := eStr) (xs := (l.drop k.toNat)) fun _ => rfl) (by have := g6; simp only [List.length_map, List.length_nil, List.length_cons] at this ⊢; omega) rfl rfl (by simp only [List.map_append]; try rfl) rfl rfl ?_
      refine WR.run tbOk 1 (acc := []) rfl trivial ?_
      refine WR.nil (by kernel_rfl) ?_
      refine WQ.thenNormal ?_
      refine WC.ret ?_
      refine WQ.publish 44 rfl rfl ?_
      cases h
      exact WQ.rets tbOk hR [] (.inl rfl) rfl rfl (Le.refl _) (by exact trivial) rfl rfl rfl rfl

theorem refUnion_con {wg : World} (hw : WG wg) {a : (List Str)} {b : (List Str)} {r : (List Str)} (h : refUnion a b = some r) : Con Tryz.prog wg gl 33 [.v (.sl 1 (a.map eStr)), .v (.sl 1 (b.map eStr))] [] (.v (.sl 1 (r.map eStr))) [] := by
  unfold refUnion at h
  refine con_of_WC (S := slotsOf 0 _) Tryz.func33 rfl Tryz.ntmps33 rfl (fun t x hx => (slotsOf_get hx).2) ?_
  intro F L w ρ0 R hR
  show WC _ _ _ ⟨[(0, .v (.sl 1 (a.map eStr))), (1, .v (.sl 1 (b.map eStr)))], []⟩ _ _
  refine WC.seq ?_
  refine WC.region ?_
  refine WL.run tbOk 1 (acc := []) rfl trivial ?_
  refine WL.nil ?_
  refine WQ.thenNormal ?_
  refine WC.seq ?_
  refine WC.region ?_
  refine WL.run tbOk 1 (acc := []) rfl trivial ?_
  refine WL.nil ?_
  refine WQ.thenNormal ?_
  refine WC.seq ?_
  refine WC.seq ?_
  refine WC.region ?_
  refine WL.run tbOk 1 (acc := []) rfl trivial ?_
  refine WL.nil ?_
  refine WQ.thenNormal ?_
  refine WC.thenCut (X := (List Str)) (fun gG => ⟨[(5, .v (.sl 1 (gG.map eStr))), (1, .v (.sl 1 (b.map eStr)))], []⟩) (fun gG => refUnion_j1 b gG = some r) ?_ ?_
  · refine WC.block ?_
    obtain ⟨eQ2, hl2, hk2⟩ := bnd h
    clear h
    refine WC.weaken 5 (.v (.sl 1 [])) rfl (Le.nil 1) ?_
    refine WC.loop (σ := Int × (List Str)) (τ := ((List Str))) (fun sS => ⟨[(6, .v (.int .i64 sS.1)), (5, .v (.sl 1 (sS.2.map eStr))), (0, .v (.sl 1 (a.map eStr))), (1, .v (.sl 1 (b.map eStr)))], []⟩) (refUnion_b2 a b) [] ((0 : Int), []) hl2 ⟨(by exact ⟨rfl, rfl, rfl, rfl, trivial⟩), (by exact trivial), rfl, rfl, rfl, rfl⟩ ?_
    rintro ⟨i4, out6⟩ m hn2 he2 hx2
    obtain ⟨o2, hf2⟩ := some_of hx2
    have h := hf2
    unfold refUnion_b2 at h
    show WC _ _ _ ⟨[(6, .v (.int .i64 i4)), (5, .v (.sl 1 (out6.map eStr))), (0, .v (.sl 1 (a.map eStr))), (1, .v (.sl 1 (b.map eStr)))], []⟩ _ _
    refine WC.seq ?_
    refine WC.seq ?_
    refine WC.region ?_
    refine WL.run tbOk 2 (acc := []) rfl trivial ?_
    refine WL.q [] rfl rfl rfl (q_ev tbOk (.v (.int .i64 (a.length : Int))) rfl (by exact trivial) (by first | (simp only [List.length_map]; done) | (simp only [List.length_map]; rfl) | rfl)) ?_
    refine WL.run tbOk 1 (acc := []) rfl trivial ?_
    refine WL.nil ?_
    refine WQ.thenNormal ?_
    refine WC.cond rfl (fun hc2 => ?_) (fun hc2 => ?_)
    · replace h := ite_t hc2 h
      refine WC.skip ?_
      refine WQ.thenNormal ?_
      refine WC.seq ?_
      refine WC.block ?_
      refine WC.region ?_
      refine WL.run tbOk 3 (acc := []) rfl trivial ?_
      obtain ⟨g2, h⟩ := grd h
      obtain ⟨x5, hxx5, h⟩ := bnd h
      refine WL.q [] rfl rfl rfl (q_idx tbOk rfl (by exact trivial) g2 (map_get (f := eStr) hxx5)) ?_
      refine WL.run tbOk 1 (acc := []) rfl trivial ?_
      obtain ⟨v5, hvv5, h⟩ := bnd h
      refine WL.call0 fn66 rfl rfl rfl rfl (by exact trivial) rfl (refWith_con hw hvv5) ?_
      refine WL.run tbOk 1 (acc := []) rfl trivial ?_
      refine WL.nil ?_
      refine WQ.blockNormal ?_
      refine WQ.thenNormal ?_
      refine WC.region ?_
      refine WL.run tbOk 3 (acc := []) rfl trivial ?_
      refine WL.nil ?_
      cases h
      exact WQ.next [] ((IntKind.i64.wrap (i4 + (1 : Int))), v5) ⟨(by exact ⟨rfl, rfl, rfl, rfl, trivial⟩), (by exact trivial), rfl, rfl, rfl, rfl⟩ (hn2 _ hf2)
    · replace h := ite_f hc2 h
      refine WC.exit ?_
      refine WQ.thenExit ?_
      cases h
      have he := he2 _ hf2
      subst he
      replace h := hk2
      try dsimp only at h
      refine WQ.thenExit ?_
      refine WQ.blockExit ?_
      exact WQ.cut [] out6 ⟨(by exact ⟨rfl, rfl, trivial⟩), (by exact trivial), rfl, rfl, rfl, rfl⟩ h
  · intro out h
    replace h : refUnion_j1 b out = some _ := h
    unfold refUnion_j1 at h
    show WC _ _ _ ⟨[(5, .v (.sl 1 (out.map eStr))), (1, .v (.sl 1 (b.map eStr)))], []⟩ _ _
    refine WC.seq ?_
    refine WC.seq ?_
    refine WC.region ?_
    refine WL.run tbOk 1 (acc := []) rfl trivial ?_
    refine WL.nil ?_
    refine WQ.thenNormal ?_
    refine WC.thenCut (X := (List Str)) (fun gG => ⟨[(5, .v (.sl 1 (gG.map eStr)))], []⟩) (fun gG => refUnion_j2 gG = some r) ?_ ?_
    · refine WC.block ?_
      obtain ⟨eQ1, hl1, hk1⟩ := bnd h
      clear h
      refine WC.loop (σ := Int × (List Str)) (τ := ((List Str))) (fun sS => ⟨[(7, .v (.int .i64 sS.1)), (5, .v (.sl 1 (sS.2.map eStr))), (1, .v (.sl 1 (b.map eStr)))], []⟩) (refUnion_b1 b) [] ((0 : Int), out) hl1 ⟨(by exact ⟨rfl, rfl, rfl, trivial⟩), (by exact trivial), rfl, rfl, rfl, rfl⟩ ?_
      rintro ⟨i, out3⟩ m hn1 he1 hx1
      obtain ⟨o1, hf1⟩ := some_of hx1
      have h := hf1
      unfold refUnion_b1 at h
      show WC _ _ _ ⟨[(7, .v (.int .i64 i)), (5, .v (.sl 1 (out3.map eStr))), (1, .v (.sl 1 (b.map eStr)))], []⟩ _ _
      refine WC.seq ?_
      refine WC.seq ?_
      refine WC.region ?_
      refine WL.run tbOk 2 (acc := []) rfl trivial ?_
      refine WL.q [] rfl rfl rfl (q_ev tbOk (.v (.int .i64 (b.length : Int))) rfl (by exact trivial) (by first | (simp only [List.length_map]; done) | (simp only [List.length_map]; rfl) | rfl)) ?_
      refine WL.run tbOk 1 (acc := []) rfl trivial ?_
      refine WL.nil ?_
      refine WQ.thenNormal ?_
      refine WC.cond rfl (fun hc1 => ?_) (fun hc1 => ?_)
      · replace h := ite_t hc1 h
        refine WC.skip ?_
        refine WQ.thenNormal ?_
        refine WC.seq ?_
        refine WC.block ?_
        refine WC.region ?_
        refine WL.run tbOk 3 (acc := []) rfl trivial ?_
        obtain ⟨g1, h⟩ := grd h
        obtain ⟨x2, hxx2, h⟩ := bnd h
        refine WL.q [] rfl rfl rfl (q_idx tbOk rfl (by exact trivial) g1 (map_get (f := eStr) hxx2)) ?_
        refine WL.run tbOk 1 (acc := []) rfl trivial ?_
        obtain ⟨v2, hvv2, h⟩ := bnd h
        refine WL.call0 fn66 rfl rfl rfl rfl (by exact trivial) rfl (refWith_con hw hvv2) ?_
        refine WL.run tbOk 1 (acc := []) rfl trivial ?_
        refine WL.nil ?_
        refine WQ.blockNormal ?_
        refine WQ.thenNormal ?_
        refine WC.region ?_
        refine WL.run tbOk 3 (acc := []) rfl trivial ?_
        refine WL.nil ?_
        cases h
        exact WQ.next [] ((IntKind.i64.wrap (i + (1 : Int))), v2) ⟨(by exact ⟨rfl, rfl, rfl, trivial⟩), (by exact trivial), rfl, rfl, rfl, rfl⟩ (hn1 _ hf1)
      · replace h := ite_f hc1 h
        refine WC.exit ?_
        refine WQ.thenExit ?_
        cases h
        have he := he1 _ hf1
        subst he
        replace h := hk1
        try dsimp only at h
        refine WQ.thenExit ?_
        refine WQ.blockExit ?_
        exact WQ.cut [] out3 ⟨(by exact ⟨rfl, trivial⟩), (by exact trivial), rfl, rfl, rfl, rfl⟩ h
    · intro out2 h
      replace h : refUnion_j2 out2 = some _ := h
      unfold refUnion_j2 at h
      show WC _ _ _ ⟨[(5, .v (.sl 1 (out2.map eStr)))], []⟩ _ _
      refine WC.seq ?_
      refine WC.region ?_
      refine WL.run tbOk 2 (acc := []) rfl trivial ?_
      refine WL.nil ?_
      refine WQ.thenNormal ?_
      refine WC.ret ?_
      cases h
      exact WQ.rets tbOk hR [] (.inl rfl) rfl rfl (Le.refl _) (by exact trivial) rfl rfl rfl rfl

theorem sameStrings_con {wg : World} (hw : WG wg) {a : (List Str)} {b : (List Str)} {r : Bool} (h : sameStrings a b = some r) : Con Tryz.prog wg gl 32 [.v (.sl 1 (a.map eStr)), .v (.sl 1 (b.map eStr))] [] (.v (.bool r)) [] := by
  unfold sameStrings at h
  refine con_of_WC (S := slotsOf 0 _) Tryz.func32 rfl Tryz.ntmps32 rfl (fun t x hx => (slotsOf_get hx).2) ?_
  intro F L w ρ0 R hR
  show WC _ _ _ ⟨[(0, .v (.sl 1 (a.map eStr))), (1, .v (.sl 1 (b.map eStr)))], []⟩ _ _
  refine WC.seq ?_
  refine WC.region ?_
  refine WL.run tbOk 1 (acc := []) rfl trivial ?_
  refine WL.nil ?_
  refine WQ.thenNormal ?_
  refine WC.seq ?_
  refine WC.seq ?_
  refine WC.region ?_
  refine WL.run tbOk 1 (acc := []) rfl trivial ?_
  refine WL.q [] rfl rfl rfl (q_ev tbOk (.v (.int .i64 (a.length : Int))) rfl (by exact trivial) (by first | (simp only [List.length_map]; done) | (simp only [List.length_map]; rfl) | rfl)) ?_
  refine WL.run tbOk 1 (acc := []) rfl trivial ?_
  refine WL.q [] rfl rfl rfl (q_ev tbOk (.v (.int .i64 (b.length : Int))) rfl (by exact trivial) (by first | (simp only [List.length_map]; done) | (simp only [List.length_map]; rfl) | rfl)) ?_
  refine WL.run tbOk 1 (acc := []) rfl trivial ?_
  refine WL.nil ?_
  refine WQ.thenNormal ?_
  refine WC.cond rfl (fun hc1 => ?_) (fun hc1 => ?_)
  · replace h := ite_t hc1 h
    refine WC.seq ?_
    refine WC.region ?_
    refine WL.run tbOk 1 (acc := []) rfl trivial ?_
    refine WL.nil ?_
    refine WQ.thenNormal ?_
    refine WC.ret ?_
    refine WQ.thenRet ?_
    cases h
    exact WQ.rets tbOk hR [] (.inl rfl) rfl rfl (Le.refl _) (by exact trivial) rfl rfl rfl rfl
  · replace h := ite_f hc1 h
    refine WC.skip ?_
    refine WQ.thenNormal ?_
    refine WC.seq ?_
    refine WC.seq ?_
    refine WC.region ?_
    refine WL.run tbOk 1 (acc := []) rfl trivial ?_
    refine WL.nil ?_
    refine WQ.thenNormal ?_
    refine WC.thenCut (X := Unit) (fun gG => ⟨[], []⟩) (fun gG => sameStrings_j1  = some r) ?_ ?_
    · refine WC.block ?_
      obtain ⟨eQ1, hl1, hk1⟩ := bnd h
      clear h
      refine WC.loop (σ := Int) (τ := ((Bool) ⊕ (Unit))) (fun sS => ⟨[(5, .v (.int .i64 sS)), (0, .v (.sl 1 (a.map eStr))), (1, .v (.sl 1 (b.map eStr)))], []⟩) (sameStrings_b1 a b) [] (0 : Int) hl1 ⟨(by exact ⟨rfl, rfl, rfl, trivial⟩), (by exact trivial), rfl, rfl, rfl, rfl⟩ ?_
      intro i m hn1 he1 hx1
      obtain ⟨o1, hf1⟩ := some_of hx1
      have h := hf1
      unfold sameStrings_b1 at h
      show WC _ _ _ ⟨[(5, .v (.int .i64 i)), (0, .v (.sl 1 (a.map eStr))), (1, .v (.sl 1 (b.map eStr)))], []⟩ _ _
      refine WC.seq ?_
      refine WC.seq ?_
      refine WC.region ?_
      refine WL.run tbOk 2 (acc := []) rfl trivial ?_
      refine WL.q [] rfl rfl rfl (q_ev tbOk (.v (.int .i64 (a.length : Int))) rfl (by exact trivial) (by first | (simp only [List.length_map]; done) | (simp only [List.length_map]; rfl) | rfl)) ?_
      refine WL.run tbOk 1 (acc := []) rfl trivial ?_
      refine WL.nil ?_
      refine WQ.thenNormal ?_
      refine WC.cond rfl (fun hc2 => ?_) (fun hc2 => ?_)
      · replace h := ite_t hc2 h
        refine WC.skip ?_
        refine WQ.thenNormal ?_
        refine WC.seq ?_
        refine WC.block ?_
        refine WC.seq ?_
        refine WC.order mixed ?_
        refine WR.run tbOk 2 (acc := []) rfl trivial ?_
        obtain ⟨g1, h⟩ := grd h
        obtain ⟨x3, hxx3, h⟩ := bnd h
        refine WR.q [] rfl rfl rfl (q_idx tbOk rfl (by exact trivial) g1 (map_get (f := eStr) hxx3)) ?_
        refine WR.run tbOk 3 (acc := []) rfl trivial ?_
        obtain ⟨g2, h⟩ := grd h
        obtain ⟨x4, hxx4, h⟩ := bnd h
        refine WR.q [] rfl rfl rfl (q_idx tbOk rfl (by exact trivial) g2 (map_get (f := eStr) hxx4)) ?_
        refine WR.run tbOk 2 (acc := []) rfl trivial ?_
        refine WR.nil (by kernel_rfl) ?_
        refine WQ.thenNormal ?_
        refine WC.cond rfl (fun hc3 => ?_) (fun hc3 => ?_)
        · replace h := ite_t hc3 h
          refine WC.seq ?_
          refine WC.region ?_
          refine WL.run tbOk 1 (acc := []) rfl trivial ?_
          refine WL.nil ?_
          refine WQ.thenNormal ?_
          refine WC.ret ?_
          refine WQ.blockRet ?_
          refine WQ.thenRet ?_
          cases h
          have he := he1 _ hf1
          subst he
          have h : some false = some _ := hk1
          refine WQ.thenRet ?_
          refine WQ.blockRet ?_
          refine WQ.thenRet ?_
          cases h
          exact WQ.rets tbOk hR [] (.inl rfl) rfl rfl (Le.refl _) (by exact trivial) rfl rfl rfl rfl
        · replace h := ite_f hc3 h
          refine WC.skip ?_
          refine WQ.blockNormal ?_
          refine WQ.thenNormal ?_
          refine WC.region ?_
          refine WL.run tbOk 3 (acc := []) rfl trivial ?_
          refine WL.nil ?_
          cases h
          exact WQ.next [] (IntKind.i64.wrap (i + (1 : Int))) ⟨(by exact ⟨rfl, rfl, rfl, trivial⟩), (by exact trivial), rfl, rfl, rfl, rfl⟩ (hn1 _ hf1)
      · replace h := ite_f hc2 h
        refine WC.exit ?_
        refine WQ.thenExit ?_
        cases h
        have he := he1 _ hf1
        subst he
        replace h := hk1
        try dsimp only at h
        refine WQ.thenExit ?_
        refine WQ.blockExit ?_
        exact WQ.cut [] () ⟨(by exact trivial), (by exact trivial), rfl, rfl, rfl, rfl⟩ h
    · intro _ h
      replace h : sameStrings_j1 = some _ := h
      unfold sameStrings_j1 at h
      show WC _ _ _ ⟨[], []⟩ _ _
      refine WC.seq ?_
      refine WC.region ?_
      refine WL.run tbOk 1 (acc := []) rfl trivial ?_
      refine WL.nil ?_
      refine WQ.thenNormal ?_
      refine WC.ret ?_
      cases h
      exact WQ.rets tbOk hR [] (.inl rfl) rfl rfl (Le.refl _) (by exact trivial) rfl rfl rfl rfl

theorem refPrefix_con {wg : World} (hw : WG wg) {code : Str} {p : Str} {r : Bool} (h : refPrefix code p = some r) : Con Tryz.prog wg gl 64 [.v (.str code), .v (.str p)] [] (.v (.bool r)) [] := by
  unfold refPrefix at h
  refine con_of_WC (S := slotsOf 0 _) Tryz.func64 rfl Tryz.ntmps64 rfl (fun t x hx => (slotsOf_get hx).2) ?_
  intro F L w ρ0 R hR
  show WC _ _ _ ⟨[(0, .v (.str code)), (1, .v (.str p))], []⟩ _ _
  refine WC.seq ?_
  refine WC.region ?_
  refine WL.run tbOk 1 (acc := []) rfl trivial ?_
  refine WL.nil ?_
  refine WQ.thenNormal ?_
  refine WC.seq ?_
  refine WC.region ?_
  obtain ⟨g1, h⟩ := grd h
  refine WL.run tbOk 14 (acc := []) rfl (by repeat' (first | exact trivial | assumption | intro _ | exact g1 (by assumption) | apply And.intro | (refine not_i ?_; assumption) | (refine and_l ?_; assumption) | (refine and_i ?_ ?_) | decide | omega | (simp [vcs]; done) | (simp only [List.length_map]; omega))) ?_
  refine WL.nil ?_
  refine WQ.thenNormal ?_
  refine WC.ret ?_
  cases h
  exact WQ.rets tbOk hR [] (.inl rfl) rfl rfl (Le.refl _) (by exact trivial) rfl rfl rfl rfl

theorem refAt_con {wg : World} (hw : WG wg) {b : ApiNomenclature} {day : Int} {r : (List ApiCodeEntry)} (h : refAt b day = some r) : Con Tryz.prog wg gl 38 [.v (.agg [.sl 5 (b.Entries.map eApiCodeEntry), .sl 3 (b.Notes.map eApiCodeNote)]), .v (.int .i64 day)] [] (.v (.sl 5 (r.map eApiCodeEntry))) [] := by
  unfold refAt at h
  refine con_of_WC (S := slotsOf 0 _) Tryz.func38 rfl Tryz.ntmps38 rfl (fun t x hx => (slotsOf_get hx).2) ?_
  intro F L w ρ0 R hR
  show WC _ _ _ ⟨[(0, .v (.agg [.sl 5 (b.Entries.map eApiCodeEntry), .sl 3 (b.Notes.map eApiCodeNote)])), (1, .v (.int .i64 day))], []⟩ _ _
  refine WC.seq ?_
  refine WC.region ?_
  refine WL.run tbOk 2 (acc := []) rfl trivial ?_
  refine WL.nil ?_
  refine WQ.thenNormal ?_
  refine WC.seq ?_
  refine WC.region ?_
  refine WL.run tbOk 1 (acc := []) rfl trivial ?_
  refine WL.nil ?_
  refine WQ.thenNormal ?_
  refine WC.seq ?_
  refine WC.seq ?_
  refine WC.region ?_
  refine WL.run tbOk 1 (acc := []) rfl trivial ?_
  refine WL.nil ?_
  refine WQ.thenNormal ?_
  refine WC.thenCut (X := (List ApiCodeEntry)) (fun gG => ⟨[(5, .r 1005)], [(1005, .row 40 5 (gG.map eApiCodeEntry))]⟩) (fun gG => refAt_j1 gG = some r) ?_ ?_
  · refine WC.block ?_
    obtain ⟨eQ1, hl1, hk1⟩ := bnd h
    clear h
    refine WC.rowNil 5 1005 40 5 rfl rfl ?_
    refine WC.loop (σ := Int × (List ApiCodeEntry)) (τ := ((List ApiCodeEntry))) (fun sS => ⟨[(6, .v (.int .i64 sS.1)), (5, .r 1005), (2, .p 2 0), (1, .v (.int .i64 day))], [(1005, .row 40 5 (sS.2.map eApiCodeEntry)), (2, .blk 31 [.v (.sl 5 (b.Entries.map eApiCodeEntry)), .v (.sl 3 (b.Notes.map eApiCodeNote))])]⟩) (refAt_b1 b day) [] ((0 : Int), []) hl1 ⟨(by exact ⟨rfl, rfl, rfl, rfl, trivial⟩), (by exact ⟨rfl, rfl, trivial⟩), rfl, rfl, rfl, rfl⟩ ?_
    rintro ⟨i2, out3⟩ m hn1 he1 hx1
    obtain ⟨o1, hf1⟩ := some_of hx1
    have h := hf1
    unfold refAt_b1 at h
    show WC _ _ _ ⟨[(6, .v (.int .i64 i2)), (5, .r 1005), (2, .p 2 0), (1, .v (.int .i64 day))], [(1005, .row 40 5 (out3.map eApiCodeEntry)), (2, .blk 31 [.v (.sl 5 (b.Entries.map eApiCodeEntry)), .v (.sl 3 (b.Notes.map eApiCodeNote))])]⟩ _ _
    refine WC.seq ?_
    refine WC.seq ?_
    refine WC.region ?_
    refine WL.run tbOk 3 (acc := []) rfl trivial ?_
    refine WL.q [] rfl rfl rfl (q_ev tbOk (.v (.int .i64 (b.Entries.length : Int))) rfl (by exact trivial) (by first | (simp only [List.length_map]; done) | (simp only [List.length_map]; rfl) | rfl)) ?_
    refine WL.run tbOk 1 (acc := []) rfl trivial ?_
    refine WL.nil ?_
    refine WQ.thenNormal ?_
    refine WC.cond rfl (fun hc1 => ?_) (fun hc1 => ?_)
    · replace h := ite_t hc1 h
      refine WC.skip ?_
      refine WQ.thenNormal ?_
      refine WC.seq ?_
      refine WC.thenCut (X := (List ApiCodeEntry)) (fun gG => ⟨[(5, .r 1005), (6, .v (.int .i64 i2)), (2, .p 2 0), (1, .v (.int .i64 day))], [(1005, .row 40 5 (gG.map eApiCodeEntry)), (2, .blk 31 [.v (.sl 5 (b.Entries.map eApiCodeEntry)), .v (.sl 3 (b.Notes.map eApiCodeNote))])]⟩) (fun gG => refAt_j2 b day i2 gG = some o1) ?_ ?_
      · refine WC.block ?_
        refine WC.seq ?_
        refine WC.region ?_
        refine WL.run tbOk 3 (acc := []) rfl trivial ?_
        obtain ⟨g1, h⟩ := grd h
        obtain ⟨x5, hxx5, h⟩ := bnd h
        refine WL.q [] rfl rfl rfl (q_idx tbOk rfl (by exact trivial) g1 (map_get (f := eApiCodeEntry) hxx5)) ?_
        refine WL.run tbOk 9 (acc := []) rfl (by repeat' (first | exact trivial | assumption | intro _ | apply And.intro | (refine not_i ?_; assumption) | (refine and_l ?_; assumption) | (refine and_i ?_ ?_) | decide | omega | (simp [vcs]; done) | (simp only [List.length_map]; omega))) ?_
        obtain ⟨g2, h⟩ := grd h
        refine WL.gq [] rfl rfl rfl rfl (fun hg => q_idx tbOk rfl (by repeat' (first | exact trivial | assumption | intro _ | apply And.intro | (refine not_i ?_; assumption) | (refine and_l ?_; assumption) | (refine and_i ?_ ?_) | decide | omega | (simp [vcs]; done) | (simp only [List.length_map]; omega))) (g2 hg).1 (map_getD (f := eApiCodeEntry) (g2 hg).2 (g2 hg).1)) ?_
        refine WL.run tbOk 4 (acc := []) rfl (by repeat' (first | exact trivial | assumption | intro _ | apply And.intro | (refine not_i ?_; assumption) | (refine and_l ?_; assumption) | (refine and_i ?_ ?_) | decide | omega | (simp [vcs]; done) | (simp only [List.length_map]; omega))) ?_
        refine WL.nil ?_
        refine WQ.thenNormal ?_
        refine WC.cond rfl (fun hc2 => ?_) (fun hc2 => ?_)
        · replace h := ite_t hc2 h
          refine WC.region ?_
          refine WL.run tbOk 4 (acc := []) rfl trivial ?_
          obtain ⟨g3, h⟩ := grd h
          obtain ⟨x6, hxx6, h⟩ := bnd h
          refine WL.q [] rfl rfl rfl (q_idx tbOk rfl (by exact trivial) g3 (map_get (f := eApiCodeEntry) hxx6)) ?_
          refine WL.run tbOk 2 (acc := []) rfl trivial ?_
          obtain ⟨g4, h⟩ := grd h
          refine WL.append tbOk ((out3 ++ [x6]).map eApiCodeEntry) [39, 1005] ap28 rfl rfl rfl rfl (fun _ e => by cases e; rfl) (by exact trivial) (map_cells (f := eApiCodeEntry) (xs := [x6]) fun _ => rfl) (by have := g4; simp only [List.length_map, List.length_nil, List.length_cons] at this ⊢; omega) rfl rfl (by simp only [List.map_append]; try rfl) rfl ?_
          refine WL.run tbOk 1 (acc := []) rfl trivial ?_
          refine WL.nil ?_
          refine WQ.blockNormal ?_
          exact WQ.cut [(1005, 39)] (out3 ++ [x6]) ⟨(by exact ⟨rfl, rfl, rfl, rfl, trivial⟩), (by exact ⟨rfl, rfl, trivial⟩), rfl, rfl, rfl, rfl⟩ h
        · replace h := ite_f hc2 h
          refine WC.skip ?_
          refine WQ.blockNormal ?_
          exact WQ.cut [] out3 ⟨(by exact ⟨rfl, rfl, rfl, rfl, trivial⟩), (by exact ⟨rfl, rfl, trivial⟩), rfl, rfl, rfl, rfl⟩ h
      · intro out6 h
        replace h : refAt_j2 b day i2 out6 = some _ := h
        unfold refAt_j2 at h
        show WC _ _ _ ⟨[(5, .r 1005), (6, .v (.int .i64 i2)), (2, .p 2 0), (1, .v (.int .i64 day))], [(1005, .row 40 5 (out6.map eApiCodeEntry)), (2, .blk 31 [.v (.sl 5 (b.Entries.map eApiCodeEntry)), .v (.sl 3 (b.Notes.map eApiCodeNote))])]⟩ _ _
        refine WC.region ?_
        refine WL.run tbOk 3 (acc := []) rfl trivial ?_
        refine WL.nil ?_
        cases h
        exact WQ.next [] ((IntKind.i64.wrap (i2 + (1 : Int))), out6) ⟨(by exact ⟨rfl, rfl, rfl, rfl, trivial⟩), (by exact ⟨rfl, rfl, trivial⟩), rfl, rfl, rfl, rfl⟩ (hn1 _ hf1)
    · replace h := ite_f hc1 h
      refine WC.exit ?_
      refine WQ.thenExit ?_
      cases h
      have he := he1 _ hf1
      subst he
      replace h := hk1
      try dsimp only at h
      refine WQ.thenExit ?_
      refine WQ.blockExit ?_
      exact WQ.cut [] out3 ⟨(by exact ⟨rfl, trivial⟩), (by exact ⟨rfl, trivial⟩), rfl, rfl, rfl, rfl⟩ h
  · intro out h
    replace h : refAt_j1 out = some _ := h
    unfold refAt_j1 at h
    show WC _ _ _ ⟨[(5, .r 1005)], [(1005, .row 40 5 (out.map eApiCodeEntry))]⟩ _ _
    refine WC.seq ?_
    refine WC.region ?_
    refine WL.run tbOk 2 (acc := []) rfl trivial ?_
    refine WL.nil ?_
    refine WQ.thenNormal ?_
    refine WC.ret ?_
    refine WQ.publish 1005 rfl rfl ?_
    cases h
    exact WQ.rets tbOk hR [] (.inl rfl) rfl rfl (Le.refl _) (by exact trivial) rfl rfl rfl rfl

theorem refBelow_con {wg : World} (hw : WG wg) {b : ApiNomenclature} {day : Int} {code : Str} {r : (List ApiCodeEntry)} (h : refBelow b day code = some r) : Con Tryz.prog wg gl 40 [.v (.agg [.sl 5 (b.Entries.map eApiCodeEntry), .sl 3 (b.Notes.map eApiCodeNote)]), .v (.int .i64 day), .v (.str code)] [] (.v (.sl 5 (r.map eApiCodeEntry))) [] := by
  unfold refBelow at h
  refine con_of_WC (S := slotsOf 0 _) Tryz.func40 rfl Tryz.ntmps40 rfl (fun t x hx => (slotsOf_get hx).2) ?_
  intro F L w ρ0 R hR
  show WC _ _ _ ⟨[(0, .v (.agg [.sl 5 (b.Entries.map eApiCodeEntry), .sl 3 (b.Notes.map eApiCodeNote)])), (1, .v (.int .i64 day)), (2, .v (.str code))], []⟩ _ _
  refine WC.seq ?_
  refine WC.region ?_
  refine WL.run tbOk 2 (acc := []) rfl trivial ?_
  refine WL.nil ?_
  refine WQ.thenNormal ?_
  refine WC.seq ?_
  refine WC.region ?_
  refine WL.run tbOk 1 (acc := []) rfl trivial ?_
  refine WL.nil ?_
  refine WQ.thenNormal ?_
  refine WC.seq ?_
  refine WC.region ?_
  refine WL.run tbOk 2 (acc := []) rfl trivial ?_
  obtain ⟨v, hvv, h⟩ := bnd h
  refine WL.call0 fn38 rfl rfl rfl rfl (by exact trivial) rfl (refAt_con hw hvv) ?_
  refine WL.run tbOk 1 (acc := []) rfl trivial ?_
  refine WL.nil ?_
  refine WQ.thenNormal ?_
  refine WC.seq ?_
  refine WC.seq ?_
  refine WC.region ?_
  refine WL.run tbOk 1 (acc := []) rfl trivial ?_
  refine WL.nil ?_
  refine WQ.thenNormal ?_
  refine WC.thenCut (X := (List ApiCodeEntry)) (fun gG => ⟨[(7, .r 1007)], [(1007, .row 40 5 (gG.map eApiCodeEntry))]⟩) (fun gG => refBelow_j1 gG = some r) ?_ ?_
  · refine WC.block ?_
    obtain ⟨eQ1, hl1, hk1⟩ := bnd h
    clear h
    refine WC.rowNil 7 1007 40 5 rfl rfl ?_
    refine WC.loop (σ := Int × (List ApiCodeEntry)) (τ := ((List ApiCodeEntry))) (fun sS => ⟨[(9, .v (.int .i64 sS.1)), (8, .v (.sl 5 (v.map eApiCodeEntry))), (7, .r 1007), (2, .v (.str code))], [(1007, .row 40 5 (sS.2.map eApiCodeEntry))]⟩) (refBelow_b1 code v) [] ((0 : Int), []) hl1 ⟨(by exact ⟨rfl, rfl, rfl, rfl, trivial⟩), (by exact ⟨rfl, trivial⟩), rfl, rfl, rfl, rfl⟩ ?_
    rintro ⟨i2, out3⟩ m hn1 he1 hx1
    obtain ⟨o1, hf1⟩ := some_of hx1
    have h := hf1
    unfold refBelow_b1 at h
    show WC _ _ _ ⟨[(9, .v (.int .i64 i2)), (8, .v (.sl 5 (v.map eApiCodeEntry))), (7, .r 1007), (2, .v (.str code))], [(1007, .row 40 5 (out3.map eApiCodeEntry))]⟩ _ _
    refine WC.seq ?_
    refine WC.seq ?_
    refine WC.region ?_
    refine WL.run tbOk 2 (acc := []) rfl trivial ?_
    refine WL.q [] rfl rfl rfl (q_ev tbOk (.v (.int .i64 (v.length : Int))) rfl (by exact trivial) (by first | (simp only [List.length_map]; done) | (simp only [List.length_map]; rfl) | rfl)) ?_
    refine WL.run tbOk 1 (acc := []) rfl trivial ?_
    refine WL.nil ?_
    refine WQ.thenNormal ?_
    refine WC.cond rfl (fun hc1 => ?_) (fun hc1 => ?_)
    · replace h := ite_t hc1 h
      refine WC.skip ?_
      refine WQ.thenNormal ?_
      refine WC.seq ?_
      refine WC.thenCut (X := (List ApiCodeEntry)) (fun gG => ⟨[(7, .r 1007), (9, .v (.int .i64 i2)), (8, .v (.sl 5 (v.map eApiCodeEntry))), (2, .v (.str code))], [(1007, .row 40 5 (gG.map eApiCodeEntry))]⟩) (fun gG => refBelow_j2 code v i2 gG = some o1) ?_ ?_
      · refine WC.block ?_
        refine WC.seq ?_
        refine WC.region ?_
        refine WL.run tbOk 2 (acc := []) rfl trivial ?_
        obtain ⟨g1, h⟩ := grd h
        obtain ⟨x5, hxx5, h⟩ := bnd h
        refine WL.q [] rfl rfl rfl (q_idx tbOk rfl (by exact trivial) g1 (map_get (f := eApiCodeEntry) hxx5)) ?_
        refine WL.run tbOk 4 (acc := []) rfl trivial ?_
        refine WL.nil ?_
        refine WQ.thenNormal ?_
        refine WC.seq ?_
        refine WC.region ?_
        refine WL.run tbOk 19 (acc := []) rfl (by repeat' (first | exact trivial | assumption | intro _ | apply And.intro | (refine not_i ?_; assumption) | (refine and_l ?_; assumption) | (refine and_i ?_ ?_) | decide | omega | (simp [vcs]; done) | (simp only [List.length_map]; omega))) ?_
        obtain ⟨g2, h⟩ := grd h
        refine WL.gq [] rfl rfl rfl rfl (fun hg => q_idx tbOk rfl (by repeat' (first | exact trivial | assumption | intro _ | apply And.intro | (refine not_i ?_; assumption) | (refine and_l ?_; assumption) | (refine and_i ?_ ?_) | decide | omega | (simp [vcs]; done) | (simp only [List.length_map]; omega))) (g2 hg).1 (map_getD (f := eApiCodeEntry) (g2 hg).2 (g2 hg).1)) ?_
        refine WL.run tbOk 3 (acc := []) rfl (by repeat' (first | exact trivial | assumption | intro _ | apply And.intro | (refine not_i ?_; assumption) | (refine and_l ?_; assumption) | (refine and_i ?_ ?_) | decide | omega | (simp [vcs]; done) | (simp only [List.length_map]; omega))) ?_
        obtain ⟨v4, hvv4, h⟩ := bnd h
        refine WL.gcall0 fn64 rfl rfl rfl rfl rfl (fun _ => (by repeat' (first | exact trivial | assumption | intro _ | apply And.intro | (refine not_i ?_; assumption) | (refine and_l ?_; assumption) | (refine and_i ?_ ?_) | decide | omega | (simp [vcs]; done) | (simp only [List.length_map]; omega)))) rfl (fun hg => (refPrefix_con hw (ite_t hg hvv4))) ?_
        refine WL.run tbOk 2 (acc := []) rfl (by repeat' (first | exact trivial | assumption | intro _ | apply And.intro | (refine not_i ?_; assumption) | (refine and_l ?_; assumption) | (refine and_i ?_ ?_) | decide | omega | (simp [vcs]; done) | (simp only [List.length_map]; omega))) ?_
        refine WL.nil ?_
        refine WQ.thenNormal ?_
        refine WC.cond rfl (fun hc2 => ?_) (fun hc2 => ?_)
        · replace h := ite_t hc2 h
          refine WC.region ?_
          refine WL.run tbOk 3 (acc := []) rfl trivial ?_
          obtain ⟨g3, h⟩ := grd h
          obtain ⟨x6, hxx6, h⟩ := bnd h
          refine WL.q [] rfl rfl rfl (q_idx tbOk rfl (by exact trivial) g3 (map_get (f := eApiCodeEntry) hxx6)) ?_
          refine WL.run tbOk 2 (acc := []) rfl trivial ?_
          obtain ⟨g4, h⟩ := grd h
          refine WL.append tbOk ((out3 ++ [x6]).map eApiCodeEntry) [58, 1007] ap28 rfl rfl rfl rfl (fun _ e => by cases e; rfl) (by exact trivial) (map_cells (f := eApiCodeEntry) (xs := [x6]) fun _ => rfl) (by have := g4; simp only [List.length_map, List.length_nil, List.length_cons] at this ⊢; omega) rfl rfl (by simp only [List.map_append]; try rfl) rfl ?_
          refine WL.run tbOk 1 (acc := []) rfl trivial ?_
          refine WL.nil ?_
          refine WQ.blockNormal ?_
          exact WQ.cut [(1007, 58)] (out3 ++ [x6]) ⟨(by exact ⟨rfl, rfl, rfl, rfl, trivial⟩), (by exact ⟨rfl, trivial⟩), rfl, rfl, rfl, rfl⟩ h
        · replace h := ite_f hc2 h
          refine WC.skip ?_
          refine WQ.blockNormal ?_
          exact WQ.cut [] out3 ⟨(by exact ⟨rfl, rfl, rfl, rfl, trivial⟩), (by exact ⟨rfl, trivial⟩), rfl, rfl, rfl, rfl⟩ h
      · intro out6 h
        replace h : refBelow_j2 code v i2 out6 = some _ := h
        unfold refBelow_j2 at h
        show WC _ _ _ ⟨[(7, .r 1007), (9, .v (.int .i64 i2)), (8, .v (.sl 5 (v.map eApiCodeEntry))), (2, .v (.str code))], [(1007, .row 40 5 (out6.map eApiCodeEntry))]⟩ _ _
        refine WC.region ?_
        refine WL.run tbOk 3 (acc := []) rfl trivial ?_
        refine WL.nil ?_
        cases h
        exact WQ.next [] ((IntKind.i64.wrap (i2 + (1 : Int))), out6) ⟨(by exact ⟨rfl, rfl, rfl, rfl, trivial⟩), (by exact ⟨rfl, trivial⟩), rfl, rfl, rfl, rfl⟩ (hn1 _ hf1)
    · replace h := ite_f hc1 h
      refine WC.exit ?_
      refine WQ.thenExit ?_
      cases h
      have he := he1 _ hf1
      subst he
      replace h := hk1
      try dsimp only at h
      refine WQ.thenExit ?_
      refine WQ.blockExit ?_
      exact WQ.cut [] out3 ⟨(by exact ⟨rfl, trivial⟩), (by exact ⟨rfl, trivial⟩), rfl, rfl, rfl, rfl⟩ h
  · intro out h
    replace h : refBelow_j1 out = some _ := h
    unfold refBelow_j1 at h
    show WC _ _ _ ⟨[(7, .r 1007)], [(1007, .row 40 5 (out.map eApiCodeEntry))]⟩ _ _
    refine WC.seq ?_
    refine WC.region ?_
    refine WL.run tbOk 2 (acc := []) rfl trivial ?_
    refine WL.nil ?_
    refine WQ.thenNormal ?_
    refine WC.ret ?_
    refine WQ.publish 1007 rfl rfl ?_
    cases h
    exact WQ.rets tbOk hR [] (.inl rfl) rfl rfl (Le.refl _) (by exact trivial) rfl rfl rfl rfl

theorem refFind_con {wg : World} (hw : WG wg) {b : ApiNomenclature} {day : Int} {code : Str} {r : ApiCodeEntry × Bool} (h : refFind b day code = some r) : Con Tryz.prog wg gl 35 [.v (.agg [.sl 5 (b.Entries.map eApiCodeEntry), .sl 3 (b.Notes.map eApiCodeNote)]), .v (.int .i64 day), .v (.str code)] [] (.tup [.v (.agg [.str r.1.Code, .int .i64 r.1.From, .int .i64 r.1.To, .sl 1 (r.1.Terms.map eLStr), .bool r.1.Other]), .v (.bool r.2)]) [] := by
  unfold refFind at h
  refine con_of_WC (S := slotsOf 0 _) Tryz.func35 rfl Tryz.ntmps35 rfl (fun t x hx => (slotsOf_get hx).2) ?_
  intro F L w ρ0 R hR
  show WC _ _ _ ⟨[(0, .v (.agg [.sl 5 (b.Entries.map eApiCodeEntry), .sl 3 (b.Notes.map eApiCodeNote)])), (1, .v (.int .i64 day)), (2, .v (.str code))], []⟩ _ _
  refine WC.seq ?_
  refine WC.region ?_
  refine WL.run tbOk 3 (acc := []) rfl trivial ?_
  refine WL.nil ?_
  refine WQ.thenNormal ?_
  refine WC.seq ?_
  refine WC.region ?_
  refine WL.run tbOk 2 (acc := []) rfl trivial ?_
  obtain ⟨v, hvv, h⟩ := bnd h
  refine WL.call0 fn38 rfl rfl rfl rfl (by exact trivial) rfl (refAt_con hw hvv) ?_
  refine WL.run tbOk 1 (acc := []) rfl trivial ?_
  refine WL.nil ?_
  refine WQ.thenNormal ?_
  refine WC.seq ?_
  refine WC.seq ?_
  refine WC.region ?_
  refine WL.run tbOk 1 (acc := []) rfl trivial ?_
  refine WL.nil ?_
  refine WQ.thenNormal ?_
  refine WC.thenCut (X := Unit) (fun gG => ⟨[(6, .p 6 0)], [(6, .blk 40 [.v (.str []), .v (.int .i64 0), .v (.int .i64 0), .v (.raw (.slice none 0 0)), .v (.bool false)])]⟩) (fun gG => refFind_j1  = some r) ?_ ?_
  · refine WC.block ?_
    obtain ⟨eQ1, hl1, hk1⟩ := bnd h
    clear h
    refine WC.loop (σ := Int) (τ := ((ApiCodeEntry × Bool) ⊕ (Unit))) (fun sS => ⟨[(9, .v (.int .i64 sS)), (8, .v (.sl 5 (v.map eApiCodeEntry))), (6, .p 6 0), (2, .v (.str code))], [(6, .blk 40 [.v (.str []), .v (.int .i64 0), .v (.int .i64 0), .v (.raw (.slice none 0 0)), .v (.bool false)])]⟩) (refFind_b1 code v) [] (0 : Int) hl1 ⟨(by exact ⟨rfl, rfl, rfl, rfl, trivial⟩), (by exact ⟨rfl, trivial⟩), rfl, rfl, rfl, rfl⟩ ?_
    intro i m hn1 he1 hx1
    obtain ⟨o1, hf1⟩ := some_of hx1
    have h := hf1
    unfold refFind_b1 at h
    show WC _ _ _ ⟨[(9, .v (.int .i64 i)), (8, .v (.sl 5 (v.map eApiCodeEntry))), (6, .p 6 0), (2, .v (.str code))], [(6, .blk 40 [.v (.str []), .v (.int .i64 0), .v (.int .i64 0), .v (.raw (.slice none 0 0)), .v (.bool false)])]⟩ _ _
    refine WC.seq ?_
    refine WC.seq ?_
    refine WC.region ?_
    refine WL.run tbOk 2 (acc := []) rfl trivial ?_
    refine WL.q [] rfl rfl rfl (q_ev tbOk (.v (.int .i64 (v.length : Int))) rfl (by exact trivial) (by first | (simp only [List.length_map]; done) | (simp only [List.length_map]; rfl) | rfl)) ?_
    refine WL.run tbOk 1 (acc := []) rfl trivial ?_
    refine WL.nil ?_
    refine WQ.thenNormal ?_
    refine WC.cond rfl (fun hc1 => ?_) (fun hc1 => ?_)
    · replace h := ite_t hc1 h
      refine WC.skip ?_
      refine WQ.thenNormal ?_
      refine WC.seq ?_
      refine WC.block ?_
      refine WC.seq ?_
      refine WC.region ?_
      refine WL.run tbOk 2 (acc := []) rfl trivial ?_
      obtain ⟨g1, h⟩ := grd h
      obtain ⟨x3, hxx3, h⟩ := bnd h
      refine WL.q [] rfl rfl rfl (q_idx tbOk rfl (by exact trivial) g1 (map_get (f := eApiCodeEntry) hxx3)) ?_
      refine WL.run tbOk 4 (acc := []) rfl trivial ?_
      refine WL.nil ?_
      refine WQ.thenNormal ?_
      refine WC.cond rfl (fun hc2 => ?_) (fun hc2 => ?_)
      · replace h := ite_t hc2 h
        refine WC.seq ?_
        refine WC.region ?_
        refine WL.run tbOk 2 (acc := []) rfl trivial ?_
        obtain ⟨g2, h⟩ := grd h
        obtain ⟨x4, hxx4, h⟩ := bnd h
        refine WL.q [] rfl rfl rfl (q_idx tbOk rfl (by exact trivial) g2 (map_get (f := eApiCodeEntry) hxx4)) ?_
        refine WL.run tbOk 3 (acc := []) rfl trivial ?_
        refine WL.nil ?_
        refine WQ.thenNormal ?_
        refine WC.ret ?_
        refine WQ.blockRet ?_
        refine WQ.thenRet ?_
        cases h
        have he := he1 _ hf1
        subst he
        have h : some (x4, true) = some _ := hk1
        refine WQ.thenRet ?_
        refine WQ.blockRet ?_
        refine WQ.thenRet ?_
        cases h
        exact WQ.rets tbOk (r := .tup [.v (.agg [.str x4.Code, .int .i64 x4.From, .int .i64 x4.To, .sl 1 (x4.Terms.map eLStr), .bool x4.Other]), .v (.bool true)]) hR [] (.inl rfl) rfl rfl (Le.tup (.cons (Le.refl _) (.cons (Le.refl _) .nil))) (by exact trivial) rfl rfl rfl rfl
      · replace h := ite_f hc2 h
        refine WC.skip ?_
        refine WQ.blockNormal ?_
        refine WQ.thenNormal ?_
        refine WC.region ?_
        refine WL.run tbOk 3 (acc := []) rfl trivial ?_
        refine WL.nil ?_
        cases h
        exact WQ.next [] (IntKind.i64.wrap (i + (1 : Int))) ⟨(by exact ⟨rfl, rfl, rfl, rfl, trivial⟩), (by exact ⟨rfl, trivial⟩), rfl, rfl, rfl, rfl⟩ (hn1 _ hf1)
    · replace h := ite_f hc1 h
      refine WC.exit ?_
      refine WQ.thenExit ?_
      cases h
      have he := he1 _ hf1
      subst he
      replace h := hk1
      try dsimp only at h
      refine WQ.thenExit ?_
      refine WQ.blockExit ?_
      exact WQ.cut [] () ⟨(by exact ⟨rfl, trivial⟩), (by exact ⟨rfl, trivial⟩), rfl, rfl, rfl, rfl⟩ h
  · intro _ h
    replace h : refFind_j1 = some _ := h
    unfold refFind_j1 at h
    show WC _ _ _ ⟨[(6, .p 6 0)], [(6, .blk 40 [.v (.str []), .v (.int .i64 0), .v (.int .i64 0), .v (.raw (.slice none 0 0)), .v (.bool false)])]⟩ _ _
    refine WC.seq ?_
    refine WC.region ?_
    refine WL.run tbOk 3 (acc := []) rfl trivial ?_
    refine WL.nil ?_
    refine WQ.thenNormal ?_
    refine WC.ret ?_
    cases h
    exact WQ.rets tbOk (r := .tup [.v (.agg [.str ((⟨[], 0, 0, [], false⟩ : ApiCodeEntry).Code), .int .i64 ((⟨[], 0, 0, [], false⟩ : ApiCodeEntry).From), .int .i64 ((⟨[], 0, 0, [], false⟩ : ApiCodeEntry).To), .sl 1 (((⟨[], 0, 0, [], false⟩ : ApiCodeEntry).Terms).map eLStr), .bool ((⟨[], 0, 0, [], false⟩ : ApiCodeEntry).Other)]), .v (.bool false)]) hR [] (.inl rfl) rfl rfl (Le.tup (.cons (Le.agg (.same (.same (.same (.sl 1 (.same .nil)))))) (.cons (Le.refl _) .nil))) (by exact trivial) rfl rfl rfl rfl

theorem refExcluded_con {wg : World} (hw : WG wg) {b : ApiNomenclature} {code : Str} {words : (List Str)} {r : Bool} (h : refExcluded b code words = some r) : Con Tryz.prog wg gl 29 [.v (.agg [.sl 5 (b.Entries.map eApiCodeEntry), .sl 3 (b.Notes.map eApiCodeNote)]), .v (.str code), .v (.sl 1 (words.map eStr))] [] (.v (.bool r)) [] := by
  unfold refExcluded at h
  refine con_of_WC (S := slotsOf 0 _) Tryz.func29 rfl Tryz.ntmps29 rfl (fun t x hx => (slotsOf_get hx).2) ?_
  intro F L w ρ0 R hR
  show WC _ _ _ ⟨[(0, .v (.agg [.sl 5 (b.Entries.map eApiCodeEntry), .sl 3 (b.Notes.map eApiCodeNote)])), (1, .v (.str code)), (2, .v (.sl 1 (words.map eStr)))], []⟩ _ _
  refine WC.seq ?_
  refine WC.region ?_
  refine WL.run tbOk 2 (acc := []) rfl trivial ?_
  refine WL.nil ?_
  refine WQ.thenNormal ?_
  refine WC.seq ?_
  refine WC.seq ?_
  refine WC.region ?_
  refine WL.run tbOk 1 (acc := []) rfl trivial ?_
  refine WL.nil ?_
  refine WQ.thenNormal ?_
  refine WC.thenCut (X := Unit) (fun gG => ⟨[], []⟩) (fun gG => refExcluded_j1  = some r) ?_ ?_
  · refine WC.block ?_
    obtain ⟨eQ1, hl1, hk1⟩ := bnd h
    clear h
    refine WC.loop (σ := Int) (τ := ((Bool) ⊕ (Unit))) (fun sS => ⟨[(7, .v (.int .i64 sS)), (3, .p 3 0), (1, .v (.str code)), (2, .v (.sl 1 (words.map eStr)))], [(3, .blk 31 [.v (.sl 5 (b.Entries.map eApiCodeEntry)), .v (.sl 3 (b.Notes.map eApiCodeNote))])]⟩) (refExcluded_b1 b code words) [] (0 : Int) hl1 ⟨(by exact ⟨rfl, rfl, rfl, rfl, trivial⟩), (by exact ⟨rfl, trivial⟩), rfl, rfl, rfl, rfl⟩ ?_
    intro i m hn1 he1 hx1
    obtain ⟨o1, hf1⟩ := some_of hx1
    have h := hf1
    unfold refExcluded_b1 at h
    show WC _ _ _ ⟨[(7, .v (.int .i64 i)), (3, .p 3 0), (1, .v (.str code)), (2, .v (.sl 1 (words.map eStr)))], [(3, .blk 31 [.v (.sl 5 (b.Entries.map eApiCodeEntry)), .v (.sl 3 (b.Notes.map eApiCodeNote))])]⟩ _ _
    refine WC.seq ?_
    refine WC.seq ?_
    refine WC.region ?_
    refine WL.run tbOk 3 (acc := []) rfl trivial ?_
    refine WL.q [] rfl rfl rfl (q_ev tbOk (.v (.int .i64 (b.Notes.length : Int))) rfl (by exact trivial) (by first | (simp only [List.length_map]; done) | (simp only [List.length_map]; rfl) | rfl)) ?_
    refine WL.run tbOk 1 (acc := []) rfl trivial ?_
    refine WL.nil ?_
    refine WQ.thenNormal ?_
    refine WC.cond rfl (fun hc1 => ?_) (fun hc1 => ?_)
    · replace h := ite_t hc1 h
      refine WC.skip ?_
      refine WQ.thenNormal ?_
      refine WC.seq ?_
      refine WC.block ?_
      refine WC.seq ?_
      refine WC.region ?_
      refine WL.run tbOk 4 (acc := []) rfl trivial ?_
      obtain ⟨g1, h⟩ := grd h
      obtain ⟨x2, hxx2, h⟩ := bnd h
      refine WL.q [] rfl rfl rfl (q_idx tbOk rfl (by exact trivial) g1 (map_get (f := eApiCodeNote) hxx2)) ?_
      refine WL.run tbOk 2 (acc := []) rfl trivial ?_
      obtain ⟨v3, hvv3, h⟩ := bnd h
      refine WL.call0 fn64 rfl rfl rfl rfl (by exact trivial) rfl (refPrefix_con hw hvv3) ?_
      refine WL.run tbOk 4 (acc := []) rfl (by repeat' (first | exact trivial | assumption | intro _ | apply And.intro | (refine not_i ?_; assumption) | (refine and_l ?_; assumption) | (refine and_i ?_ ?_) | decide | omega | (simp [vcs]; done) | (simp only [List.length_map]; omega))) ?_
      obtain ⟨g2, h⟩ := grd h
      refine WL.gq [] rfl rfl rfl rfl (fun hg => q_idx tbOk rfl (by repeat' (first | exact trivial | assumption | intro _ | apply And.intro | (refine not_i ?_; assumption) | (refine and_l ?_; assumption) | (refine and_i ?_ ?_) | decide | omega | (simp [vcs]; done) | (simp only [List.length_map]; omega))) (g2 hg).1 (map_getD (f := eApiCodeNote) (g2 hg).2 (g2 hg).1)) ?_
      refine WL.run tbOk 3 (acc := []) rfl (by repeat' (first | exact trivial | assumption | intro _ | apply And.intro | (refine not_i ?_; assumption) | (refine and_l ?_; assumption) | (refine and_i ?_ ?_) | decide | omega | (simp [vcs]; done) | (simp only [List.length_map]; omega))) ?_
      obtain ⟨v4, hvv4, h⟩ := bnd h
      refine WL.gcall0 fn65 rfl rfl rfl rfl rfl (fun _ => (by repeat' (first | exact trivial | assumption | intro _ | apply And.intro | (refine not_i ?_; assumption) | (refine and_l ?_; assumption) | (refine and_i ?_ ?_) | decide | omega | (simp [vcs]; done) | (simp only [List.length_map]; omega)))) rfl (fun hg => (refSubset_con hw (ite_t hg hvv4))) ?_
      refine WL.run tbOk 1 (acc := []) rfl (by repeat' (first | exact trivial | assumption | intro _ | apply And.intro | (refine not_i ?_; assumption) | (refine and_l ?_; assumption) | (refine and_i ?_ ?_) | decide | omega | (simp [vcs]; done) | (simp only [List.length_map]; omega))) ?_
      refine WL.nil ?_
      refine WQ.thenNormal ?_
      refine WC.cond rfl (fun hc2 => ?_) (fun hc2 => ?_)
      · replace h := ite_t hc2 h
        refine WC.seq ?_
        refine WC.region ?_
        refine WL.run tbOk 1 (acc := []) rfl trivial ?_
        refine WL.nil ?_
        refine WQ.thenNormal ?_
        refine WC.ret ?_
        refine WQ.blockRet ?_
        refine WQ.thenRet ?_
        cases h
        have he := he1 _ hf1
        subst he
        have h : some true = some _ := hk1
        refine WQ.thenRet ?_
        refine WQ.blockRet ?_
        refine WQ.thenRet ?_
        cases h
        exact WQ.rets tbOk hR [] (.inl rfl) rfl rfl (Le.refl _) (by exact trivial) rfl rfl rfl rfl
      · replace h := ite_f hc2 h
        refine WC.skip ?_
        refine WQ.blockNormal ?_
        refine WQ.thenNormal ?_
        refine WC.region ?_
        refine WL.run tbOk 3 (acc := []) rfl trivial ?_
        refine WL.nil ?_
        cases h
        exact WQ.next [] (IntKind.i64.wrap (i + (1 : Int))) ⟨(by exact ⟨rfl, rfl, rfl, rfl, trivial⟩), (by exact ⟨rfl, trivial⟩), rfl, rfl, rfl, rfl⟩ (hn1 _ hf1)
    · replace h := ite_f hc1 h
      refine WC.exit ?_
      refine WQ.thenExit ?_
      cases h
      have he := he1 _ hf1
      subst he
      replace h := hk1
      try dsimp only at h
      refine WQ.thenExit ?_
      refine WQ.blockExit ?_
      exact WQ.cut [] () ⟨(by exact trivial), (by exact trivial), rfl, rfl, rfl, rfl⟩ h
  · intro _ h
    replace h : refExcluded_j1 = some _ := h
    unfold refExcluded_j1 at h
    show WC _ _ _ ⟨[], []⟩ _ _
    refine WC.seq ?_
    refine WC.region ?_
    refine WL.run tbOk 1 (acc := []) rfl trivial ?_
    refine WL.nil ?_
    refine WQ.thenNormal ?_
    refine WC.ret ?_
    cases h
    exact WQ.rets tbOk hR [] (.inl rfl) rfl rfl (Le.refl _) (by exact trivial) rfl rfl rfl rfl

theorem refAlts_con {wg : World} (hw : WG wg) {b : ApiNomenclature} {x : ApiCodeEntry} {r : (List (List Str))} (h : refAlts b x = some r) : Con Tryz.prog wg gl 27 [.v (.agg [.sl 5 (b.Entries.map eApiCodeEntry), .sl 3 (b.Notes.map eApiCodeNote)]), .v (.agg [.str x.Code, .int .i64 x.From, .int .i64 x.To, .sl 1 (x.Terms.map eLStr), .bool x.Other])] [] (.v (.sl 1 (r.map eLStr))) [] := by
  unfold refAlts at h
  refine con_of_WC (S := slotsOf 0 _) Tryz.func27 rfl Tryz.ntmps27 rfl (fun t x hx => (slotsOf_get hx).2) ?_
  intro F L w ρ0 R hR
  show WC _ _ _ ⟨[(0, .v (.agg [.sl 5 (b.Entries.map eApiCodeEntry), .sl 3 (b.Notes.map eApiCodeNote)])), (1, .v (.agg [.str x.Code, .int .i64 x.From, .int .i64 x.To, .sl 1 (x.Terms.map eLStr), .bool x.Other]))], []⟩ _ _
  refine WC.seq ?_
  refine WC.region ?_
  refine WL.run tbOk 3 (acc := []) rfl trivial ?_
  refine WL.nil ?_
  refine WQ.thenNormal ?_
  refine WC.seq ?_
  refine WC.region ?_
  refine WL.buildRow tbOk (([] : (List (List Str))).map eLStr) rfl rfl rfl rfl (by exact trivial) rfl rfl ?_
  refine WL.run tbOk 2 (acc := []) rfl trivial ?_
  obtain ⟨g1, h⟩ := grd h
  refine WL.append tbOk (x.Terms.map eLStr) [10, 7] ap38 rfl rfl rfl rfl (fun _ e => by cases e; rfl) (by exact trivial) (map_cells (f := eLStr) (xs := x.Terms) fun _ => rfl) (by have := g1; simp only [List.length_map, List.length_nil, List.length_cons] at this ⊢; omega) rfl rfl rfl rfl ?_
  refine WL.run tbOk 1 (acc := []) rfl trivial ?_
  refine WL.nil ?_
  refine WQ.thenNormal ?_
  refine WC.seq ?_
  refine WC.seq ?_
  refine WC.region ?_
  refine WL.run tbOk 1 (acc := []) rfl trivial ?_
  refine WL.nil ?_
  refine WQ.thenNormal ?_
  refine WC.thenCut (X := (List (List Str))) (fun gG => ⟨[(5, .r 1005)], [(1005, .row 41 1 (gG.map eLStr))]⟩) (fun gG => refAlts_j1 gG = some r) ?_ ?_
  · refine WC.block ?_
    obtain ⟨eQ1, hl1, hk1⟩ := bnd h
    clear h
    refine WC.loop (σ := Int × (List (List Str))) (τ := ((List (List Str)))) (fun sS => ⟨[(6, .v (.int .i64 sS.1)), (5, .r 1005), (3, .p 3 0), (2, .p 2 0)], [(1005, .row 41 1 (sS.2.map eLStr)), (2, .blk 31 [.v (.sl 5 (b.Entries.map eApiCodeEntry)), .v (.sl 3 (b.Notes.map eApiCodeNote))]), (3, .blk 40 [.v (.str x.Code), .v (.int .i64 x.From), .v (.int .i64 x.To), .v (.sl 1 (x.Terms.map eLStr)), .v (.bool x.Other)])]⟩) (refAlts_b1 b x) [(1005, 10)] ((0 : Int), x.Terms) hl1 ⟨(by exact ⟨rfl, rfl, rfl, rfl, trivial⟩), (by exact ⟨rfl, rfl, rfl, trivial⟩), rfl, rfl, rfl, rfl⟩ ?_
    rintro ⟨i, out2⟩ m hn1 he1 hx1
    obtain ⟨o1, hf1⟩ := some_of hx1
    have h := hf1
    unfold refAlts_b1 at h
    show WC _ _ _ ⟨[(6, .v (.int .i64 i)), (5, .r 1005), (3, .p 3 0), (2, .p 2 0)], [(1005, .row 41 1 (out2.map eLStr)), (2, .blk 31 [.v (.sl 5 (b.Entries.map eApiCodeEntry)), .v (.sl 3 (b.Notes.map eApiCodeNote))]), (3, .blk 40 [.v (.str x.Code), .v (.int .i64 x.From), .v (.int .i64 x.To), .v (.sl 1 (x.Terms.map eLStr)), .v (.bool x.Other)])]⟩ _ _
    refine WC.seq ?_
    refine WC.seq ?_
    refine WC.region ?_
    refine WL.run tbOk 3 (acc := []) rfl trivial ?_
    refine WL.q [] rfl rfl rfl (q_ev tbOk (.v (.int .i64 (b.Notes.length : Int))) rfl (by exact trivial) (by first | (simp only [List.length_map]; done) | (simp only [List.length_map]; rfl) | rfl)) ?_
    refine WL.run tbOk 1 (acc := []) rfl trivial ?_
    refine WL.nil ?_
    refine WQ.thenNormal ?_
    refine WC.cond rfl (fun hc1 => ?_) (fun hc1 => ?_)
    · replace h := ite_t hc1 h
      refine WC.skip ?_
      refine WQ.thenNormal ?_
      refine WC.seq ?_
      refine WC.thenCut (X := (List (List Str))) (fun gG => ⟨[(5, .r 1005), (6, .v (.int .i64 i)), (3, .p 3 0), (2, .p 2 0)], [(1005, .row 41 1 (gG.map eLStr)), (2, .blk 31 [.v (.sl 5 (b.Entries.map eApiCodeEntry)), .v (.sl 3 (b.Notes.map eApiCodeNote))]), (3, .blk 40 [.v (.str x.Code), .v (.int .i64 x.From), .v (.int .i64 x.To), .v (.sl 1 (x.Terms.map eLStr)), .v (.bool x.Other)])]⟩) (fun gG => refAlts_j2 b x i gG = some o1) ?_ ?_
      · refine WC.block ?_
        refine WC.seq ?_
        refine WC.order mixed ?_
        refine WR.run tbOk 3 (acc := []) rfl trivial ?_
        obtain ⟨g2, h⟩ := grd h
        obtain ⟨x4, hxx4, h⟩ := bnd h
        refine WR.q [] rfl rfl rfl (q_idx tbOk rfl (by exact trivial) g2 (map_get (f := eApiCodeNote) hxx4)) ?_
        refine WR.run tbOk 5 (acc := []) rfl trivial ?_
        refine WR.nil (by kernel_rfl) ?_
        refine WQ.thenNormal ?_
        refine WC.cond rfl (fun hc2 => ?_) (fun hc2 => ?_)
        · replace h := ite_t hc2 h
          refine WC.region ?_
          refine WL.run tbOk 4 (acc := []) rfl trivial ?_
          obtain ⟨g3, h⟩ := grd h
          obtain ⟨x5, hxx5, h⟩ := bnd h
          refine WL.q [] rfl rfl rfl (q_idx tbOk rfl (by exact trivial) g3 (map_get (f := eApiCodeNote) hxx5)) ?_
          refine WL.run tbOk 3 (acc := []) rfl trivial ?_
          obtain ⟨g4, h⟩ := grd h
          refine WL.append tbOk ((out2 ++ [x5.Words]).map eLStr) [35, 1005] ap38 rfl rfl rfl rfl (fun _ e => by cases e; rfl) (by exact trivial) (map_cells (f := eLStr) (xs := [x5.Words]) fun _ => rfl) (by have := g4; simp only [List.length_map, List.length_nil, List.length_cons] at this ⊢; omega) rfl rfl (by simp only [List.map_append]; try rfl) rfl ?_
          refine WL.run tbOk 1 (acc := []) rfl trivial ?_
          refine WL.nil ?_
          refine WQ.blockNormal ?_
          exact WQ.cut [(1005, 35)] (out2 ++ [x5.Words]) ⟨(by exact ⟨rfl, rfl, rfl, rfl, trivial⟩), (by exact ⟨rfl, rfl, rfl, trivial⟩), rfl, rfl, rfl, rfl⟩ h
        · replace h := ite_f hc2 h
          refine WC.skip ?_
          refine WQ.blockNormal ?_
          exact WQ.cut [] out2 ⟨(by exact ⟨rfl, rfl, rfl, rfl, trivial⟩), (by exact ⟨rfl, rfl, rfl, trivial⟩), rfl, rfl, rfl, rfl⟩ h
      · intro out6 h
        replace h : refAlts_j2 b x i out6 = some _ := h
        unfold refAlts_j2 at h
        show WC _ _ _ ⟨[(5, .r 1005), (6, .v (.int .i64 i)), (3, .p 3 0), (2, .p 2 0)], [(1005, .row 41 1 (out6.map eLStr)), (2, .blk 31 [.v (.sl 5 (b.Entries.map eApiCodeEntry)), .v (.sl 3 (b.Notes.map eApiCodeNote))]), (3, .blk 40 [.v (.str x.Code), .v (.int .i64 x.From), .v (.int .i64 x.To), .v (.sl 1 (x.Terms.map eLStr)), .v (.bool x.Other)])]⟩ _ _
        refine WC.region ?_
        refine WL.run tbOk 3 (acc := []) rfl trivial ?_
        refine WL.nil ?_
        cases h
        exact WQ.next [] ((IntKind.i64.wrap (i + (1 : Int))), out6) ⟨(by exact ⟨rfl, rfl, rfl, rfl, trivial⟩), (by exact ⟨rfl, rfl, rfl, trivial⟩), rfl, rfl, rfl, rfl⟩ (hn1 _ hf1)
    · replace h := ite_f hc1 h
      refine WC.exit ?_
      refine WQ.thenExit ?_
      cases h
      have he := he1 _ hf1
      subst he
      replace h := hk1
      try dsimp only at h
      refine WQ.thenExit ?_
      refine WQ.blockExit ?_
      exact WQ.cut [] out2 ⟨(by exact ⟨rfl, trivial⟩), (by exact ⟨rfl, trivial⟩), rfl, rfl, rfl, rfl⟩ h
  · intro out h
    replace h : refAlts_j1 out = some _ := h
    unfold refAlts_j1 at h
    show WC _ _ _ ⟨[(5, .r 1005)], [(1005, .row 41 1 (out.map eLStr))]⟩ _ _
    refine WC.seq ?_
    refine WC.region ?_
    refine WL.run tbOk 2 (acc := []) rfl trivial ?_
    refine WL.nil ?_
    refine WQ.thenNormal ?_
    refine WC.ret ?_
    refine WQ.publish 1005 rfl rfl ?_
    cases h
    exact WQ.rets tbOk hR [] (.inl rfl) rfl rfl (Le.refl _) (by exact trivial) rfl rfl rfl rfl

theorem refScore_con {wg : World} (hw : WG wg) {b : ApiNomenclature} {x : ApiCodeEntry} {words : (List Str)} {r : Int} (h : refScore b x words = some r) : Con Tryz.prog wg gl 31 [.v (.agg [.sl 5 (b.Entries.map eApiCodeEntry), .sl 3 (b.Notes.map eApiCodeNote)]), .v (.agg [.str x.Code, .int .i64 x.From, .int .i64 x.To, .sl 1 (x.Terms.map eLStr), .bool x.Other]), .v (.sl 1 (words.map eStr))] [] (.v (.int .i64 r)) [] := by
  unfold refScore at h
  refine con_of_WC (S := slotsOf 0 _) Tryz.func31 rfl Tryz.ntmps31 rfl (fun t x hx => (slotsOf_get hx).2) ?_
  intro F L w ρ0 R hR
  show WC _ _ _ ⟨[(0, .v (.agg [.sl 5 (b.Entries.map eApiCodeEntry), .sl 3 (b.Notes.map eApiCodeNote)])), (1, .v (.agg [.str x.Code, .int .i64 x.From, .int .i64 x.To, .sl 1 (x.Terms.map eLStr), .bool x.Other])), (2, .v (.sl 1 (words.map eStr)))], []⟩ _ _
  refine WC.seq ?_
  refine WC.region ?_
  refine WL.run tbOk 3 (acc := []) rfl trivial ?_
  refine WL.nil ?_
  refine WQ.thenNormal ?_
  refine WC.seq ?_
  refine WC.region ?_
  refine WL.run tbOk 1 (acc := []) rfl trivial ?_
  refine WL.nil ?_
  refine WQ.thenNormal ?_
  refine WC.seq ?_
  refine WC.seq ?_
  refine WC.region ?_
  refine WL.run tbOk 4 (acc := []) rfl trivial ?_
  obtain ⟨v, hvv, h⟩ := bnd h
  refine WL.call0 fn29 rfl rfl rfl rfl (by exact trivial) rfl (refExcluded_con hw hvv) ?_
  refine WL.nil ?_
  refine WQ.thenNormal ?_
  refine WC.cond rfl (fun hc1 => ?_) (fun hc1 => ?_)
  · replace h := ite_t hc1 h
    refine WC.seq ?_
    refine WC.region ?_
    refine WL.run tbOk 1 (acc := []) rfl trivial ?_
    refine WL.nil ?_
    refine WQ.thenNormal ?_
    refine WC.ret ?_
    refine WQ.thenRet ?_
    cases h
    exact WQ.rets tbOk hR [] (.inl rfl) rfl rfl (Le.refl _) (by exact trivial) rfl rfl rfl rfl
  · replace h := ite_f hc1 h
    refine WC.skip ?_
    refine WQ.thenNormal ?_
    refine WC.seq ?_
    refine WC.region ?_
    refine WL.run tbOk 2 (acc := []) rfl trivial ?_
    obtain ⟨v2, hvv2, h⟩ := bnd h
    refine WL.call0 fn27 rfl rfl rfl rfl (by exact trivial) rfl (refAlts_con hw hvv2) ?_
    refine WL.run tbOk 1 (acc := []) rfl trivial ?_
    refine WL.nil ?_
    refine WQ.thenNormal ?_
    refine WC.seq ?_
    refine WC.seq ?_
    refine WC.region ?_
    refine WL.run tbOk 1 (acc := []) rfl trivial ?_
    refine WL.nil ?_
    refine WQ.thenNormal ?_
    refine WC.thenCut (X := Int) (fun gG => ⟨[(7, .v (.int .i64 gG))], []⟩) (fun gG => refScore_j1 gG = some r) ?_ ?_
    · refine WC.block ?_
      obtain ⟨eQ1, hl1, hk1⟩ := bnd h
      clear h
      refine WC.loop (σ := Int × Int) (τ := (Int)) (fun sS => ⟨[(9, .v (.int .i64 sS.1)), (8, .v (.sl 1 (v2.map eLStr))), (7, .v (.int .i64 sS.2)), (2, .v (.sl 1 (words.map eStr)))], []⟩) (refScore_b1 words v2) [] ((0 : Int), (0 : Int)) hl1 ⟨(by exact ⟨rfl, rfl, rfl, rfl, trivial⟩), (by exact trivial), rfl, rfl, rfl, rfl⟩ ?_
      rintro ⟨i, n12⟩ m hn1 he1 hx1
      obtain ⟨o1, hf1⟩ := some_of hx1
      have h := hf1
      unfold refScore_b1 at h
      show WC _ _ _ ⟨[(9, .v (.int .i64 i)), (8, .v (.sl 1 (v2.map eLStr))), (7, .v (.int .i64 n12)), (2, .v (.sl 1 (words.map eStr)))], []⟩ _ _
      refine WC.seq ?_
      refine WC.seq ?_
      refine WC.region ?_
      refine WL.run tbOk 2 (acc := []) rfl trivial ?_
      refine WL.q [] rfl rfl rfl (q_ev tbOk (.v (.int .i64 (v2.length : Int))) rfl (by exact trivial) (by first | (simp only [List.length_map]; done) | (simp only [List.length_map]; rfl) | rfl)) ?_
      refine WL.run tbOk 1 (acc := []) rfl trivial ?_
      refine WL.nil ?_
      refine WQ.thenNormal ?_
      refine WC.cond rfl (fun hc2 => ?_) (fun hc2 => ?_)
      · replace h := ite_t hc2 h
        refine WC.skip ?_
        refine WQ.thenNormal ?_
        refine WC.seq ?_
        refine WC.thenCut (X := Int) (fun gG => ⟨[(7, .v (.int .i64 gG)), (9, .v (.int .i64 i)), (8, .v (.sl 1 (v2.map eLStr))), (2, .v (.sl 1 (words.map eStr)))], []⟩) (fun gG => refScore_j2 words v2 i gG = some o1) ?_ ?_
        · refine WC.block ?_
          refine WC.seq ?_
          refine WC.region ?_
          refine WL.run tbOk 2 (acc := []) rfl trivial ?_
          obtain ⟨g1, h⟩ := grd h
          obtain ⟨x4, hxx4, h⟩ := bnd h
          refine WL.q [] rfl rfl rfl (q_idx tbOk rfl (by exact trivial) g1 (map_get (f := eLStr) hxx4)) ?_
          refine WL.run tbOk 2 (acc := []) rfl trivial ?_
          obtain ⟨v4, hvv4, h⟩ := bnd h
          refine WL.call0 fn65 rfl rfl rfl rfl (by exact trivial) rfl (refSubset_con hw hvv4) ?_
          refine WL.nil ?_
          refine WQ.thenNormal ?_
          refine WC.cond rfl (fun hc3 => ?_) (fun hc3 => ?_)
          · replace h := ite_t hc3 h
            refine WC.region ?_
            refine WL.run tbOk 3 (acc := []) rfl trivial ?_
            obtain ⟨g2, h⟩ := grd h
            obtain ⟨x5, hxx5, h⟩ := bnd h
            refine WL.q [] rfl rfl rfl (q_idx tbOk rfl (by exact trivial) g2 (map_get (f := eLStr) hxx5)) ?_
            refine WL.run tbOk 1 (acc := []) rfl trivial ?_
            refine WL.q [] rfl rfl rfl (q_ev tbOk (.v (.int .i64 (x5.length : Int))) rfl (by exact trivial) (by first | (simp only [List.length_map]; done) | (simp only [List.length_map]; rfl) | rfl)) ?_
            refine WL.run tbOk 2 (acc := []) rfl trivial ?_
            refine WL.nil ?_
            refine WQ.blockNormal ?_
            exact WQ.cut [] (if (x5.length : Int) > n12 then (x5.length : Int) else n12) ⟨(by exact ⟨rfl, rfl, rfl, rfl, trivial⟩), (by exact trivial), rfl, rfl, rfl, rfl⟩ h
          · replace h := ite_f hc3 h
            refine WC.skip ?_
            refine WQ.blockNormal ?_
            exact WQ.cut [] n12 ⟨(by exact ⟨rfl, rfl, rfl, rfl, trivial⟩), (by exact trivial), rfl, rfl, rfl, rfl⟩ h
        · intro n16 h
          replace h : refScore_j2 words v2 i n16 = some _ := h
          unfold refScore_j2 at h
          show WC _ _ _ ⟨[(7, .v (.int .i64 n16)), (9, .v (.int .i64 i)), (8, .v (.sl 1 (v2.map eLStr))), (2, .v (.sl 1 (words.map eStr)))], []⟩ _ _
          refine WC.region ?_
          refine WL.run tbOk 3 (acc := []) rfl trivial ?_
          refine WL.nil ?_
          cases h
          exact WQ.next [] ((IntKind.i64.wrap (i + (1 : Int))), n16) ⟨(by exact ⟨rfl, rfl, rfl, rfl, trivial⟩), (by exact trivial), rfl, rfl, rfl, rfl⟩ (hn1 _ hf1)
      · replace h := ite_f hc2 h
        refine WC.exit ?_
        refine WQ.thenExit ?_
        cases h
        have he := he1 _ hf1
        subst he
        replace h := hk1
        try dsimp only at h
        refine WQ.thenExit ?_
        refine WQ.blockExit ?_
        exact WQ.cut [] n12 ⟨(by exact ⟨rfl, trivial⟩), (by exact trivial), rfl, rfl, rfl, rfl⟩ h
    · intro n1 h
      replace h : refScore_j1 n1 = some _ := h
      unfold refScore_j1 at h
      show WC _ _ _ ⟨[(7, .v (.int .i64 n1))], []⟩ _ _
      refine WC.seq ?_
      refine WC.region ?_
      refine WL.run tbOk 2 (acc := []) rfl trivial ?_
      refine WL.nil ?_
      refine WQ.thenNormal ?_
      refine WC.ret ?_
      cases h
      exact WQ.rets tbOk hR [] (.inl rfl) rfl rfl (Le.refl _) (by exact trivial) rfl rfl rfl rfl

theorem sameEntries_con {wg : World} (hw : WG wg) {a : (List ApiCodeEntry)} {b : (List ApiCodeEntry)} {r : Bool} (h : sameEntries a b = some r) : Con Tryz.prog wg gl 36 [.v (.sl 5 (a.map eApiCodeEntry)), .v (.sl 5 (b.map eApiCodeEntry))] [] (.v (.bool r)) [] := by
  unfold sameEntries at h
  refine con_of_WC (S := slotsOf 0 _) Tryz.func36 rfl Tryz.ntmps36 rfl (fun t x hx => (slotsOf_get hx).2) ?_
  intro F L w ρ0 R hR
  show WC _ _ _ ⟨[(0, .v (.sl 5 (a.map eApiCodeEntry))), (1, .v (.sl 5 (b.map eApiCodeEntry)))], []⟩ _ _
  refine WC.seq ?_
  refine WC.region ?_
  refine WL.run tbOk 1 (acc := []) rfl trivial ?_
  refine WL.nil ?_
  refine WQ.thenNormal ?_
  refine WC.seq ?_
  refine WC.seq ?_
  refine WC.region ?_
  refine WL.run tbOk 1 (acc := []) rfl trivial ?_
  refine WL.q [] rfl rfl rfl (q_ev tbOk (.v (.int .i64 (a.length : Int))) rfl (by exact trivial) (by first | (simp only [List.length_map]; done) | (simp only [List.length_map]; rfl) | rfl)) ?_
  refine WL.run tbOk 1 (acc := []) rfl trivial ?_
  refine WL.q [] rfl rfl rfl (q_ev tbOk (.v (.int .i64 (b.length : Int))) rfl (by exact trivial) (by first | (simp only [List.length_map]; done) | (simp only [List.length_map]; rfl) | rfl)) ?_
  refine WL.run tbOk 1 (acc := []) rfl trivial ?_
  refine WL.nil ?_
  refine WQ.thenNormal ?_
  refine WC.cond rfl (fun hc1 => ?_) (fun hc1 => ?_)
  · replace h := ite_t hc1 h
    refine WC.seq ?_
    refine WC.region ?_
    refine WL.run tbOk 1 (acc := []) rfl trivial ?_
    refine WL.nil ?_
    refine WQ.thenNormal ?_
    refine WC.ret ?_
    refine WQ.thenRet ?_
    cases h
    exact WQ.rets tbOk hR [] (.inl rfl) rfl rfl (Le.refl _) (by exact trivial) rfl rfl rfl rfl
  · replace h := ite_f hc1 h
    refine WC.skip ?_
    refine WQ.thenNormal ?_
    refine WC.seq ?_
    refine WC.seq ?_
    refine WC.region ?_
    refine WL.run tbOk 1 (acc := []) rfl trivial ?_
    refine WL.nil ?_
    refine WQ.thenNormal ?_
    refine WC.thenCut (X := Unit) (fun gG => ⟨[], []⟩) (fun gG => sameEntries_j1  = some r) ?_ ?_
    · refine WC.block ?_
      obtain ⟨eQ1, hl1, hk1⟩ := bnd h
      clear h
      refine WC.loop (σ := Int) (τ := ((Bool) ⊕ (Unit))) (fun sS => ⟨[(5, .v (.int .i64 sS)), (0, .v (.sl 5 (a.map eApiCodeEntry))), (1, .v (.sl 5 (b.map eApiCodeEntry)))], []⟩) (sameEntries_b1 a b) [] (0 : Int) hl1 ⟨(by exact ⟨rfl, rfl, rfl, trivial⟩), (by exact trivial), rfl, rfl, rfl, rfl⟩ ?_
      intro i m hn1 he1 hx1
      obtain ⟨o1, hf1⟩ := some_of hx1
      have h := hf1
      unfold sameEntries_b1 at h
      show WC _ _ _ ⟨[(5, .v (.int .i64 i)), (0, .v (.sl 5 (a.map eApiCodeEntry))), (1, .v (.sl 5 (b.map eApiCodeEntry)))], []⟩ _ _
      refine WC.seq ?_
      refine WC.seq ?_
      refine WC.region ?_
      refine WL.run tbOk 2 (acc := []) rfl trivial ?_
      refine WL.q [] rfl rfl rfl (q_ev tbOk (.v (.int .i64 (a.length : Int))) rfl (by exact trivial) (by first | (simp only [List.length_map]; done) | (simp only [List.length_map]; rfl) | rfl)) ?_
      refine WL.run tbOk 1 (acc := []) rfl trivial ?_
      refine WL.nil ?_
      refine WQ.thenNormal ?_
      refine WC.cond rfl (fun hc2 => ?_) (fun hc2 => ?_)
      · replace h := ite_t hc2 h
        refine WC.skip ?_
        refine WQ.thenNormal ?_
        refine WC.seq ?_
        refine WC.thenCut (X := Unit) (fun gG => ⟨[(5, .v (.int .i64 i)), (0, .v (.sl 5 (a.map eApiCodeEntry))), (1, .v (.sl 5 (b.map eApiCodeEntry)))], []⟩) (fun gG => sameEntries_j2 a b i = some o1) ?_ ?_
        · refine WC.block ?_
          refine WC.seq ?_
          refine WC.seq ?_
          refine WC.order mixed ?_
          refine WR.run tbOk 2 (acc := []) rfl trivial ?_
          obtain ⟨g1, h⟩ := grd h
          obtain ⟨x13, hxx13, h⟩ := bnd h
          refine WR.q [] rfl rfl rfl (q_idx tbOk rfl (by exact trivial) g1 (map_get (f := eApiCodeEntry) hxx13)) ?_
          refine WR.run tbOk 4 (acc := []) rfl trivial ?_
          obtain ⟨g2, h⟩ := grd h
          obtain ⟨x14, hxx14, h⟩ := bnd h
          refine WR.q [] rfl rfl rfl (q_idx tbOk rfl (by exact trivial) g2 (map_get (f := eApiCodeEntry) hxx14)) ?_
          refine WR.run tbOk 6 (acc := []) rfl (by repeat' (first | exact trivial | assumption | intro _ | apply And.intro | (refine not_i ?_; assumption) | (refine and_l ?_; assumption) | (refine and_i ?_ ?_) | decide | omega | (simp [vcs]; done) | (simp only [List.length_map]; omega))) ?_
          obtain ⟨g3, h⟩ := grd h
          refine WR.gq [] rfl rfl rfl rfl (fun hg => q_idx tbOk rfl (by repeat' (first | exact trivial | assumption | intro _ | apply And.intro | (refine not_i ?_; assumption) | (refine and_l ?_; assumption) | (refine and_i ?_ ?_) | decide | omega | (simp [vcs]; done) | (simp only [List.length_map]; omega))) (g3 hg).1 (map_getD (f := eApiCodeEntry) (g3 hg).2 (g3 hg).1)) ?_
          refine WR.run tbOk 4 (acc := []) rfl (by repeat' (first | exact trivial | assumption | intro _ | apply And.intro | (refine not_i ?_; assumption) | (refine and_l ?_; assumption) | (refine and_i ?_ ?_) | decide | omega | (simp [vcs]; done) | (simp only [List.length_map]; omega))) ?_
          obtain ⟨g4, h⟩ := grd h
          refine WR.gq [] rfl rfl rfl rfl (fun hg => q_idx tbOk rfl (by repeat' (first | exact trivial | assumption | intro _ | apply And.intro | (refine not_i ?_; assumption) | (refine and_l ?_; assumption) | (refine and_i ?_ ?_) | decide | omega | (simp [vcs]; done) | (simp only [List.length_map]; omega))) (g4 hg).1 (map_getD (f := eApiCodeEntry) (g4 hg).2 (g4 hg).1)) ?_
          refine WR.run tbOk 7 (acc := []) rfl (by repeat' (first | exact trivial | assumption | intro _ | apply And.intro | (refine not_i ?_; assumption) | (refine and_l ?_; assumption) | (refine and_i ?_ ?_) | decide | omega | (simp [vcs]; done) | (simp only [List.length_map]; omega))) ?_
          obtain ⟨g5, h⟩ := grd h
          refine WR.gq [] rfl rfl rfl rfl (fun hg => q_idx tbOk rfl (by repeat' (first | exact trivial | assumption | intro _ | apply And.intro | (refine not_i ?_; assumption) | (refine and_l ?_; assumption) | (refine and_i ?_ ?_) | decide | omega | (simp [vcs]; done) | (simp only [List.length_map]; omega))) (g5 hg).1 (map_getD (f := eApiCodeEntry) (g5 hg).2 (g5 hg).1)) ?_
          refine WR.run tbOk 4 (acc := []) rfl (by repeat' (first | exact trivial | assumption | intro _ | apply And.intro | (refine not_i ?_; assumption) | (refine and_l ?_; assumption) | (refine and_i ?_ ?_) | decide | omega | (simp [vcs]; done) | (simp only [List.length_map]; omega))) ?_
          obtain ⟨g6, h⟩ := grd h
          refine WR.gq [] rfl rfl rfl rfl (fun hg => q_idx tbOk rfl (by repeat' (first | exact trivial | assumption | intro _ | apply And.intro | (refine not_i ?_; assumption) | (refine and_l ?_; assumption) | (refine and_i ?_ ?_) | decide | omega | (simp [vcs]; done) | (simp only [List.length_map]; omega))) (g6 hg).1 (map_getD (f := eApiCodeEntry) (g6 hg).2 (g6 hg).1)) ?_
          refine WR.run tbOk 7 (acc := []) rfl (by repeat' (first | exact trivial | assumption | intro _ | apply And.intro | (refine not_i ?_; assumption) | (refine and_l ?_; assumption) | (refine and_i ?_ ?_) | decide | omega | (simp [vcs]; done) | (simp only [List.length_map]; omega))) ?_
          obtain ⟨g7, h⟩ := grd h
          refine WR.gq [] rfl rfl rfl rfl (fun hg => q_idx tbOk rfl (by repeat' (first | exact trivial | assumption | intro _ | apply And.intro | (refine not_i ?_; assumption) | (refine and_l ?_; assumption) | (refine and_i ?_ ?_) | decide | omega | (simp [vcs]; done) | (simp only [List.length_map]; omega))) (g7 hg).1 (map_getD (f := eApiCodeEntry) (g7 hg).2 (g7 hg).1)) ?_
          refine WR.run tbOk 4 (acc := []) rfl (by repeat' (first | exact trivial | assumption | intro _ | apply And.intro | (refine not_i ?_; assumption) | (refine and_l ?_; assumption) | (refine and_i ?_ ?_) | decide | omega | (simp [vcs]; done) | (simp only [List.length_map]; omega))) ?_
          obtain ⟨g8, h⟩ := grd h
          refine WR.gq [] rfl rfl rfl rfl (fun hg => q_idx tbOk rfl (by repeat' (first | exact trivial | assumption | intro _ | apply And.intro | (refine not_i ?_; assumption) | (refine and_l ?_; assumption) | (refine and_i ?_ ?_) | decide | omega | (simp [vcs]; done) | (simp only [List.length_map]; omega))) (g8 hg).1 (map_getD (f := eApiCodeEntry) (g8 hg).2 (g8 hg).1)) ?_
          refine WR.run tbOk 7 (acc := []) rfl (by repeat' (first | exact trivial | assumption | intro _ | apply And.intro | (refine not_i ?_; assumption) | (refine and_l ?_; assumption) | (refine and_i ?_ ?_) | decide | omega | (simp [vcs]; done) | (simp only [List.length_map]; omega))) ?_
          obtain ⟨g9, h⟩ := grd h
          refine WR.gq [] rfl rfl rfl rfl (fun hg => q_idx tbOk rfl (by repeat' (first | exact trivial | assumption | intro _ | apply And.intro | (refine not_i ?_; assumption) | (refine and_l ?_; assumption) | (refine and_i ?_ ?_) | decide | omega | (simp [vcs]; done) | (simp only [List.length_map]; omega))) (g9 hg).1 (map_getD (f := eApiCodeEntry) (g9 hg).2 (g9 hg).1)) ?_
          refine WR.run tbOk 2 (acc := []) rfl (by repeat' (first | exact trivial | assumption | intro _ | apply And.intro | (refine not_i ?_; assumption) | (refine and_l ?_; assumption) | (refine and_i ?_ ?_) | decide | omega | (simp [vcs]; done) | (simp only [List.length_map]; omega))) ?_
          refine WR.gq [] rfl rfl rfl rfl (fun hg => q_ev tbOk (.v (.int .i64 (((a.getD i.toNat default).Terms).length : Int))) rfl (by repeat' (first | exact trivial | assumption | intro _ | apply And.intro | (refine not_i ?_; assumption) | (refine and_l ?_; assumption) | (refine and_i ?_ ?_) | decide | omega | (simp [vcs]; done) | (simp only [List.length_map]; omega))) (by first | (simp only [List.length_map]; done) | (simp only [List.length_map]; rfl) | rfl)) ?_
          refine WR.run tbOk 2 (acc := []) rfl (by repeat' (first | exact trivial | assumption | intro _ | apply And.intro | (refine not_i ?_; assumption) | (refine and_l ?_; assumption) | (refine and_i ?_ ?_) | decide | omega | (simp [vcs]; done) | (simp only [List.length_map]; omega))) ?_
          obtain ⟨g10, h⟩ := grd h
          refine WR.gq [] rfl rfl rfl rfl (fun hg => q_idx tbOk rfl (by repeat' (first | exact trivial | assumption | intro _ | apply And.intro | (refine not_i ?_; assumption) | (refine and_l ?_; assumption) | (refine and_i ?_ ?_) | decide | omega | (simp [vcs]; done) | (simp only [List.length_map]; omega))) (g10 hg).1 (map_getD (f := eApiCodeEntry) (g10 hg).2 (g10 hg).1)) ?_
          refine WR.run tbOk 2 (acc := []) rfl (by repeat' (first | exact trivial | assumption | intro _ | apply And.intro | (refine not_i ?_; assumption) | (refine and_l ?_; assumption) | (refine and_i ?_ ?_) | decide | omega | (simp [vcs]; done) | (simp only [List.length_map]; omega))) ?_
          refine WR.gq [] rfl rfl rfl rfl (fun hg => q_ev tbOk (.v (.int .i64 (((b.getD i.toNat default).Terms).length : Int))) rfl (by repeat' (first | exact trivial | assumption | intro _ | apply And.intro | (refine not_i ?_; assumption) | (refine and_l ?_; assumption) | (refine and_i ?_ ?_) | decide | omega | (simp [vcs]; done) | (simp only [List.length_map]; omega))) (by first | (simp only [List.length_map]; done) | (simp only [List.length_map]; rfl) | rfl)) ?_
          refine WR.run tbOk 2 (acc := []) rfl (by repeat' (first | exact trivial | assumption | intro _ | apply And.intro | (refine not_i ?_; assumption) | (refine and_l ?_; assumption) | (refine and_i ?_ ?_) | decide | omega | (simp [vcs]; done) | (simp only [List.length_map]; omega))) ?_
          refine WR.nil (by kernel_rfl) ?_
          refine WQ.thenNormal ?_
          refine WC.cond rfl (fun hc3 => ?_) (fun hc3 => ?_)
          · replace h := ite_t hc3 h
            refine WC.seq ?_
            refine WC.region ?_
            refine WL.run tbOk 1 (acc := []) rfl trivial ?_
            refine WL.nil ?_
            refine WQ.thenNormal ?_
            refine WC.ret ?_
            refine WQ.thenRet ?_
            refine WQ.blockRet ?_
            refine WQ.thenRet ?_
            cases h
            have he := he1 _ hf1
            subst he
            have h : some false = some _ := hk1
            refine WQ.thenRet ?_
            refine WQ.blockRet ?_
            refine WQ.thenRet ?_
            cases h
            exact WQ.rets tbOk hR [] (.inl rfl) rfl rfl (Le.refl _) (by exact trivial) rfl rfl rfl rfl
          · replace h := ite_f hc3 h
            refine WC.skip ?_
            refine WQ.thenNormal ?_
            refine WC.seq ?_
            refine WC.region ?_
            refine WL.run tbOk 1 (acc := []) rfl trivial ?_
            refine WL.nil ?_
            refine WQ.thenNormal ?_
            refine WC.block ?_
            obtain ⟨eQ2, hl2, hk2⟩ := bnd h
            clear h
            refine WC.loop (σ := Int) (τ := ((Bool) ⊕ (Unit))) (fun sS => ⟨[(6, .v (.int .i64 sS)), (5, .v (.int .i64 i)), (0, .v (.sl 5 (a.map eApiCodeEntry))), (1, .v (.sl 5 (b.map eApiCodeEntry)))], []⟩) (sameEntries_b2 a b i) [] (0 : Int) hl2 ⟨(by exact ⟨rfl, rfl, rfl, rfl, trivial⟩), (by exact trivial), rfl, rfl, rfl, rfl⟩ ?_
            intro k3 m hn2 he2 hx2
            obtain ⟨o2, hf2⟩ := some_of hx2
            have h := hf2
            unfold sameEntries_b2 at h
            show WC _ _ _ ⟨[(6, .v (.int .i64 k3)), (5, .v (.int .i64 i)), (0, .v (.sl 5 (a.map eApiCodeEntry))), (1, .v (.sl 5 (b.map eApiCodeEntry)))], []⟩ _ _
            refine WC.seq ?_
            refine WC.seq ?_
            refine WC.region ?_
            refine WL.run tbOk 3 (acc := []) rfl trivial ?_
            obtain ⟨g11, h⟩ := grd h
            obtain ⟨x20, hxx20, h⟩ := bnd h
            refine WL.q [] rfl rfl rfl (q_idx tbOk rfl (by exact trivial) g11 (map_get (f := eApiCodeEntry) hxx20)) ?_
            refine WL.run tbOk 2 (acc := []) rfl trivial ?_
            refine WL.q [] rfl rfl rfl (q_ev tbOk (.v (.int .i64 (x20.Terms.length : Int))) rfl (by exact trivial) (by first | (simp only [List.length_map]; done) | (simp only [List.length_map]; rfl) | rfl)) ?_
            refine WL.run tbOk 1 (acc := []) rfl trivial ?_
            refine WL.nil ?_
            refine WQ.thenNormal ?_
            refine WC.cond rfl (fun hc4 => ?_) (fun hc4 => ?_)
            · replace h := ite_t hc4 h
              refine WC.skip ?_
              refine WQ.thenNormal ?_
              refine WC.seq ?_
              refine WC.block ?_
              refine WC.seq ?_
              refine WC.order mixed ?_
              refine WR.run tbOk 2 (acc := []) rfl trivial ?_
              obtain ⟨g12, h⟩ := grd h
              obtain ⟨x21, hxx21, h⟩ := bnd h
              refine WR.q [] rfl rfl rfl (q_idx tbOk rfl (by exact trivial) g12 (map_get (f := eApiCodeEntry) hxx21)) ?_
              refine WR.run tbOk 3 (acc := []) rfl trivial ?_
              obtain ⟨g13, h⟩ := grd h
              obtain ⟨x22, hxx22, h⟩ := bnd h
              refine WR.q [] rfl rfl rfl (q_idx tbOk rfl (by exact trivial) g13 (map_get (f := eLStr) hxx22)) ?_
              refine WR.run tbOk 3 (acc := []) rfl trivial ?_
              obtain ⟨g14, h⟩ := grd h
              obtain ⟨x23, hxx23, h⟩ := bnd h
              refine WR.q [] rfl rfl rfl (q_idx tbOk rfl (by exact trivial) g14 (map_get (f := eApiCodeEntry) hxx23)) ?_
              refine WR.run tbOk 3 (acc := []) rfl trivial ?_
              obtain ⟨g15, h⟩ := grd h
              obtain ⟨x24, hxx24, h⟩ := bnd h
              refine WR.q [] rfl rfl rfl (q_idx tbOk rfl (by exact trivial) g15 (map_get (f := eLStr) hxx24)) ?_
              refine WR.run tbOk 1 (acc := []) rfl trivial ?_
              obtain ⟨v4, hvv4, h⟩ := bnd h
              refine WR.call0 fn32 rfl rfl rfl rfl (by exact trivial) rfl (sameStrings_con hw hvv4) ?_
              refine WR.run tbOk 1 (acc := []) rfl trivial ?_
              refine WR.nil (by kernel_rfl) ?_
              refine WQ.thenNormal ?_
              refine WC.cond rfl (fun hc5 => ?_) (fun hc5 => ?_)
              · replace h := ite_t hc5 h
                refine WC.seq ?_
                refine WC.region ?_
                refine WL.run tbOk 1 (acc := []) rfl trivial ?_
                refine WL.nil ?_
                refine WQ.thenNormal ?_
                refine WC.ret ?_
                refine WQ.blockRet ?_
                refine WQ.thenRet ?_
                cases h
                have he := he2 _ hf2
                subst he
                have h : (some (.inr (.inl false)) : Option ((Int) ⊕ ((Bool) ⊕ (Unit)))) = some _ := hk2
                refine WQ.thenRet ?_
                refine WQ.blockRet ?_
                refine WQ.blockRet ?_
                refine WQ.thenRet ?_
                cases h
                have he := he1 _ hf1
                subst he
                have h : some false = some _ := hk1
                refine WQ.thenRet ?_
                refine WQ.blockRet ?_
                refine WQ.thenRet ?_
                cases h
                exact WQ.rets tbOk hR [] (.inl rfl) rfl rfl (Le.refl _) (by exact trivial) rfl rfl rfl rfl
              · replace h := ite_f hc5 h
                refine WC.skip ?_
                refine WQ.blockNormal ?_
                refine WQ.thenNormal ?_
                refine WC.region ?_
                refine WL.run tbOk 3 (acc := []) rfl trivial ?_
                refine WL.nil ?_
                cases h
                exact WQ.next [] (IntKind.i64.wrap (k3 + (1 : Int))) ⟨(by exact ⟨rfl, rfl, rfl, rfl, trivial⟩), (by exact trivial), rfl, rfl, rfl, rfl⟩ (hn2 _ hf2)
            · replace h := ite_f hc4 h
              refine WC.exit ?_
              refine WQ.thenExit ?_
              cases h
              have he := he2 _ hf2
              subst he
              replace h := hk2
              try dsimp only at h
              refine WQ.thenExit ?_
              refine WQ.blockExit ?_
              refine WQ.blockNormal ?_
              exact WQ.cut [] () ⟨(by exact ⟨rfl, rfl, rfl, trivial⟩), (by exact trivial), rfl, rfl, rfl, rfl⟩ h
        · intro _ h
          replace h : sameEntries_j2 a b i = some _ := h
          unfold sameEntries_j2 at h
          show WC _ _ _ ⟨[(5, .v (.int .i64 i)), (0, .v (.sl 5 (a.map eApiCodeEntry))), (1, .v (.sl 5 (b.map eApiCodeEntry)))], []⟩ _ _
          refine WC.region ?_
          refine WL.run tbOk 3 (acc := []) rfl trivial ?_
          refine WL.nil ?_
          cases h
          exact WQ.next [] (IntKind.i64.wrap (i + (1 : Int))) ⟨(by exact ⟨rfl, rfl, rfl, trivial⟩), (by exact trivial), rfl, rfl, rfl, rfl⟩ (hn1 _ hf1)
      · replace h := ite_f hc2 h
        refine WC.exit ?_
        refine WQ.thenExit ?_
        cases h
        have he := he1 _ hf1
        subst he
        replace h := hk1
        try dsimp only at h
        refine WQ.thenExit ?_
        refine WQ.blockExit ?_
        exact WQ.cut [] () ⟨(by exact trivial), (by exact trivial), rfl, rfl, rfl, rfl⟩ h
    · intro _ h
      replace h : sameEntries_j1 = some _ := h
      unfold sameEntries_j1 at h
      show WC _ _ _ ⟨[], []⟩ _ _
      refine WC.seq ?_
      refine WC.region ?_
      refine WL.run tbOk 1 (acc := []) rfl trivial ?_
      refine WL.nil ?_
      refine WQ.thenNormal ?_
      refine WC.ret ?_
      cases h
      exact WQ.rets tbOk hR [] (.inl rfl) rfl rfl (Le.refl _) (by exact trivial) rfl rfl rfl rfl

theorem lawDays_con {wg : World} (hw : WG wg) {l : (List Int)} {day : Int} {code : Str} {n1 : Int} {raw : Bool} {r : Bool} (h : lawDays l day code n1 raw = some r) : Con Tryz.prog wg gl 8 [.v (.sl 1 (l.map eInt_i64)), .v (.int .i64 day), .v (.str code), .v (.int .i64 n1), .v (.bool raw)] [] (.v (.bool r)) [] := by
  unfold lawDays at h
  refine con_of_WC (S := slotsOf 0 _) Tryz.func8 rfl Tryz.ntmps8 rfl (fun t x hx => (slotsOf_get hx).2) ?_
  intro F L w ρ0 R hR
  show WC _ _ _ ⟨[(0, .v (.sl 1 (l.map eInt_i64))), (1, .v (.int .i64 day)), (2, .v (.str code)), (3, .v (.int .i64 n1)), (4, .v (.bool raw))], []⟩ _ _
  refine WC.seq ?_
  refine WC.region ?_
  refine WL.run tbOk 1 (acc := []) rfl trivial ?_
  refine WL.nil ?_
  refine WQ.thenNormal ?_
  refine WC.seq ?_
  refine WC.region ?_
  refine WL.run tbOk 1 (acc := []) rfl trivial ?_
  obtain ⟨v, hvv, h⟩ := bnd h
  refine WL.call0 fn18 rfl rfl rfl rfl (by exact trivial) rfl (madeNom_con hw hvv) ?_
  refine WL.run tbOk 2 (acc := []) rfl trivial ?_
  refine WL.nil ?_
  refine WQ.thenNormal ?_
  refine WC.seq ?_
  refine WC.seq ?_
  refine WC.region ?_
  refine WL.run tbOk 2 (acc := []) rfl trivial ?_
  refine WL.nil ?_
  refine WQ.thenNormal ?_
  refine WC.thenCut (X := Str × Int) (fun gG => ⟨[(2, .v (.str gG.1)), (1, .v (.int .i64 gG.2)), (11, .p 11 0)], [(11, .blk 31 [.v (.sl 5 (v.Entries.map eApiCodeEntry)), .v (.sl 3 (v.Notes.map eApiCodeNote))])]⟩) (fun gG => lawDays_j1 v gG.1 gG.2 = some r) ?_ ?_
  · refine WC.cond rfl (fun hc2 => ?_) (fun hc2 => ?_)
    · replace h := ite_t hc2 h
      refine WC.seq ?_
      refine WC.region ?_
      refine WL.run tbOk 1 (acc := []) rfl trivial ?_
      obtain ⟨v15, hvv15, h⟩ := bnd h
      refine WL.call0 fn11 rfl rfl rfl rfl (by exact trivial) rfl (within_con hw hvv15) ?_
      refine WL.run tbOk 1 (acc := []) rfl trivial ?_
      refine WL.nil ?_
      refine WQ.thenNormal ?_
      refine WC.order mixed ?_
      refine WR.run tbOk 5 (acc := []) rfl trivial ?_
      refine WR.q [] rfl rfl rfl (q_ev tbOk (.v (.int .i64 (v.Entries.length : Int))) rfl (by exact trivial) (by first | (simp only [List.length_map]; done) | (simp only [List.length_map]; rfl) | rfl)) ?_
      obtain ⟨v16, hvv16, h⟩ := bnd h
      refine WR.call0 fn11 rfl rfl rfl rfl (by exact trivial) rfl (within_con hw hvv16) ?_
      obtain ⟨g1, h⟩ := grd h
      obtain ⟨x, hxx, h⟩ := bnd h
      refine WR.q [] rfl rfl rfl (q_idx tbOk rfl (by exact trivial) g1 (map_get (f := eApiCodeEntry) hxx)) ?_
      refine WR.run tbOk 3 (acc := []) rfl trivial ?_
      refine WR.nil (by kernel_rfl) ?_
      exact WQ.cut [] (x.Code, v15) ⟨(by exact ⟨rfl, rfl, rfl, trivial⟩), (by exact ⟨rfl, trivial⟩), rfl, rfl, rfl, rfl⟩ h
    · replace h := ite_f hc2 h
      refine WC.skip ?_
      exact WQ.cut [] (code, day) ⟨(by exact ⟨rfl, rfl, rfl, trivial⟩), (by exact ⟨rfl, trivial⟩), rfl, rfl, rfl, rfl⟩ h
  · rintro ⟨code2, day2⟩ h
    replace h : lawDays_j1 v code2 day2 = some _ := h
    unfold lawDays_j1 at h
    show WC _ _ _ ⟨[(2, .v (.str code2)), (1, .v (.int .i64 day2)), (11, .p 11 0)], [(11, .blk 31 [.v (.sl 5 (v.Entries.map eApiCodeEntry)), .v (.sl 3 (v.Notes.map eApiCodeNote))])]⟩ _ _
    refine WC.seq ?_
    refine WC.region ?_
    refine WL.run tbOk 3 (acc := []) rfl trivial ?_
    obtain ⟨v2, hvv2, h⟩ := bnd h
    refine WL.call0 fn34 rfl rfl rfl rfl (by exact trivial) rfl (nomFind_con hw hvv2) ?_
    refine WL.run tbOk 6 (acc := []) rfl trivial ?_
    refine WL.nil ?_
    refine WQ.thenNormal ?_
    refine WC.seq ?_
    refine WC.region ?_
    refine WL.run tbOk 3 (acc := []) rfl trivial ?_
    obtain ⟨v3, hvv3, h⟩ := bnd h
    refine WL.call0 fn35 rfl rfl rfl rfl (by exact trivial) rfl (refFind_con hw hvv3) ?_
    refine WL.run tbOk 6 (acc := []) rfl trivial ?_
    refine WL.nil ?_
    refine WQ.thenNormal ?_
    refine WC.seq ?_
    refine WC.seq ?_
    refine WC.order mixed ?_
    refine WR.run tbOk 5 (acc := []) rfl (by repeat' (first | exact trivial | assumption | intro _ | apply And.intro | (refine not_i ?_; assumption) | (refine and_l ?_; assumption) | (refine and_i ?_ ?_) | decide | omega | (simp [vcs]; done) | (simp only [List.length_map]; omega))) ?_
    refine WR.gmake tbOk (x := .v (.sl 5 ([v2.1].map eApiCodeEntry))) rfl rfl rfl rfl rfl (fun _ => (by repeat' (first | exact trivial | assumption | intro _ | apply And.intro | (refine not_i ?_; assumption) | (refine and_l ?_; assumption) | (refine and_i ?_ ?_) | decide | omega | (simp [vcs]; done) | (simp only [List.length_map]; omega)))) ?_
    refine WR.run tbOk 1 (acc := []) rfl (by repeat' (first | exact trivial | assumption | intro _ | apply And.intro | (refine not_i ?_; assumption) | (refine and_l ?_; assumption) | (refine and_i ?_ ?_) | decide | omega | (simp [vcs]; done) | (simp only [List.length_map]; omega))) ?_
    refine WR.gmake tbOk (x := .v (.sl 5 ([v3.1].map eApiCodeEntry))) rfl rfl rfl rfl rfl (fun _ => (by repeat' (first | exact trivial | assumption | intro _ | apply And.intro | (refine not_i ?_; assumption) | (refine and_l ?_; assumption) | (refine and_i ?_ ?_) | decide | omega | (simp [vcs]; done) | (simp only [List.length_map]; omega)))) ?_
    obtain ⟨v4, hvv4, h⟩ := bnd h
    refine WR.gcall0 fn36 rfl rfl rfl rfl rfl (fun _ => (by repeat' (first | exact trivial | assumption | intro _ | apply And.intro | (refine not_i ?_; assumption) | (refine and_l ?_; assumption) | (refine and_i ?_ ?_) | decide | omega | (simp [vcs]; done) | (simp only [List.length_map]; omega)))) rfl (fun hg => (sameEntries_con hw (ite_t hg hvv4))) ?_
    refine WR.run tbOk 5 (acc := []) rfl (by repeat' (first | exact trivial | assumption | intro _ | apply And.intro | (refine not_i ?_; assumption) | (refine and_l ?_; assumption) | (refine and_i ?_ ?_) | decide | omega | (simp [vcs]; done) | (simp only [List.length_map]; omega))) ?_
    obtain ⟨v5, hvv5, h⟩ := bnd h
    refine WR.gcall0 fn37 rfl rfl rfl rfl rfl (fun _ => (by repeat' (first | exact trivial | assumption | intro _ | apply And.intro | (refine not_i ?_; assumption) | (refine and_l ?_; assumption) | (refine and_i ?_ ?_) | decide | omega | (simp [vcs]; done) | (simp only [List.length_map]; omega)))) rfl (fun hg => (nomAt_con hw (ite_t hg hvv5))) ?_
    refine WR.run tbOk 2 (acc := []) rfl (by repeat' (first | exact trivial | assumption | intro _ | apply And.intro | (refine not_i ?_; assumption) | (refine and_l ?_; assumption) | (refine and_i ?_ ?_) | decide | omega | (simp [vcs]; done) | (simp only [List.length_map]; omega))) ?_
    obtain ⟨v6, hvv6, h⟩ := bnd h
    refine WR.gcall0 fn38 rfl rfl rfl rfl rfl (fun _ => (by repeat' (first | exact trivial | assumption | intro _ | apply And.intro | (refine not_i ?_; assumption) | (refine and_l ?_; assumption) | (refine and_i ?_ ?_) | decide | omega | (simp [vcs]; done) | (simp only [List.length_map]; omega)))) rfl (fun hg => (refAt_con hw (ite_t hg hvv6))) ?_
    obtain ⟨v7, hvv7, h⟩ := bnd h
    refine WR.gcall0 fn36 rfl rfl rfl rfl rfl (fun _ => (by repeat' (first | exact trivial | assumption | intro _ | apply And.intro | (refine not_i ?_; assumption) | (refine and_l ?_; assumption) | (refine and_i ?_ ?_) | decide | omega | (simp [vcs]; done) | (simp only [List.length_map]; omega)))) rfl (fun hg => (sameEntries_con hw (ite_t hg hvv7))) ?_
    refine WR.run tbOk 2 (acc := []) rfl (by repeat' (first | exact trivial | assumption | intro _ | apply And.intro | (refine not_i ?_; assumption) | (refine and_l ?_; assumption) | (refine and_i ?_ ?_) | decide | omega | (simp [vcs]; done) | (simp only [List.length_map]; omega))) ?_
    refine WR.nil (by kernel_rfl) ?_
    refine WQ.thenNormal ?_
    refine WC.cond rfl (fun hc1 => ?_) (fun hc1 => ?_)
    · replace h := ite_t hc1 h
      refine WC.seq ?_
      refine WC.region ?_
      refine WL.run tbOk 1 (acc := []) rfl trivial ?_
      refine WL.nil ?_
      refine WQ.thenNormal ?_
      refine WC.ret ?_
      refine WQ.thenRet ?_
      cases h
      exact WQ.rets tbOk hR [] (.inl rfl) rfl rfl (Le.refl _) (by exact trivial) rfl rfl rfl rfl
    · replace h := ite_f hc1 h
      refine WC.skip ?_
      refine WQ.thenNormal ?_
      refine WC.seq ?_
      refine WC.order mixed ?_
      refine WR.run tbOk 3 (acc := []) rfl trivial ?_
      obtain ⟨v8, hvv8, h⟩ := bnd h
      refine WR.call0 fn39 rfl rfl rfl rfl (by exact trivial) rfl (nomBelow_con hw hvv8) ?_
      refine WR.run tbOk 3 (acc := []) rfl trivial ?_
      obtain ⟨v9, hvv9, h⟩ := bnd h
      refine WR.call0 fn40 rfl rfl rfl rfl (by exact trivial) rfl (refBelow_con hw hvv9) ?_
      obtain ⟨v10, hvv10, h⟩ := bnd h
      refine WR.call0 fn36 rfl rfl rfl rfl (by exact trivial) rfl (sameEntries_con hw hvv10) ?_
      refine WR.run tbOk 3 (acc := []) rfl (by repeat' (first | exact trivial | assumption | intro _ | apply And.intro | (refine not_i ?_; assumption) | (refine and_l ?_; assumption) | (refine and_i ?_ ?_) | decide | omega | (simp [vcs]; done) | (simp only [List.length_map]; omega))) ?_
      obtain ⟨v11, hvv11, h⟩ := bnd h
      refine WR.gcall0 fn39 rfl rfl rfl rfl rfl (fun _ => (by repeat' (first | exact trivial | assumption | intro _ | apply And.intro | (refine not_i ?_; assumption) | (refine and_l ?_; assumption) | (refine and_i ?_ ?_) | decide | omega | (simp [vcs]; done) | (simp only [List.length_map]; omega)))) rfl (fun hg => (nomBelow_con hw (ite_t hg hvv11))) ?_
      refine WR.run tbOk 2 (acc := []) rfl (by repeat' (first | exact trivial | assumption | intro _ | apply And.intro | (refine not_i ?_; assumption) | (refine and_l ?_; assumption) | (refine and_i ?_ ?_) | decide | omega | (simp [vcs]; done) | (simp only [List.length_map]; omega))) ?_
      obtain ⟨v12, hvv12, h⟩ := bnd h
      refine WR.gcall0 fn40 rfl rfl rfl rfl rfl (fun _ => (by repeat' (first | exact trivial | assumption | intro _ | apply And.intro | (refine not_i ?_; assumption) | (refine and_l ?_; assumption) | (refine and_i ?_ ?_) | decide | omega | (simp [vcs]; done) | (simp only [List.length_map]; omega)))) rfl (fun hg => (refBelow_con hw (ite_t hg hvv12))) ?_
      obtain ⟨v13, hvv13, h⟩ := bnd h
      refine WR.gcall0 fn36 rfl rfl rfl rfl rfl (fun _ => (by repeat' (first | exact trivial | assumption | intro _ | apply And.intro | (refine not_i ?_; assumption) | (refine and_l ?_; assumption) | (refine and_i ?_ ?_) | decide | omega | (simp [vcs]; done) | (simp only [List.length_map]; omega)))) rfl (fun hg => (sameEntries_con hw (ite_t hg hvv13))) ?_
      refine WR.run tbOk 2 (acc := []) rfl (by repeat' (first | exact trivial | assumption | intro _ | apply And.intro | (refine not_i ?_; assumption) | (refine and_l ?_; assumption) | (refine and_i ?_ ?_) | decide | omega | (simp [vcs]; done) | (simp only [List.length_map]; omega))) ?_
      obtain ⟨v14, hvv14, h⟩ := bnd h
      refine WR.gcall0 fn14 rfl rfl rfl rfl rfl (fun _ => (by repeat' (first | exact trivial | assumption | intro _ | apply And.intro | (refine not_i ?_; assumption) | (refine and_l ?_; assumption) | (refine and_i ?_ ?_) | decide | omega | (simp [vcs]; done) | (simp only [List.length_map]; omega)))) rfl (fun hg => (awake09_con hw (ite_t hg hvv14))) ?_
      refine WR.run tbOk 2 (acc := []) rfl (by repeat' (first | exact trivial | assumption | intro _ | apply And.intro | (refine not_i ?_; assumption) | (refine and_l ?_; assumption) | (refine and_i ?_ ?_) | decide | omega | (simp [vcs]; done) | (simp only [List.length_map]; omega))) ?_
      refine WR.nil (by kernel_rfl) ?_
      refine WQ.thenNormal ?_
      refine WC.ret ?_
      cases h
      exact WQ.rets tbOk hR [] (.inl rfl) rfl rfl (Le.refl _) (by exact trivial) rfl rfl rfl rfl

theorem lawTree_con {wg : World} (hw : WG wg) {l : (List Int)} {day : Int} {r : Bool} (h : lawTree l day = some r) : Con Tryz.prog wg gl 9 [.v (.sl 1 (l.map eInt_i64)), .v (.int .i64 day)] [] (.v (.bool r)) [] := by
  unfold lawTree at h
  refine con_of_WC (S := slotsOf 0 _) Tryz.func9 rfl Tryz.ntmps9 rfl (fun t x hx => (slotsOf_get hx).2) ?_
  intro F L w ρ0 R hR
  show WC _ _ _ ⟨[(0, .v (.sl 1 (l.map eInt_i64))), (1, .v (.int .i64 day))], []⟩ _ _
  refine WC.seq ?_
  refine WC.region ?_
  refine WL.run tbOk 1 (acc := []) rfl trivial ?_
  refine WL.nil ?_
  refine WQ.thenNormal ?_
  refine WC.seq ?_
  refine WC.region ?_
  refine WL.run tbOk 1 (acc := []) rfl trivial ?_
  obtain ⟨v, hvv, h⟩ := bnd h
  refine WL.call0 fn18 rfl rfl rfl rfl (by exact trivial) rfl (madeNom_con hw hvv) ?_
  refine WL.run tbOk 2 (acc := []) rfl trivial ?_
  refine WL.nil ?_
  refine WQ.thenNormal ?_
  refine WC.seq ?_
  refine WC.region ?_
  refine WL.run tbOk 1 (acc := []) rfl trivial ?_
  obtain ⟨v2, hvv2, h⟩ := bnd h
  refine WL.call0 fn11 rfl rfl rfl rfl (by exact trivial) rfl (within_con hw hvv2) ?_
  refine WL.run tbOk 1 (acc := []) rfl trivial ?_
  refine WL.nil ?_
  refine WQ.thenNormal ?_
  refine WC.seq ?_
  refine WC.region ?_
  refine WL.run tbOk 2 (acc := []) rfl trivial ?_
  obtain ⟨v3, hvv3, h⟩ := bnd h
  refine WL.call0 fn37 rfl rfl rfl rfl (by exact trivial) rfl (nomAt_con hw hvv3) ?_
  refine WL.run tbOk 1 (acc := []) rfl trivial ?_
  refine WL.nil ?_
  refine WQ.thenNormal ?_
  refine WC.seq ?_
  refine WC.seq ?_
  refine WC.region ?_
  refine WL.run tbOk 1 (acc := []) rfl trivial ?_
  refine WL.nil ?_
  refine WQ.thenNormal ?_
  refine WC.thenCut (X := Unit) (fun gG => ⟨[], []⟩) (fun gG => lawTree_j1  = some r) ?_ ?_
  · refine WC.block ?_
    obtain ⟨eQ1, hl1, hk1⟩ := bnd h
    clear h
    refine WC.loop (σ := Int) (τ := ((Bool) ⊕ (Unit))) (fun sS => ⟨[(7, .v (.int .i64 sS)), (6, .v (.sl 5 (v3.map eApiCodeEntry))), (1, .v (.int .i64 v2)), (5, .p 5 0)], [(5, .blk 31 [.v (.sl 5 (v.Entries.map eApiCodeEntry)), .v (.sl 3 (v.Notes.map eApiCodeNote))])]⟩) (lawTree_b1 v v2 v3) [] (0 : Int) hl1 ⟨(by exact ⟨rfl, rfl, rfl, rfl, trivial⟩), (by exact ⟨rfl, trivial⟩), rfl, rfl, rfl, rfl⟩ ?_
    intro i m hn1 he1 hx1
    obtain ⟨o1, hf1⟩ := some_of hx1
    have h := hf1
    unfold lawTree_b1 at h
    show WC _ _ _ ⟨[(7, .v (.int .i64 i)), (6, .v (.sl 5 (v3.map eApiCodeEntry))), (1, .v (.int .i64 v2)), (5, .p 5 0)], [(5, .blk 31 [.v (.sl 5 (v.Entries.map eApiCodeEntry)), .v (.sl 3 (v.Notes.map eApiCodeNote))])]⟩ _ _
    refine WC.seq ?_
    refine WC.seq ?_
    refine WC.region ?_
    refine WL.run tbOk 2 (acc := []) rfl trivial ?_
    refine WL.q [] rfl rfl rfl (q_ev tbOk (.v (.int .i64 (v3.length : Int))) rfl (by exact trivial) (by first | (simp only [List.length_map]; done) | (simp only [List.length_map]; rfl) | rfl)) ?_
    refine WL.run tbOk 1 (acc := []) rfl trivial ?_
    refine WL.nil ?_
    refine WQ.thenNormal ?_
    refine WC.cond rfl (fun hc1 => ?_) (fun hc1 => ?_)
    · replace h := ite_t hc1 h
      refine WC.skip ?_
      refine WQ.thenNormal ?_
      refine WC.seq ?_
      refine WC.thenCut (X := Unit) (fun gG => ⟨[(7, .v (.int .i64 i)), (6, .v (.sl 5 (v3.map eApiCodeEntry))), (1, .v (.int .i64 v2)), (5, .p 5 0)], [(5, .blk 31 [.v (.sl 5 (v.Entries.map eApiCodeEntry)), .v (.sl 3 (v.Notes.map eApiCodeNote))])]⟩) (fun gG => lawTree_j2 v v2 v3 i = some o1) ?_ ?_
      · refine WC.block ?_
        refine WC.seq ?_
        refine WC.region ?_
        refine WL.run tbOk 2 (acc := []) rfl trivial ?_
        obtain ⟨g1, h⟩ := grd h
        obtain ⟨x4, hxx4, h⟩ := bnd h
        refine WL.q [] rfl rfl rfl (q_idx tbOk rfl (by exact trivial) g1 (map_get (f := eApiCodeEntry) hxx4)) ?_
        refine WL.run tbOk 3 (acc := []) rfl trivial ?_
        refine WL.nil ?_
        refine WQ.thenNormal ?_
        refine WC.seq ?_
        refine WC.seq ?_
        refine WC.region ?_
        refine WL.run tbOk 3 (acc := []) rfl trivial ?_
        refine WL.nil ?_
        refine WQ.thenNormal ?_
        refine WC.cond rfl (fun hc2 => ?_) (fun hc2 => ?_)
        · replace h := ite_t hc2 h
          refine WC.exit ?_
          refine WQ.thenExit ?_
          refine WQ.blockExit ?_
          exact WQ.cut [] () ⟨(by exact ⟨rfl, rfl, rfl, rfl, trivial⟩), (by exact ⟨rfl, trivial⟩), rfl, rfl, rfl, rfl⟩ h
        · replace h := ite_f hc2 h
          refine WC.skip ?_
          refine WQ.thenNormal ?_
          refine WC.seq ?_
          refine WC.seq ?_
          refine WC.region ?_
          refine WL.run tbOk 8 (acc := []) rfl (by repeat' (first | exact trivial | assumption | intro _ | apply And.intro | (refine not_i ?_; assumption) | (refine and_l ?_; assumption) | (refine and_i ?_ ?_) | decide | omega | (simp [vcs]; done) | (simp only [List.length_map]; omega))) ?_
          refine WL.nil ?_
          refine WQ.thenNormal ?_
          refine WC.cond rfl (fun hc3 => ?_) (fun hc3 => ?_)
          · replace h := ite_t hc3 h
            refine WC.seq ?_
            refine WC.region ?_
            refine WL.run tbOk 1 (acc := []) rfl trivial ?_
            refine WL.nil ?_
            refine WQ.thenNormal ?_
            refine WC.ret ?_
            refine WQ.thenRet ?_
            refine WQ.blockRet ?_
            refine WQ.thenRet ?_
            cases h
            have he := he1 _ hf1
            subst he
            have h : some false = some _ := hk1
            refine WQ.thenRet ?_
            refine WQ.blockRet ?_
            refine WQ.thenRet ?_
            cases h
            exact WQ.rets tbOk hR [] (.inl rfl) rfl rfl (Le.refl _) (by exact trivial) rfl rfl rfl rfl
          · replace h := ite_f hc3 h
            refine WC.skip ?_
            refine WQ.thenNormal ?_
            refine WC.seq ?_
            refine WC.seq ?_
            refine WC.order mixed ?_
            obtain ⟨g2, h⟩ := grd h
            refine WR.run tbOk 7 (acc := []) rfl (by repeat' (first | exact trivial | assumption | intro _ | exact g2 (by assumption) | apply And.intro | (refine not_i ?_; assumption) | (refine and_l ?_; assumption) | (refine and_i ?_ ?_) | decide | omega | (simp [vcs]; done) | (simp only [List.length_map]; omega))) ?_
            obtain ⟨v7, hvv7, h⟩ := bnd h
            refine WR.call0 fn34 rfl rfl rfl rfl (by exact trivial) rfl (nomFind_con hw hvv7) ?_
            refine WR.run tbOk 6 (acc := []) rfl trivial ?_
            refine WR.nil (by kernel_rfl) ?_
            refine WQ.thenNormal ?_
            refine WC.seq ?_
            refine WC.region ?_
            refine WL.run tbOk 2 (acc := []) rfl trivial ?_
            refine WL.nil ?_
            refine WQ.thenNormal ?_
            refine WC.cond rfl (fun hc4 => ?_) (fun hc4 => ?_)
            · replace h := ite_t hc4 h
              refine WC.seq ?_
              refine WC.region ?_
              refine WL.run tbOk 1 (acc := []) rfl trivial ?_
              refine WL.nil ?_
              refine WQ.thenNormal ?_
              refine WC.ret ?_
              refine WQ.thenRet ?_
              refine WQ.blockRet ?_
              refine WQ.thenRet ?_
              cases h
              have he := he1 _ hf1
              subst he
              have h : some false = some _ := hk1
              refine WQ.thenRet ?_
              refine WQ.blockRet ?_
              refine WQ.thenRet ?_
              cases h
              exact WQ.rets tbOk hR [] (.inl rfl) rfl rfl (Le.refl _) (by exact trivial) rfl rfl rfl rfl
            · replace h := ite_f hc4 h
              refine WC.skip ?_
              refine WQ.thenNormal ?_
              refine WC.seq ?_
              refine WC.region ?_
              refine WL.run tbOk 1 (acc := []) rfl trivial ?_
              refine WL.nil ?_
              refine WQ.thenNormal ?_
              refine WC.seq ?_
              refine WC.order mixed ?_
              obtain ⟨g3, h⟩ := grd h
              refine WR.run tbOk 7 (acc := []) rfl (by repeat' (first | exact trivial | assumption | intro _ | exact g3 (by assumption) | apply And.intro | (refine not_i ?_; assumption) | (refine and_l ?_; assumption) | (refine and_i ?_ ?_) | decide | omega | (simp [vcs]; done) | (simp only [List.length_map]; omega))) ?_
              obtain ⟨v8, hvv8, h⟩ := bnd h
              refine WR.call0 fn39 rfl rfl rfl rfl (by exact trivial) rfl (nomBelow_con hw hvv8) ?_
              refine WR.run tbOk 1 (acc := []) rfl trivial ?_
              refine WR.nil (by kernel_rfl) ?_
              refine WQ.thenNormal ?_
              refine WC.seq ?_
              refine WC.seq ?_
              refine WC.region ?_
              refine WL.run tbOk 1 (acc := []) rfl trivial ?_
              refine WL.nil ?_
              refine WQ.thenNormal ?_
              refine WC.thenCut (X := Int) (fun gG => ⟨[(11, .v (.int .i64 gG)), (7, .v (.int .i64 i)), (6, .v (.sl 5 (v3.map eApiCodeEntry))), (1, .v (.int .i64 v2)), (5, .p 5 0)], [(5, .blk 31 [.v (.sl 5 (v.Entries.map eApiCodeEntry)), .v (.sl 3 (v.Notes.map eApiCodeNote))])]⟩) (fun gG => lawTree_j3 v v2 v3 i gG = some o1) ?_ ?_
              · refine WC.block ?_
                obtain ⟨eQ2, hl2, hk2⟩ := bnd h
                clear h
                refine WC.loop (σ := Int × Int) (τ := (Int)) (fun sS => ⟨[(13, .v (.int .i64 sS.1)), (12, .v (.sl 5 (v8.map eApiCodeEntry))), (11, .v (.int .i64 sS.2)), (8, .v (.str x4.Code)), (7, .v (.int .i64 i)), (6, .v (.sl 5 (v3.map eApiCodeEntry))), (1, .v (.int .i64 v2)), (5, .p 5 0)], [(5, .blk 31 [.v (.sl 5 (v.Entries.map eApiCodeEntry)), .v (.sl 3 (v.Notes.map eApiCodeNote))])]⟩) (lawTree_b2 v v2 v3 i x4 v8) [] ((0 : Int), (0 : Int)) hl2 ⟨(by exact ⟨rfl, rfl, rfl, rfl, rfl, rfl, rfl, rfl, trivial⟩), (by exact ⟨rfl, trivial⟩), rfl, rfl, rfl, rfl⟩ ?_
                rintro ⟨k3, n18⟩ m hn2 he2 hx2
                obtain ⟨o2, hf2⟩ := some_of hx2
                have h := hf2
                unfold lawTree_b2 at h
                show WC _ _ _ ⟨[(13, .v (.int .i64 k3)), (12, .v (.sl 5 (v8.map eApiCodeEntry))), (11, .v (.int .i64 n18)), (8, .v (.str x4.Code)), (7, .v (.int .i64 i)), (6, .v (.sl 5 (v3.map eApiCodeEntry))), (1, .v (.int .i64 v2)), (5, .p 5 0)], [(5, .blk 31 [.v (.sl 5 (v.Entries.map eApiCodeEntry)), .v (.sl 3 (v.Notes.map eApiCodeNote))])]⟩ _ _
                refine WC.seq ?_
                refine WC.seq ?_
                refine WC.region ?_
                refine WL.run tbOk 2 (acc := []) rfl trivial ?_
                refine WL.q [] rfl rfl rfl (q_ev tbOk (.v (.int .i64 (v8.length : Int))) rfl (by exact trivial) (by first | (simp only [List.length_map]; done) | (simp only [List.length_map]; rfl) | rfl)) ?_
                refine WL.run tbOk 1 (acc := []) rfl trivial ?_
                refine WL.nil ?_
                refine WQ.thenNormal ?_
                refine WC.cond rfl (fun hc6 => ?_) (fun hc6 => ?_)
                · replace h := ite_t hc6 h
                  refine WC.skip ?_
                  refine WQ.thenNormal ?_
                  refine WC.seq ?_
                  refine WC.thenCut (X := Int) (fun gG => ⟨[(11, .v (.int .i64 gG)), (13, .v (.int .i64 k3)), (12, .v (.sl 5 (v8.map eApiCodeEntry))), (8, .v (.str x4.Code)), (7, .v (.int .i64 i)), (6, .v (.sl 5 (v3.map eApiCodeEntry))), (1, .v (.int .i64 v2)), (5, .p 5 0)], [(5, .blk 31 [.v (.sl 5 (v.Entries.map eApiCodeEntry)), .v (.sl 3 (v.Notes.map eApiCodeNote))])]⟩) (fun gG => lawTree_j4 v v2 v3 i x4 v8 k3 gG = some o2) ?_ ?_
                  · refine WC.block ?_
                    refine WC.seq ?_
                    refine WC.region ?_
                    refine WL.run tbOk 2 (acc := []) rfl trivial ?_
                    obtain ⟨g4, h⟩ := grd h
                    obtain ⟨x6, hxx6, h⟩ := bnd h
                    refine WL.q [] rfl rfl rfl (q_idx tbOk rfl (by exact trivial) g4 (map_get (f := eApiCodeEntry) hxx6)) ?_
                    refine WL.run tbOk 4 (acc := []) rfl trivial ?_
                    refine WL.nil ?_
                    refine WQ.thenNormal ?_
                    refine WC.cond rfl (fun hc7 => ?_) (fun hc7 => ?_)
                    · replace h := ite_t hc7 h
                      refine WC.region ?_
                      refine WL.run tbOk 3 (acc := []) rfl trivial ?_
                      refine WL.nil ?_
                      refine WQ.blockNormal ?_
                      exact WQ.cut [] (IntKind.i64.wrap (n18 + (1 : Int))) ⟨(by exact ⟨rfl, rfl, rfl, rfl, rfl, rfl, rfl, rfl, trivial⟩), (by exact ⟨rfl, trivial⟩), rfl, rfl, rfl, rfl⟩ h
                    · replace h := ite_f hc7 h
                      refine WC.skip ?_
                      refine WQ.blockNormal ?_
                      exact WQ.cut [] n18 ⟨(by exact ⟨rfl, rfl, rfl, rfl, rfl, rfl, rfl, rfl, trivial⟩), (by exact ⟨rfl, trivial⟩), rfl, rfl, rfl, rfl⟩ h
                  · intro n112 h
                    replace h : lawTree_j4 v v2 v3 i x4 v8 k3 n112 = some _ := h
                    unfold lawTree_j4 at h
                    show WC _ _ _ ⟨[(11, .v (.int .i64 n112)), (13, .v (.int .i64 k3)), (12, .v (.sl 5 (v8.map eApiCodeEntry))), (8, .v (.str x4.Code)), (7, .v (.int .i64 i)), (6, .v (.sl 5 (v3.map eApiCodeEntry))), (1, .v (.int .i64 v2)), (5, .p 5 0)], [(5, .blk 31 [.v (.sl 5 (v.Entries.map eApiCodeEntry)), .v (.sl 3 (v.Notes.map eApiCodeNote))])]⟩ _ _
                    refine WC.region ?_
                    refine WL.run tbOk 3 (acc := []) rfl trivial ?_
                    refine WL.nil ?_
                    cases h
                    exact WQ.next [] ((IntKind.i64.wrap (k3 + (1 : Int))), n112) ⟨(by exact ⟨rfl, rfl, rfl, rfl, rfl, rfl, rfl, rfl, trivial⟩), (by exact ⟨rfl, trivial⟩), rfl, rfl, rfl, rfl⟩ (hn2 _ hf2)
                · replace h := ite_f hc6 h
                  refine WC.exit ?_
                  refine WQ.thenExit ?_
                  cases h
                  have he := he2 _ hf2
                  subst he
                  replace h := hk2
                  try dsimp only at h
                  refine WQ.thenExit ?_
                  refine WQ.blockExit ?_
                  exact WQ.cut [] n18 ⟨(by exact ⟨rfl, rfl, rfl, rfl, rfl, trivial⟩), (by exact ⟨rfl, trivial⟩), rfl, rfl, rfl, rfl⟩ h
              · intro n17 h
                replace h : lawTree_j3 v v2 v3 i n17 = some _ := h
                unfold lawTree_j3 at h
                show WC _ _ _ ⟨[(11, .v (.int .i64 n17)), (7, .v (.int .i64 i)), (6, .v (.sl 5 (v3.map eApiCodeEntry))), (1, .v (.int .i64 v2)), (5, .p 5 0)], [(5, .blk 31 [.v (.sl 5 (v.Entries.map eApiCodeEntry)), .v (.sl 3 (v.Notes.map eApiCodeNote))])]⟩ _ _
                refine WC.seq ?_
                refine WC.region ?_
                refine WL.run tbOk 2 (acc := []) rfl trivial ?_
                refine WL.nil ?_
                refine WQ.thenNormal ?_
                refine WC.cond rfl (fun hc5 => ?_) (fun hc5 => ?_)
                · replace h := ite_t hc5 h
                  refine WC.seq ?_
                  refine WC.region ?_
                  refine WL.run tbOk 1 (acc := []) rfl trivial ?_
                  refine WL.nil ?_
                  refine WQ.thenNormal ?_
                  refine WC.ret ?_
                  refine WQ.blockRet ?_
                  refine WQ.thenRet ?_
                  cases h
                  have he := he1 _ hf1
                  subst he
                  have h : some false = some _ := hk1
                  refine WQ.thenRet ?_
                  refine WQ.blockRet ?_
                  refine WQ.thenRet ?_
                  cases h
                  exact WQ.rets tbOk hR [] (.inl rfl) rfl rfl (Le.refl _) (by exact trivial) rfl rfl rfl rfl
                · replace h := ite_f hc5 h
                  refine WC.skip ?_
                  refine WQ.blockNormal ?_
                  exact WQ.cut [] () ⟨(by exact ⟨rfl, rfl, rfl, rfl, trivial⟩), (by exact ⟨rfl, trivial⟩), rfl, rfl, rfl, rfl⟩ h
      · intro _ h
        replace h : lawTree_j2 v v2 v3 i = some _ := h
        unfold lawTree_j2 at h
        show WC _ _ _ ⟨[(7, .v (.int .i64 i)), (6, .v (.sl 5 (v3.map eApiCodeEntry))), (1, .v (.int .i64 v2)), (5, .p 5 0)], [(5, .blk 31 [.v (.sl 5 (v.Entries.map eApiCodeEntry)), .v (.sl 3 (v.Notes.map eApiCodeNote))])]⟩ _ _
        refine WC.region ?_
        refine WL.run tbOk 3 (acc := []) rfl trivial ?_
        refine WL.nil ?_
        cases h
        exact WQ.next [] (IntKind.i64.wrap (i + (1 : Int))) ⟨(by exact ⟨rfl, rfl, rfl, rfl, trivial⟩), (by exact ⟨rfl, trivial⟩), rfl, rfl, rfl, rfl⟩ (hn1 _ hf1)
    · replace h := ite_f hc1 h
      refine WC.exit ?_
      refine WQ.thenExit ?_
      cases h
      have he := he1 _ hf1
      subst he
      replace h := hk1
      try dsimp only at h
      refine WQ.thenExit ?_
      refine WQ.blockExit ?_
      exact WQ.cut [] () ⟨(by exact trivial), (by exact trivial), rfl, rfl, rfl, rfl⟩ h
  · intro _ h
    replace h : lawTree_j1 = some _ := h
    unfold lawTree_j1 at h
    show WC _ _ _ ⟨[], []⟩ _ _
    refine WC.seq ?_
    refine WC.region ?_
    obtain ⟨v4, hvv4, h⟩ := bnd h
    refine WL.call0 fn14 rfl rfl rfl rfl (by exact trivial) rfl (awake09_con hw hvv4) ?_
    refine WL.run tbOk 1 (acc := []) rfl trivial ?_
    refine WL.nil ?_
    refine WQ.thenNormal ?_
    refine WC.ret ?_
    cases h
    exact WQ.rets tbOk hR [] (.inl rfl) rfl rfl (Le.refl _) (by exact trivial) rfl rfl rfl rfl

theorem lawScore_con {wg : World} (hw : WG wg) {l : (List Int)} {m1 : (List Int)} {at_ : Int} {more : Bool} {r : Bool} (h : lawScore l m1 at_ more = some r) : Con Tryz.prog wg gl 7 [.v (.sl 1 (l.map eInt_i64)), .v (.sl 1 (m1.map eInt_i64)), .v (.int .i64 at_), .v (.bool more)] [] (.v (.bool r)) [] := by
  unfold lawScore at h
  refine con_of_WC (S := slotsOf 0 _) Tryz.func7 rfl Tryz.ntmps7 rfl (fun t x hx => (slotsOf_get hx).2) ?_
  intro F L w ρ0 R hR
  show WC _ _ _ ⟨[(0, .v (.sl 1 (l.map eInt_i64))), (1, .v (.sl 1 (m1.map eInt_i64))), (2, .v (.int .i64 at_)), (3, .v (.bool more))], []⟩ _ _
  refine WC.seq ?_
  refine WC.region ?_
  refine WL.run tbOk 1 (acc := []) rfl trivial ?_
  refine WL.nil ?_
  refine WQ.thenNormal ?_
  refine WC.seq ?_
  refine WC.region ?_
  refine WL.run tbOk 1 (acc := []) rfl trivial ?_
  obtain ⟨v, hvv, h⟩ := bnd h
  refine WL.call0 fn18 rfl rfl rfl rfl (by exact trivial) rfl (madeNom_con hw hvv) ?_
  refine WL.run tbOk 1 (acc := []) rfl trivial ?_
  obtain ⟨v2, hvv2, h⟩ := bnd h
  refine WL.call0 fn25 rfl rfl rfl rfl (by exact trivial) rfl (madeGood_con hw hvv2) ?_
  refine WL.run tbOk 4 (acc := []) rfl trivial ?_
  refine WL.nil ?_
  refine WQ.thenNormal ?_
  refine WC.seq ?_
  refine WC.order mixed ?_
  refine WR.run tbOk 5 (acc := []) rfl trivial ?_
  refine WR.q [] rfl rfl rfl (q_ev tbOk (.v (.int .i64 (v.Entries.length : Int))) rfl (by exact trivial) (by first | (simp only [List.length_map]; done) | (simp only [List.length_map]; rfl) | rfl)) ?_
  obtain ⟨v3, hvv3, h⟩ := bnd h
  refine WR.call0 fn11 rfl rfl rfl rfl (by exact trivial) rfl (within_con hw hvv3) ?_
  obtain ⟨g1, h⟩ := grd h
  obtain ⟨x, hxx, h⟩ := bnd h
  refine WR.q [] rfl rfl rfl (q_idx tbOk rfl (by exact trivial) g1 (map_get (f := eApiCodeEntry) hxx)) ?_
  refine WR.run tbOk 3 (acc := []) rfl trivial ?_
  refine WR.nil (by kernel_rfl) ?_
  refine WQ.thenNormal ?_
  refine WC.seq ?_
  refine WC.order mixed ?_
  refine WR.run tbOk 2 (acc := []) rfl trivial ?_
  obtain ⟨v4, hvv4, h⟩ := bnd h
  refine WR.call0 fn26 rfl rfl rfl rfl (by exact trivial) rfl (nomAlts_con hw hvv4) ?_
  refine WR.run tbOk 2 (acc := []) rfl trivial ?_
  obtain ⟨v5, hvv5, h⟩ := bnd h
  refine WR.call0 fn27 rfl rfl rfl rfl (by exact trivial) rfl (refAlts_con hw hvv5) ?_
  refine WR.run tbOk 2 (acc := []) rfl trivial ?_
  refine WR.nil (by kernel_rfl) ?_
  refine WQ.thenNormal ?_
  refine WC.seq ?_
  refine WC.seq ?_
  refine WC.order mixed ?_
  refine WR.run tbOk 1 (acc := []) rfl trivial ?_
  refine WR.q [] rfl rfl rfl (q_ev tbOk (.v (.int .i64 (v4.length : Int))) rfl (by exact trivial) (by first | (simp only [List.length_map]; done) | (simp only [List.length_map]; rfl) | rfl)) ?_
  refine WR.run tbOk 1 (acc := []) rfl trivial ?_
  refine WR.q [] rfl rfl rfl (q_ev tbOk (.v (.int .i64 (v5.length : Int))) rfl (by exact trivial) (by first | (simp only [List.length_map]; done) | (simp only [List.length_map]; rfl) | rfl)) ?_
  refine WR.run tbOk 6 (acc := []) rfl (by repeat' (first | exact trivial | assumption | intro _ | apply And.intro | (refine not_i ?_; assumption) | (refine and_l ?_; assumption) | (refine and_i ?_ ?_) | decide | omega | (simp [vcs]; done) | (simp only [List.length_map]; omega))) ?_
  obtain ⟨v6, hvv6, h⟩ := bnd h
  refine WR.gcall0 fn28 rfl rfl rfl rfl rfl (fun _ => (by repeat' (first | exact trivial | assumption | intro _ | apply And.intro | (refine not_i ?_; assumption) | (refine and_l ?_; assumption) | (refine and_i ?_ ?_) | decide | omega | (simp [vcs]; done) | (simp only [List.length_map]; omega)))) rfl (fun hg => (nomExcluded_con hw (ite_t hg hvv6))) ?_
  refine WR.run tbOk 4 (acc := []) rfl (by repeat' (first | exact trivial | assumption | intro _ | apply And.intro | (refine not_i ?_; assumption) | (refine and_l ?_; assumption) | (refine and_i ?_ ?_) | decide | omega | (simp [vcs]; done) | (simp only [List.length_map]; omega))) ?_
  obtain ⟨v7, hvv7, h⟩ := bnd h
  refine WR.gcall0 fn29 rfl rfl rfl rfl rfl (fun _ => (by repeat' (first | exact trivial | assumption | intro _ | apply And.intro | (refine not_i ?_; assumption) | (refine and_l ?_; assumption) | (refine and_i ?_ ?_) | decide | omega | (simp [vcs]; done) | (simp only [List.length_map]; omega)))) rfl (fun hg => (refExcluded_con hw (ite_t hg hvv7))) ?_
  refine WR.run tbOk 6 (acc := []) rfl (by repeat' (first | exact trivial | assumption | intro _ | apply And.intro | (refine not_i ?_; assumption) | (refine and_l ?_; assumption) | (refine and_i ?_ ?_) | decide | omega | (simp [vcs]; done) | (simp only [List.length_map]; omega))) ?_
  obtain ⟨v8, hvv8, h⟩ := bnd h
  refine WR.gcall0 fn30 rfl rfl rfl rfl rfl (fun _ => (by repeat' (first | exact trivial | assumption | intro _ | apply And.intro | (refine not_i ?_; assumption) | (refine and_l ?_; assumption) | (refine and_i ?_ ?_) | decide | omega | (simp [vcs]; done) | (simp only [List.length_map]; omega)))) rfl (fun hg => (nomScore_con hw (ite_t hg hvv8))) ?_
  refine WR.run tbOk 3 (acc := []) rfl (by repeat' (first | exact trivial | assumption | intro _ | apply And.intro | (refine not_i ?_; assumption) | (refine and_l ?_; assumption) | (refine and_i ?_ ?_) | decide | omega | (simp [vcs]; done) | (simp only [List.length_map]; omega))) ?_
  obtain ⟨v9, hvv9, h⟩ := bnd h
  refine WR.gcall0 fn31 rfl rfl rfl rfl rfl (fun _ => (by repeat' (first | exact trivial | assumption | intro _ | apply And.intro | (refine not_i ?_; assumption) | (refine and_l ?_; assumption) | (refine and_i ?_ ?_) | decide | omega | (simp [vcs]; done) | (simp only [List.length_map]; omega)))) rfl (fun hg => (refScore_con hw (ite_t hg hvv9))) ?_
  refine WR.run tbOk 2 (acc := []) rfl (by repeat' (first | exact trivial | assumption | intro _ | apply And.intro | (refine not_i ?_; assumption) | (refine and_l ?_; assumption) | (refine and_i ?_ ?_) | decide | omega | (simp [vcs]; done) | (simp only [List.length_map]; omega))) ?_
  refine WR.nil (by kernel_rfl) ?_
  refine WQ.thenNormal ?_
  refine WC.cond rfl (fun hc1 => ?_) (fun hc1 => ?_)
  · replace h := ite_t hc1 h
    refine WC.seq ?_
    refine WC.region ?_
    refine WL.run tbOk 1 (acc := []) rfl trivial ?_
    refine WL.nil ?_
    refine WQ.thenNormal ?_
    refine WC.ret ?_
    refine WQ.thenRet ?_
    cases h
    exact WQ.rets tbOk hR [] (.inl rfl) rfl rfl (Le.refl _) (by exact trivial) rfl rfl rfl rfl
  · replace h := ite_f hc1 h
    refine WC.skip ?_
    refine WQ.thenNormal ?_
    refine WC.seq ?_
    refine WC.seq ?_
    refine WC.region ?_
    refine WL.run tbOk 1 (acc := []) rfl trivial ?_
    refine WL.nil ?_
    refine WQ.thenNormal ?_
    refine WC.thenCut (X := Unit) (fun gG => ⟨[(11, .p 11 0), (10, .v (.sl 1 (v2.Words.map eStr))), (9, .p 9 0), (3, .v (.bool more))], [(9, .blk 31 [.v (.sl 5 (v.Entries.map eApiCodeEntry)), .v (.sl 3 (v.Notes.map eApiCodeNote))]), (11, .blk 40 [.v (.str x.Code), .v (.int .i64 x.From), .v (.int .i64 x.To), .v (.sl 1 (x.Terms.map eLStr)), .v (.bool x.Other)])]⟩) (fun gG => lawScore_j1 more v v2 x = some r) ?_ ?_
    · refine WC.block ?_
      obtain ⟨eQ1, hl1, hk1⟩ := bnd h
      clear h
      refine WC.loop (σ := Int) (τ := ((Bool) ⊕ (Unit))) (fun sS => ⟨[(14, .v (.int .i64 sS)), (13, .v (.sl 1 (v5.map eLStr))), (12, .v (.sl 1 (v4.map eLStr))), (11, .p 11 0), (10, .v (.sl 1 (v2.Words.map eStr))), (9, .p 9 0), (3, .v (.bool more))], [(9, .blk 31 [.v (.sl 5 (v.Entries.map eApiCodeEntry)), .v (.sl 3 (v.Notes.map eApiCodeNote))]), (11, .blk 40 [.v (.str x.Code), .v (.int .i64 x.From), .v (.int .i64 x.To), .v (.sl 1 (x.Terms.map eLStr)), .v (.bool x.Other)])]⟩) (lawScore_b1 more v v2 x v4 v5) [] (0 : Int) hl1 ⟨(by exact ⟨rfl, rfl, rfl, rfl, rfl, rfl, rfl, trivial⟩), (by exact ⟨rfl, rfl, trivial⟩), rfl, rfl, rfl, rfl⟩ ?_
      intro i m hn1 he1 hx1
      obtain ⟨o1, hf1⟩ := some_of hx1
      have h := hf1
      unfold lawScore_b1 at h
      show WC _ _ _ ⟨[(14, .v (.int .i64 i)), (13, .v (.sl 1 (v5.map eLStr))), (12, .v (.sl 1 (v4.map eLStr))), (11, .p 11 0), (10, .v (.sl 1 (v2.Words.map eStr))), (9, .p 9 0), (3, .v (.bool more))], [(9, .blk 31 [.v (.sl 5 (v.Entries.map eApiCodeEntry)), .v (.sl 3 (v.Notes.map eApiCodeNote))]), (11, .blk 40 [.v (.str x.Code), .v (.int .i64 x.From), .v (.int .i64 x.To), .v (.sl 1 (x.Terms.map eLStr)), .v (.bool x.Other)])]⟩ _ _
      refine WC.seq ?_
      refine WC.seq ?_
      refine WC.region ?_
      refine WL.run tbOk 2 (acc := []) rfl trivial ?_
      refine WL.q [] rfl rfl rfl (q_ev tbOk (.v (.int .i64 (v4.length : Int))) rfl (by exact trivial) (by first | (simp only [List.length_map]; done) | (simp only [List.length_map]; rfl) | rfl)) ?_
      refine WL.run tbOk 1 (acc := []) rfl trivial ?_
      refine WL.nil ?_
      refine WQ.thenNormal ?_
      refine WC.cond rfl (fun hc3 => ?_) (fun hc3 => ?_)
      · replace h := ite_t hc3 h
        refine WC.skip ?_
        refine WQ.thenNormal ?_
        refine WC.seq ?_
        refine WC.block ?_
        refine WC.seq ?_
        refine WC.order mixed ?_
        refine WR.run tbOk 2 (acc := []) rfl trivial ?_
        obtain ⟨g2, h⟩ := grd h
        obtain ⟨x4, hxx4, h⟩ := bnd h
        refine WR.q [] rfl rfl rfl (q_idx tbOk rfl (by exact trivial) g2 (map_get (f := eLStr) hxx4)) ?_
        refine WR.run tbOk 3 (acc := []) rfl trivial ?_
        obtain ⟨g3, h⟩ := grd h
        obtain ⟨x5, hxx5, h⟩ := bnd h
        refine WR.q [] rfl rfl rfl (q_idx tbOk rfl (by exact trivial) g3 (map_get (f := eLStr) hxx5)) ?_
        refine WR.run tbOk 1 (acc := []) rfl trivial ?_
        obtain ⟨v18, hvv18, h⟩ := bnd h
        refine WR.call0 fn32 rfl rfl rfl rfl (by exact trivial) rfl (sameStrings_con hw hvv18) ?_
        refine WR.run tbOk 1 (acc := []) rfl trivial ?_
        refine WR.nil (by kernel_rfl) ?_
        refine WQ.thenNormal ?_
        refine WC.cond rfl (fun hc4 => ?_) (fun hc4 => ?_)
        · replace h := ite_t hc4 h
          refine WC.seq ?_
          refine WC.region ?_
          refine WL.run tbOk 1 (acc := []) rfl trivial ?_
          refine WL.nil ?_
          refine WQ.thenNormal ?_
          refine WC.ret ?_
          refine WQ.blockRet ?_
          refine WQ.thenRet ?_
          cases h
          have he := he1 _ hf1
          subst he
          have h : some false = some _ := hk1
          refine WQ.thenRet ?_
          refine WQ.blockRet ?_
          refine WQ.thenRet ?_
          cases h
          exact WQ.rets tbOk hR [] (.inl rfl) rfl rfl (Le.refl _) (by exact trivial) rfl rfl rfl rfl
        · replace h := ite_f hc4 h
          refine WC.skip ?_
          refine WQ.blockNormal ?_
          refine WQ.thenNormal ?_
          refine WC.region ?_
          refine WL.run tbOk 3 (acc := []) rfl trivial ?_
          refine WL.nil ?_
          cases h
          exact WQ.next [] (IntKind.i64.wrap (i + (1 : Int))) ⟨(by exact ⟨rfl, rfl, rfl, rfl, rfl, rfl, rfl, trivial⟩), (by exact ⟨rfl, rfl, trivial⟩), rfl, rfl, rfl, rfl⟩ (hn1 _ hf1)
      · replace h := ite_f hc3 h
        refine WC.exit ?_
        refine WQ.thenExit ?_
        cases h
        have he := he1 _ hf1
        subst he
        replace h := hk1
        try dsimp only at h
        refine WQ.thenExit ?_
        refine WQ.blockExit ?_
        exact WQ.cut [] () ⟨(by exact ⟨rfl, rfl, rfl, rfl, trivial⟩), (by exact ⟨rfl, rfl, trivial⟩), rfl, rfl, rfl, rfl⟩ h
    · intro _ h
      replace h : lawScore_j1 more v v2 x = some _ := h
      unfold lawScore_j1 at h
      show WC _ _ _ ⟨[(11, .p 11 0), (10, .v (.sl 1 (v2.Words.map eStr))), (9, .p 9 0), (3, .v (.bool more))], [(9, .blk 31 [.v (.sl 5 (v.Entries.map eApiCodeEntry)), .v (.sl 3 (v.Notes.map eApiCodeNote))]), (11, .blk 40 [.v (.str x.Code), .v (.int .i64 x.From), .v (.int .i64 x.To), .v (.sl 1 (x.Terms.map eLStr)), .v (.bool x.Other)])]⟩ _ _
      refine WC.seq ?_
      refine WC.region ?_
      refine WL.run tbOk 2 (acc := []) rfl trivial ?_
      obtain ⟨v10, hvv10, h⟩ := bnd h
      refine WL.call0 fn33 rfl rfl rfl rfl (by exact trivial) rfl (refUnion_con hw hvv10) ?_
      refine WL.run tbOk 1 (acc := []) rfl trivial ?_
      refine WL.nil ?_
      refine WQ.thenNormal ?_
      refine WC.seq ?_
      refine WC.seq ?_
      refine WC.order mixed ?_
      refine WR.run tbOk 6 (acc := []) rfl (by repeat' (first | exact trivial | assumption | intro _ | apply And.intro | (refine not_i ?_; assumption) | (refine and_l ?_; assumption) | (refine and_i ?_ ?_) | decide | omega | (simp [vcs]; done) | (simp only [List.length_map]; omega))) ?_
      obtain ⟨v11, hvv11, h⟩ := bnd h
      refine WR.gcall0 fn28 rfl rfl rfl rfl rfl (fun _ => (by repeat' (first | exact trivial | assumption | intro _ | apply And.intro | (refine not_i ?_; assumption) | (refine and_l ?_; assumption) | (refine and_i ?_ ?_) | decide | omega | (simp [vcs]; done) | (simp only [List.length_map]; omega)))) rfl (fun hg => (nomExcluded_con hw (ite_t hg hvv11))) ?_
      refine WR.run tbOk 6 (acc := []) rfl (by repeat' (first | exact trivial | assumption | intro _ | apply And.intro | (refine not_i ?_; assumption) | (refine and_l ?_; assumption) | (refine and_i ?_ ?_) | decide | omega | (simp [vcs]; done) | (simp only [List.length_map]; omega))) ?_
      obtain ⟨v12, hvv12, h⟩ := bnd h
      refine WR.gcall0 fn30 rfl rfl rfl rfl rfl (fun _ => (by repeat' (first | exact trivial | assumption | intro _ | apply And.intro | (refine not_i ?_; assumption) | (refine and_l ?_; assumption) | (refine and_i ?_ ?_) | decide | omega | (simp [vcs]; done) | (simp only [List.length_map]; omega)))) rfl (fun hg => (nomScore_con hw (ite_t hg hvv12))) ?_
      refine WR.run tbOk 3 (acc := []) rfl (by repeat' (first | exact trivial | assumption | intro _ | apply And.intro | (refine not_i ?_; assumption) | (refine and_l ?_; assumption) | (refine and_i ?_ ?_) | decide | omega | (simp [vcs]; done) | (simp only [List.length_map]; omega))) ?_
      obtain ⟨v13, hvv13, h⟩ := bnd h
      refine WR.gcall0 fn30 rfl rfl rfl rfl rfl (fun _ => (by repeat' (first | exact trivial | assumption | intro _ | apply And.intro | (refine not_i ?_; assumption) | (refine and_l ?_; assumption) | (refine and_i ?_ ?_) | decide | omega | (simp [vcs]; done) | (simp only [List.length_map]; omega)))) rfl (fun hg => (nomScore_con hw (ite_t hg hvv13))) ?_
      refine WR.run tbOk 2 (acc := []) rfl (by repeat' (first | exact trivial | assumption | intro _ | apply And.intro | (refine not_i ?_; assumption) | (refine and_l ?_; assumption) | (refine and_i ?_ ?_) | decide | omega | (simp [vcs]; done) | (simp only [List.length_map]; omega))) ?_
      refine WR.nil (by kernel_rfl) ?_
      refine WQ.thenNormal ?_
      refine WC.cond rfl (fun hc2 => ?_) (fun hc2 => ?_)
      · replace h := ite_t hc2 h
        refine WC.seq ?_
        refine WC.region ?_
        refine WL.run tbOk 1 (acc := []) rfl trivial ?_
        refine WL.nil ?_
        refine WQ.thenNormal ?_
        refine WC.ret ?_
        refine WQ.thenRet ?_
        cases h
        exact WQ.rets tbOk hR [] (.inl rfl) rfl rfl (Le.refl _) (by exact trivial) rfl rfl rfl rfl
      · replace h := ite_f hc2 h
        refine WC.skip ?_
        refine WQ.thenNormal ?_
        refine WC.seq ?_
        refine WC.region ?_
        refine WL.run tbOk 4 (acc := []) rfl trivial ?_
        obtain ⟨v14, hvv14, h⟩ := bnd h
        refine WL.call0 fn28 rfl rfl rfl rfl (by exact trivial) rfl (nomExcluded_con hw hvv14) ?_
        refine WL.run tbOk 6 (acc := []) rfl (by repeat' (first | exact trivial | assumption | intro _ | apply And.intro | (refine not_i ?_; assumption) | (refine and_l ?_; assumption) | (refine and_i ?_ ?_) | decide | omega | (simp [vcs]; done) | (simp only [List.length_map]; omega))) ?_
        obtain ⟨v15, hvv15, h⟩ := bnd h
        refine WL.gcall0 fn28 rfl rfl rfl rfl rfl (fun _ => (by repeat' (first | exact trivial | assumption | intro _ | apply And.intro | (refine not_i ?_; assumption) | (refine and_l ?_; assumption) | (refine and_i ?_ ?_) | decide | omega | (simp [vcs]; done) | (simp only [List.length_map]; omega)))) rfl (fun hg => (nomExcluded_con hw (ite_t hg hvv15))) ?_
        refine WL.run tbOk 2 (acc := []) rfl (by repeat' (first | exact trivial | assumption | intro _ | apply And.intro | (refine not_i ?_; assumption) | (refine and_l ?_; assumption) | (refine and_i ?_ ?_) | decide | omega | (simp [vcs]; done) | (simp only [List.length_map]; omega))) ?_
        obtain ⟨v16, hvv16, h⟩ := bnd h
        refine WL.gcall0 fn14 rfl rfl rfl rfl rfl (fun _ => (by repeat' (first | exact trivial | assumption | intro _ | apply And.intro | (refine not_i ?_; assumption) | (refine and_l ?_; assumption) | (refine and_i ?_ ?_) | decide | omega | (simp [vcs]; done) | (simp only [List.length_map]; omega)))) rfl (fun hg => (awake09_con hw (ite_t hg hvv16))) ?_
        refine WL.run tbOk 2 (acc := []) rfl (by repeat' (first | exact trivial | assumption | intro _ | apply And.intro | (refine not_i ?_; assumption) | (refine and_l ?_; assumption) | (refine and_i ?_ ?_) | decide | omega | (simp [vcs]; done) | (simp only [List.length_map]; omega))) ?_
        refine WL.nil ?_
        refine WQ.thenNormal ?_
        refine WC.ret ?_
        cases h
        exact WQ.rets tbOk hR [] (.inl rfl) rfl rfl (Le.refl _) (by exact trivial) rfl rfl rfl rfl

end Go.Proofs.YtlacgaihahemmaaGreatDoor
