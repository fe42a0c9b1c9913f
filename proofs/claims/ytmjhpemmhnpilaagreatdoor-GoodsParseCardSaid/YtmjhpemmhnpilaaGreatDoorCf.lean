/- Contracts: the program's functions compute the plain ones; by program (gen.py). -/
import Derived.Test.YtmjhpemmhnpilaaGreatDoorLib
import Derived.Test.YtmjhpemmhnpilaaGreatDoorPf
import Derived.Test.YtmjhpemmhnpilaaGreatDoorCa
import Derived.Test.YtmjhpemmhnpilaaGreatDoorCb
import Derived.Test.YtmjhpemmhnpilaaGreatDoorCc
import Derived.Test.YtmjhpemmhnpilaaGreatDoorCd
import Derived.Test.YtmjhpemmhnpilaaGreatDoorCe
set_option linter.unusedVariables false
set_option linter.unusedSimpArgs false
namespace Go.Proofs.YtmjhpemmhnpilaaGreatDoor
open Go.V Go.C

theorem r02Digits_con {wg : World} (hw : WG wg) {n1 : Int} {r : Str} (h : r02Digits n1 = some r) : Con Tryz.prog wg gl 34 [.v (.int .i64 n1)] [] (.v (.str r)) [] := by
  unfold r02Digits at h
  refine con_of_WC (S := slotsOf 0 _) Tryz.func34 rfl Tryz.ntmps34 rfl (fun t x hx => (slotsOf_get hx).2) ?_
  intro F L w ρ0 R hR
  show WC _ _ _ ⟨[(0, .v (.int .i64 n1))], []⟩ _ _
  refine WC.seq ?_
  refine WC.region ?_
  refine WL.run tbOk 1 (acc := []) rfl (by repeat' (first | exact trivial | assumption | intro _ | apply And.intro | (refine not_i ?_; assumption) | (refine and_l ?_; assumption) | (refine and_i ?_ ?_) | decide | omega | (simp [vcs]; done) | (simp only [List.length_map]; omega))) ?_
  refine WL.nil ?_
  refine WQ.thenNormal ?_
  refine WC.seq ?_
  refine WC.region ?_
  refine WL.run tbOk 1 (acc := []) rfl (by repeat' (first | exact trivial | assumption | intro _ | apply And.intro | (refine not_i ?_; assumption) | (refine and_l ?_; assumption) | (refine and_i ?_ ?_) | decide | omega | (simp [vcs]; done) | (simp only [List.length_map]; omega))) ?_
  refine WL.nil ?_
  refine WQ.thenNormal ?_
  refine WC.block ?_
  obtain ⟨e1, hl1, hk1⟩ := bnd h
  clear h
  refine WC.loop (σ := Str × Int) (τ := (Str)) (fun sS => ⟨[(3, .v (.str sS.1)), (0, .v (.int .i64 sS.2))], []⟩) (r02Digits_b1) [] (([] : Str), n1) hl1 ⟨(by repeat' (first | exact trivial | refine ⟨rfl, ?_⟩)), (by repeat' (first | exact trivial | refine ⟨rfl, ?_⟩)), rfl, rfl, rfl, rfl⟩ ?_
  rintro ⟨s, n12⟩ m hn1 he1 hx1
  obtain ⟨o1, hf1⟩ := some_of hx1
  have h := hf1
  unfold r02Digits_b1 at h
  show WC _ _ _ ⟨[(3, .v (.str s)), (0, .v (.int .i64 n12))], []⟩ _ _
  refine WC.block ?_
  refine WC.seq ?_
  refine WC.region ?_
  refine WL.run tbOk 5 (acc := []) rfl (by repeat' (first | exact trivial | assumption | intro _ | apply And.intro | (refine not_i ?_; assumption) | (refine and_l ?_; assumption) | (refine and_i ?_ ?_) | decide | omega | (simp [vcs]; done) | (simp only [List.length_map]; omega))) ?_
  refine WL.q [] rfl rfl rfl (q_b2s tbOk (xs := [(IntKind.u8.wrap (IntKind.i64.wrap ((48 : Int) + (n12.tmod (10 : Int)))))]) by37 rfl (by repeat' (first | exact trivial | assumption | intro _ | apply And.intro | (refine not_i ?_; assumption) | (refine and_l ?_; assumption) | (refine and_i ?_ ?_) | decide | omega | (simp [vcs]; done) | (simp only [List.length_map]; omega)))) ?_
  obtain ⟨g1, h⟩ := grd h
  refine WL.run tbOk 3 (acc := []) rfl (by repeat' (first | exact trivial | assumption | intro _ | exact g1 (by assumption) | apply And.intro | (refine not_i ?_; assumption) | (refine and_l ?_; assumption) | (refine and_i ?_ ?_) | decide | omega | (simp [vcs]; done) | (simp only [List.length_map]; omega))) ?_
  refine WL.nil ?_
  refine WQ.thenNormal ?_
  refine WC.seq ?_
  refine WC.region ?_
  refine WL.run tbOk 3 (acc := []) rfl (by repeat' (first | exact trivial | assumption | intro _ | apply And.intro | (refine not_i ?_; assumption) | (refine and_l ?_; assumption) | (refine and_i ?_ ?_) | decide | omega | (simp [vcs]; done) | (simp only [List.length_map]; omega))) ?_
  refine WL.nil ?_
  refine WQ.thenNormal ?_
  refine WC.seq ?_
  refine WC.region ?_
  refine WL.run tbOk 2 (acc := []) rfl (by repeat' (first | exact trivial | assumption | intro _ | apply And.intro | (refine not_i ?_; assumption) | (refine and_l ?_; assumption) | (refine and_i ?_ ?_) | decide | omega | (simp [vcs]; done) | (simp only [List.length_map]; omega))) ?_
  refine WL.nil ?_
  refine WQ.thenNormal ?_
  refine WC.cond rfl (fun hc1 => ?_) (fun hc1 => ?_)
  · replace h := ite_t hc1 h
    refine WC.seq ?_
    refine WC.region ?_
    refine WL.run tbOk 2 (acc := []) rfl (by repeat' (first | exact trivial | assumption | intro _ | apply And.intro | (refine not_i ?_; assumption) | (refine and_l ?_; assumption) | (refine and_i ?_ ?_) | decide | omega | (simp [vcs]; done) | (simp only [List.length_map]; omega))) ?_
    refine WL.nil ?_
    refine WQ.thenNormal ?_
    refine WC.ret ?_
    refine WQ.blockRet ?_
    cases h
    have he := he1 _ hf1
    subst he
    have h : some ((bytesI [(IntKind.u8.wrap (IntKind.i64.wrap ((48 : Int) + (n12.tmod (10 : Int)))))]) ++ s) = some _ := hk1
    refine WQ.thenRet ?_
    refine WQ.blockRet ?_
    cases h
    exact WQ.rets tbOk hR [] (.inl rfl) rfl rfl (Le.refl _) (by repeat' (first | exact trivial | refine ⟨rfl, ?_⟩)) rfl rfl rfl rfl
  · replace h := ite_f hc1 h
    refine WC.skip ?_
    refine WQ.blockNormal ?_
    cases h
    exact WQ.next [] (((bytesI [(IntKind.u8.wrap (IntKind.i64.wrap ((48 : Int) + (n12.tmod (10 : Int)))))]) ++ s), (IntKind.i64.wrap (n12.tdiv (10 : Int)))) ⟨(by repeat' (first | exact trivial | refine ⟨rfl, ?_⟩)), (by repeat' (first | exact trivial | refine ⟨rfl, ?_⟩)), rfl, rfl, rfl, rfl⟩ (hn1 _ hf1)

theorem refJoined_con {wg : World} (hw : WG wg) {l : (List Str)} {by_ : Str} {r : Str} (h : refJoined l by_ = some r) : Con Tryz.prog wg gl 33 [.v (.sl 1 (l.map eStr)), .v (.str by_)] [] (.v (.str r)) [] := by
  unfold refJoined at h
  refine con_of_WC (S := slotsOf 0 _) Tryz.func33 rfl Tryz.ntmps33 rfl (fun t x hx => (slotsOf_get hx).2) ?_
  intro F L w ρ0 R hR
  show WC _ _ _ ⟨[(0, .v (.sl 1 (l.map eStr))), (1, .v (.str by_))], []⟩ _ _
  refine WC.seq ?_
  refine WC.region ?_
  refine WL.run tbOk 1 (acc := []) rfl (by repeat' (first | exact trivial | assumption | intro _ | apply And.intro | (refine not_i ?_; assumption) | (refine and_l ?_; assumption) | (refine and_i ?_ ?_) | decide | omega | (simp [vcs]; done) | (simp only [List.length_map]; omega))) ?_
  refine WL.nil ?_
  refine WQ.thenNormal ?_
  refine WC.seq ?_
  refine WC.region ?_
  refine WL.run tbOk 1 (acc := []) rfl (by repeat' (first | exact trivial | assumption | intro _ | apply And.intro | (refine not_i ?_; assumption) | (refine and_l ?_; assumption) | (refine and_i ?_ ?_) | decide | omega | (simp [vcs]; done) | (simp only [List.length_map]; omega))) ?_
  refine WL.nil ?_
  refine WQ.thenNormal ?_
  refine WC.seq ?_
  refine WC.seq ?_
  refine WC.region ?_
  refine WL.run tbOk 1 (acc := []) rfl (by repeat' (first | exact trivial | assumption | intro _ | apply And.intro | (refine not_i ?_; assumption) | (refine and_l ?_; assumption) | (refine and_i ?_ ?_) | decide | omega | (simp [vcs]; done) | (simp only [List.length_map]; omega))) ?_
  refine WL.nil ?_
  refine WQ.thenNormal ?_
  refine WC.thenCut (X := Str) (fun gG => ⟨[(5, .v (.str gG))], []⟩) (fun gG => refJoined_j1 gG = some r) ?_ ?_
  · refine WC.block ?_
    obtain ⟨e1, hl1, hk1⟩ := bnd h
    clear h
    refine WC.loop (σ := Int × Str) (τ := (Str)) (fun sS => ⟨[(6, .v (.int .i64 sS.1)), (5, .v (.str sS.2)), (0, .v (.sl 1 (l.map eStr))), (1, .v (.str by_))], []⟩) (refJoined_b1 l by_) [] ((0 : Int), ([] : Str)) hl1 ⟨(by repeat' (first | exact trivial | refine ⟨rfl, ?_⟩)), (by repeat' (first | exact trivial | refine ⟨rfl, ?_⟩)), rfl, rfl, rfl, rfl⟩ ?_
    rintro ⟨i, s2⟩ m hn1 he1 hx1
    obtain ⟨o1, hf1⟩ := some_of hx1
    have h := hf1
    unfold refJoined_b1 at h
    show WC _ _ _ ⟨[(6, .v (.int .i64 i)), (5, .v (.str s2)), (0, .v (.sl 1 (l.map eStr))), (1, .v (.str by_))], []⟩ _ _
    refine WC.seq ?_
    refine WC.seq ?_
    refine WC.region ?_
    refine WL.run tbOk 2 (acc := []) rfl (by repeat' (first | exact trivial | assumption | intro _ | apply And.intro | (refine not_i ?_; assumption) | (refine and_l ?_; assumption) | (refine and_i ?_ ?_) | decide | omega | (simp [vcs]; done) | (simp only [List.length_map]; omega))) ?_
    refine WL.q [] rfl rfl rfl (q_ev tbOk (.v (.int .i64 (l.length : Int))) rfl (by repeat' (first | exact trivial | assumption | intro _ | apply And.intro | (refine not_i ?_; assumption) | (refine and_l ?_; assumption) | (refine and_i ?_ ?_) | decide | omega | (simp [vcs]; done) | (simp only [List.length_map]; omega))) (by first | (simp only [List.length_map]; done) | (simp only [List.length_map]; rfl) | rfl)) ?_
    refine WL.run tbOk 1 (acc := []) rfl (by repeat' (first | exact trivial | assumption | intro _ | apply And.intro | (refine not_i ?_; assumption) | (refine and_l ?_; assumption) | (refine and_i ?_ ?_) | decide | omega | (simp [vcs]; done) | (simp only [List.length_map]; omega))) ?_
    refine WL.nil ?_
    refine WQ.thenNormal ?_
    refine WC.cond rfl (fun hc1 => ?_) (fun hc1 => ?_)
    · replace h := ite_t hc1 h
      refine WC.skip ?_
      refine WQ.thenNormal ?_
      refine WC.seq ?_
      refine WC.block ?_
      refine WC.seq ?_
      refine WC.seq ?_
      refine WC.region ?_
      refine WL.run tbOk 2 (acc := []) rfl (by repeat' (first | exact trivial | assumption | intro _ | apply And.intro | (refine not_i ?_; assumption) | (refine and_l ?_; assumption) | (refine and_i ?_ ?_) | decide | omega | (simp [vcs]; done) | (simp only [List.length_map]; omega))) ?_
      refine WL.nil ?_
      refine WQ.thenNormal ?_
      refine WC.thenCut (X := Str) (fun gG => ⟨[(5, .v (.str gG)), (6, .v (.int .i64 i)), (0, .v (.sl 1 (l.map eStr))), (1, .v (.str by_))], []⟩) (fun gG => refJoined_j2 l by_ i gG = some o1) ?_ ?_
      · refine WC.cond rfl (fun hc2 => ?_) (fun hc2 => ?_)
        · replace h := ite_t hc2 h
          refine WC.region ?_
          obtain ⟨g3, h⟩ := grd h
          refine WL.run tbOk 4 (acc := []) rfl (by repeat' (first | exact trivial | assumption | intro _ | exact g3 (by assumption) | apply And.intro | (refine not_i ?_; assumption) | (refine and_l ?_; assumption) | (refine and_i ?_ ?_) | decide | omega | (simp [vcs]; done) | (simp only [List.length_map]; omega))) ?_
          refine WL.nil ?_
          exact WQ.cut [] (s2 ++ by_) ⟨(by repeat' (first | exact trivial | refine ⟨rfl, ?_⟩)), (by repeat' (first | exact trivial | refine ⟨rfl, ?_⟩)), rfl, rfl, rfl, rfl⟩ h
        · replace h := ite_f hc2 h
          refine WC.skip ?_
          exact WQ.cut [] s2 ⟨(by repeat' (first | exact trivial | refine ⟨rfl, ?_⟩)), (by repeat' (first | exact trivial | refine ⟨rfl, ?_⟩)), rfl, rfl, rfl, rfl⟩ h
      · intro s6 h
        replace h : refJoined_j2 l by_ i s6 = some _ := h
        unfold refJoined_j2 at h
        show WC _ _ _ ⟨[(5, .v (.str s6)), (6, .v (.int .i64 i)), (0, .v (.sl 1 (l.map eStr))), (1, .v (.str by_))], []⟩ _ _
        refine WC.region ?_
        refine WL.run tbOk 3 (acc := []) rfl (by repeat' (first | exact trivial | assumption | intro _ | apply And.intro | (refine not_i ?_; assumption) | (refine and_l ?_; assumption) | (refine and_i ?_ ?_) | decide | omega | (simp [vcs]; done) | (simp only [List.length_map]; omega))) ?_
        obtain ⟨g1, h⟩ := grd h
        obtain ⟨x2, hxx2, h⟩ := bnd h
        refine WL.q [] rfl rfl rfl (q_idx tbOk rfl (by repeat' (first | exact trivial | assumption | intro _ | apply And.intro | (refine not_i ?_; assumption) | (refine and_l ?_; assumption) | (refine and_i ?_ ?_) | decide | omega | (simp [vcs]; done) | (simp only [List.length_map]; omega))) g1 (map_get (f := eStr) hxx2)) ?_
        obtain ⟨g2, h⟩ := grd h
        refine WL.run tbOk 3 (acc := []) rfl (by repeat' (first | exact trivial | assumption | intro _ | exact g2 (by assumption) | apply And.intro | (refine not_i ?_; assumption) | (refine and_l ?_; assumption) | (refine and_i ?_ ?_) | decide | omega | (simp [vcs]; done) | (simp only [List.length_map]; omega))) ?_
        refine WL.nil ?_
        refine WQ.blockNormal ?_
        refine WQ.thenNormal ?_
        refine WC.region ?_
        refine WL.run tbOk 3 (acc := []) rfl (by repeat' (first | exact trivial | assumption | intro _ | apply And.intro | (refine not_i ?_; assumption) | (refine and_l ?_; assumption) | (refine and_i ?_ ?_) | decide | omega | (simp [vcs]; done) | (simp only [List.length_map]; omega))) ?_
        refine WL.nil ?_
        cases h
        exact WQ.next [] ((IntKind.i64.wrap (i + (1 : Int))), (s6 ++ x2)) ⟨(by repeat' (first | exact trivial | refine ⟨rfl, ?_⟩)), (by repeat' (first | exact trivial | refine ⟨rfl, ?_⟩)), rfl, rfl, rfl, rfl⟩ (hn1 _ hf1)
    · replace h := ite_f hc1 h
      refine WC.exit ?_
      refine WQ.thenExit ?_
      cases h
      have he := he1 _ hf1
      subst he
      replace h := hk1
      try dsimp only at h
      refine WQ.thenExit ?_
      refine WQ.blockExit ?_
      exact WQ.cut [] s2 ⟨(by repeat' (first | exact trivial | refine ⟨rfl, ?_⟩)), (by repeat' (first | exact trivial | refine ⟨rfl, ?_⟩)), rfl, rfl, rfl, rfl⟩ h
  · intro s h
    replace h : refJoined_j1 s = some _ := h
    unfold refJoined_j1 at h
    show WC _ _ _ ⟨[(5, .v (.str s))], []⟩ _ _
    refine WC.seq ?_
    refine WC.region ?_
    refine WL.run tbOk 2 (acc := []) rfl (by repeat' (first | exact trivial | assumption | intro _ | apply And.intro | (refine not_i ?_; assumption) | (refine and_l ?_; assumption) | (refine and_i ?_ ?_) | decide | omega | (simp [vcs]; done) | (simp only [List.length_map]; omega))) ?_
    refine WL.nil ?_
    refine WQ.thenNormal ?_
    refine WC.ret ?_
    cases h
    exact WQ.rets tbOk hR [] (.inl rfl) rfl rfl (Le.refl _) (by repeat' (first | exact trivial | refine ⟨rfl, ?_⟩)) rfl rfl rfl rfl

theorem refFormatGood_con {wg : World} (hw : WG wg) {a0 : ApiGood} {r : Str} (h : refFormatGood a0 = some r) : Con Tryz.prog wg gl 8 [.v (.agg [.sl 1 (a0.Words.map eStr), .sl 2 (a0.Materials.map eApiMaterial), .sl 2 (a0.Parts.map eApiComponent), .bool a0.Incomplete])] [] (.v (.str r)) [] := by
  unfold refFormatGood at h
  refine con_of_WC (S := slotsOf 0 _) Tryz.func8 rfl Tryz.ntmps8 rfl (fun t x hx => (slotsOf_get hx).2) ?_
  intro F L w ρ0 R hR
  show WC _ _ _ ⟨[(0, .v (.agg [.sl 1 (a0.Words.map eStr), .sl 2 (a0.Materials.map eApiMaterial), .sl 2 (a0.Parts.map eApiComponent), .bool a0.Incomplete]))], []⟩ _ _
  refine WC.seq ?_
  refine WC.region ?_
  refine WL.run tbOk 2 (acc := []) rfl (by repeat' (first | exact trivial | assumption | intro _ | apply And.intro | (refine not_i ?_; assumption) | (refine and_l ?_; assumption) | (refine and_i ?_ ?_) | decide | omega | (simp [vcs]; done) | (simp only [List.length_map]; omega))) ?_
  refine WL.nil ?_
  refine WQ.thenNormal ?_
  refine WC.seq ?_
  refine WC.seq ?_
  refine WC.region ?_
  refine WL.run tbOk 1 (acc := []) rfl (by repeat' (first | exact trivial | assumption | intro _ | apply And.intro | (refine not_i ?_; assumption) | (refine and_l ?_; assumption) | (refine and_i ?_ ?_) | decide | omega | (simp [vcs]; done) | (simp only [List.length_map]; omega))) ?_
  obtain ⟨v, hvv, h⟩ := bnd h
  refine WL.call0 fn32 rfl rfl rfl rfl (by repeat' (first | exact trivial | assumption | intro _ | apply And.intro | (refine not_i ?_; assumption) | (refine and_l ?_; assumption) | (refine and_i ?_ ?_) | decide | omega | (simp [vcs]; done) | (simp only [List.length_map]; omega))) rfl (refGood_con hw hvv) ?_
  refine WL.run tbOk 1 (acc := []) rfl (by repeat' (first | exact trivial | assumption | intro _ | apply And.intro | (refine not_i ?_; assumption) | (refine and_l ?_; assumption) | (refine and_i ?_ ?_) | decide | omega | (simp [vcs]; done) | (simp only [List.length_map]; omega))) ?_
  refine WL.nil ?_
  refine WQ.thenNormal ?_
  refine WC.cond rfl (fun hc1 => ?_) (fun hc1 => ?_)
  · replace h := ite_t hc1 h
    refine WC.seq ?_
    refine WC.region ?_
    refine WL.run tbOk 1 (acc := []) rfl (by repeat' (first | exact trivial | assumption | intro _ | apply And.intro | (refine not_i ?_; assumption) | (refine and_l ?_; assumption) | (refine and_i ?_ ?_) | decide | omega | (simp [vcs]; done) | (simp only [List.length_map]; omega))) ?_
    refine WL.nil ?_
    refine WQ.thenNormal ?_
    refine WC.ret ?_
    refine WQ.thenRet ?_
    cases h
    exact WQ.rets tbOk hR [] (.inl rfl) rfl rfl (Le.refl _) (by repeat' (first | exact trivial | refine ⟨rfl, ?_⟩)) rfl rfl rfl rfl
  · replace h := ite_f hc1 h
    refine WC.skip ?_
    refine WQ.thenNormal ?_
    refine WC.seq ?_
    refine WC.region ?_
    refine WL.run tbOk 2 (acc := []) rfl (by repeat' (first | exact trivial | assumption | intro _ | apply And.intro | (refine not_i ?_; assumption) | (refine and_l ?_; assumption) | (refine and_i ?_ ?_) | decide | omega | (simp [vcs]; done) | (simp only [List.length_map]; omega))) ?_
    obtain ⟨v2, hvv2, h⟩ := bnd h
    refine WL.call0 fn33 rfl rfl rfl rfl (by repeat' (first | exact trivial | assumption | intro _ | apply And.intro | (refine not_i ?_; assumption) | (refine and_l ?_; assumption) | (refine and_i ?_ ?_) | decide | omega | (simp [vcs]; done) | (simp only [List.length_map]; omega))) rfl (refJoined_con hw hvv2) ?_
    refine WL.run tbOk 1 (acc := []) rfl (by repeat' (first | exact trivial | assumption | intro _ | apply And.intro | (refine not_i ?_; assumption) | (refine and_l ?_; assumption) | (refine and_i ?_ ?_) | decide | omega | (simp [vcs]; done) | (simp only [List.length_map]; omega))) ?_
    refine WL.nil ?_
    refine WQ.thenNormal ?_
    refine WC.seq ?_
    refine WC.seq ?_
    refine WC.region ?_
    refine WL.run tbOk 1 (acc := []) rfl (by repeat' (first | exact trivial | assumption | intro _ | apply And.intro | (refine not_i ?_; assumption) | (refine and_l ?_; assumption) | (refine and_i ?_ ?_) | decide | omega | (simp [vcs]; done) | (simp only [List.length_map]; omega))) ?_
    refine WL.nil ?_
    refine WQ.thenNormal ?_
    refine WC.thenCut (X := Str) (fun gG => ⟨[(3, .v (.str gG)), (1, .p 1 0)], [(1, .blk 27 [.v (.sl 1 (a0.Words.map eStr)), .v (.sl 2 (a0.Materials.map eApiMaterial)), .v (.sl 2 (a0.Parts.map eApiComponent)), .v (.bool a0.Incomplete)])]⟩) (fun gG => refFormatGood_j1 a0 gG = some r) ?_ ?_
    · refine WC.block ?_
      obtain ⟨e2, hl2, hk2⟩ := bnd h
      clear h
      refine WC.loop (σ := Int × Str) (τ := (Str)) (fun sS => ⟨[(4, .v (.int .i64 sS.1)), (3, .v (.str sS.2)), (1, .p 1 0)], [(1, .blk 27 [.v (.sl 1 (a0.Words.map eStr)), .v (.sl 2 (a0.Materials.map eApiMaterial)), .v (.sl 2 (a0.Parts.map eApiComponent)), .v (.bool a0.Incomplete)])]⟩) (refFormatGood_b2 a0) [] ((0 : Int), v2) hl2 ⟨(by repeat' (first | exact trivial | refine ⟨rfl, ?_⟩)), (by repeat' (first | exact trivial | refine ⟨rfl, ?_⟩)), rfl, rfl, rfl, rfl⟩ ?_
      rintro ⟨t4, t39⟩ m hn2 he2 hx2
      obtain ⟨o2, hf2⟩ := some_of hx2
      have h := hf2
      unfold refFormatGood_b2 at h
      show WC _ _ _ ⟨[(4, .v (.int .i64 t4)), (3, .v (.str t39)), (1, .p 1 0)], [(1, .blk 27 [.v (.sl 1 (a0.Words.map eStr)), .v (.sl 2 (a0.Materials.map eApiMaterial)), .v (.sl 2 (a0.Parts.map eApiComponent)), .v (.bool a0.Incomplete)])]⟩ _ _
      refine WC.seq ?_
      refine WC.seq ?_
      refine WC.region ?_
      refine WL.run tbOk 3 (acc := []) rfl (by repeat' (first | exact trivial | assumption | intro _ | apply And.intro | (refine not_i ?_; assumption) | (refine and_l ?_; assumption) | (refine and_i ?_ ?_) | decide | omega | (simp [vcs]; done) | (simp only [List.length_map]; omega))) ?_
      refine WL.q [] rfl rfl rfl (q_ev tbOk (.v (.int .i64 (a0.Materials.length : Int))) rfl (by repeat' (first | exact trivial | assumption | intro _ | apply And.intro | (refine not_i ?_; assumption) | (refine and_l ?_; assumption) | (refine and_i ?_ ?_) | decide | omega | (simp [vcs]; done) | (simp only [List.length_map]; omega))) (by first | (simp only [List.length_map]; done) | (simp only [List.length_map]; rfl) | rfl)) ?_
      refine WL.run tbOk 1 (acc := []) rfl (by repeat' (first | exact trivial | assumption | intro _ | apply And.intro | (refine not_i ?_; assumption) | (refine and_l ?_; assumption) | (refine and_i ?_ ?_) | decide | omega | (simp [vcs]; done) | (simp only [List.length_map]; omega))) ?_
      refine WL.nil ?_
      refine WQ.thenNormal ?_
      refine WC.cond rfl (fun hc5 => ?_) (fun hc5 => ?_)
      · replace h := ite_t hc5 h
        refine WC.skip ?_
        refine WQ.thenNormal ?_
        refine WC.seq ?_
        refine WC.thenCut (X := Str) (fun gG => ⟨[(3, .v (.str gG)), (4, .v (.int .i64 t4)), (1, .p 1 0)], [(1, .blk 27 [.v (.sl 1 (a0.Words.map eStr)), .v (.sl 2 (a0.Materials.map eApiMaterial)), .v (.sl 2 (a0.Parts.map eApiComponent)), .v (.bool a0.Incomplete)])]⟩) (fun gG => refFormatGood_j5 a0 t4 gG = some o2) ?_ ?_
        · refine WC.block ?_
          refine WC.seq ?_
          refine WC.order mixed ?_
          refine WR.run tbOk 3 (acc := []) rfl (by repeat' (first | exact trivial | assumption | intro _ | apply And.intro | (refine not_i ?_; assumption) | (refine and_l ?_; assumption) | (refine and_i ?_ ?_) | decide | omega | (simp [vcs]; done) | (simp only [List.length_map]; omega))) ?_
          obtain ⟨g10, h⟩ := grd h
          obtain ⟨x7, hxx7, h⟩ := bnd h
          refine WR.q [] rfl rfl rfl (q_idx tbOk rfl (by repeat' (first | exact trivial | assumption | intro _ | apply And.intro | (refine not_i ?_; assumption) | (refine and_l ?_; assumption) | (refine and_i ?_ ?_) | decide | omega | (simp [vcs]; done) | (simp only [List.length_map]; omega))) g10 (map_get (f := eApiMaterial) hxx7)) ?_
          obtain ⟨g11, h⟩ := grd h
          refine WR.run tbOk 6 (acc := []) rfl (by repeat' (first | exact trivial | assumption | intro _ | exact g11 (by assumption) | apply And.intro | (refine not_i ?_; assumption) | (refine and_l ?_; assumption) | (refine and_i ?_ ?_) | decide | omega | (simp [vcs]; done) | (simp only [List.length_map]; omega))) ?_
          obtain ⟨g12, h⟩ := grd h
          obtain ⟨x8, hxx8, h⟩ := bnd h
          refine WR.q [] rfl rfl rfl (q_idx tbOk rfl (by repeat' (first | exact trivial | assumption | intro _ | apply And.intro | (refine not_i ?_; assumption) | (refine and_l ?_; assumption) | (refine and_i ?_ ?_) | decide | omega | (simp [vcs]; done) | (simp only [List.length_map]; omega))) g12 (map_get (f := eApiMaterial) hxx8)) ?_
          refine WR.run tbOk 2 (acc := []) rfl (by repeat' (first | exact trivial | assumption | intro _ | apply And.intro | (refine not_i ?_; assumption) | (refine and_l ?_; assumption) | (refine and_i ?_ ?_) | decide | omega | (simp [vcs]; done) | (simp only [List.length_map]; omega))) ?_
          obtain ⟨v8, hvv8, h⟩ := bnd h
          refine WR.call0 fn34 rfl rfl rfl rfl (by repeat' (first | exact trivial | assumption | intro _ | apply And.intro | (refine not_i ?_; assumption) | (refine and_l ?_; assumption) | (refine and_i ?_ ?_) | decide | omega | (simp [vcs]; done) | (simp only [List.length_map]; omega))) rfl (r02Digits_con hw hvv8) ?_
          obtain ⟨g13, h⟩ := grd h
          refine WR.run tbOk 2 (acc := []) rfl (by repeat' (first | exact trivial | assumption | intro _ | exact g13 (by assumption) | apply And.intro | (refine not_i ?_; assumption) | (refine and_l ?_; assumption) | (refine and_i ?_ ?_) | decide | omega | (simp [vcs]; done) | (simp only [List.length_map]; omega))) ?_
          refine WR.nil (by kernel_rfl) ?_
          refine WQ.thenNormal ?_
          refine WC.seq ?_
          refine WC.region ?_
          refine WL.run tbOk 2 (acc := []) rfl (by repeat' (first | exact trivial | assumption | intro _ | apply And.intro | (refine not_i ?_; assumption) | (refine and_l ?_; assumption) | (refine and_i ?_ ?_) | decide | omega | (simp [vcs]; done) | (simp only [List.length_map]; omega))) ?_
          refine WL.nil ?_
          refine WQ.thenNormal ?_
          refine WC.cond rfl (fun hc6 => ?_) (fun hc6 => ?_)
          · replace h := ite_t hc6 h
            refine WC.region ?_
            obtain ⟨g14, h⟩ := grd h
            obtain ⟨g15, h⟩ := grd h
            refine WL.run tbOk 5 (acc := []) rfl (by repeat' (first | exact trivial | assumption | intro _ | exact g14 (by assumption) | exact g15 (by assumption) | apply And.intro | (refine not_i ?_; assumption) | (refine and_l ?_; assumption) | (refine and_i ?_ ?_) | decide | omega | (simp [vcs]; done) | (simp only [List.length_map]; omega))) ?_
            refine WL.nil ?_
            refine WQ.blockNormal ?_
            exact WQ.cut [] ((t39 ++ ([32, 109, 58] : Str)) ++ ((x7.Name ++ ([58] : Str)) ++ v8)) ⟨(by repeat' (first | exact trivial | refine ⟨rfl, ?_⟩)), (by repeat' (first | exact trivial | refine ⟨rfl, ?_⟩)), rfl, rfl, rfl, rfl⟩ h
          · replace h := ite_f hc6 h
            refine WC.region ?_
            obtain ⟨g16, h⟩ := grd h
            obtain ⟨g17, h⟩ := grd h
            refine WL.run tbOk 5 (acc := []) rfl (by repeat' (first | exact trivial | assumption | intro _ | exact g16 (by assumption) | exact g17 (by assumption) | apply And.intro | (refine not_i ?_; assumption) | (refine and_l ?_; assumption) | (refine and_i ?_ ?_) | decide | omega | (simp [vcs]; done) | (simp only [List.length_map]; omega))) ?_
            refine WL.nil ?_
            refine WQ.blockNormal ?_
            exact WQ.cut [] ((t39 ++ ([44] : Str)) ++ ((x7.Name ++ ([58] : Str)) ++ v8)) ⟨(by repeat' (first | exact trivial | refine ⟨rfl, ?_⟩)), (by repeat' (first | exact trivial | refine ⟨rfl, ?_⟩)), rfl, rfl, rfl, rfl⟩ h
        · intro t313 h
          replace h : refFormatGood_j5 a0 t4 t313 = some _ := h
          unfold refFormatGood_j5 at h
          show WC _ _ _ ⟨[(3, .v (.str t313)), (4, .v (.int .i64 t4)), (1, .p 1 0)], [(1, .blk 27 [.v (.sl 1 (a0.Words.map eStr)), .v (.sl 2 (a0.Materials.map eApiMaterial)), .v (.sl 2 (a0.Parts.map eApiComponent)), .v (.bool a0.Incomplete)])]⟩ _ _
          refine WC.region ?_
          refine WL.run tbOk 3 (acc := []) rfl (by repeat' (first | exact trivial | assumption | intro _ | apply And.intro | (refine not_i ?_; assumption) | (refine and_l ?_; assumption) | (refine and_i ?_ ?_) | decide | omega | (simp [vcs]; done) | (simp only [List.length_map]; omega))) ?_
          refine WL.nil ?_
          cases h
          exact WQ.next [] ((IntKind.i64.wrap (t4 + (1 : Int))), t313) ⟨(by repeat' (first | exact trivial | refine ⟨rfl, ?_⟩)), (by repeat' (first | exact trivial | refine ⟨rfl, ?_⟩)), rfl, rfl, rfl, rfl⟩ (hn2 _ hf2)
      · replace h := ite_f hc5 h
        refine WC.exit ?_
        refine WQ.thenExit ?_
        cases h
        have he := he2 _ hf2
        subst he
        replace h := hk2
        try dsimp only at h
        refine WQ.thenExit ?_
        refine WQ.blockExit ?_
        exact WQ.cut [] t39 ⟨(by repeat' (first | exact trivial | refine ⟨rfl, ?_⟩)), (by repeat' (first | exact trivial | refine ⟨rfl, ?_⟩)), rfl, rfl, rfl, rfl⟩ h
    · intro t3 h
      replace h : refFormatGood_j1 a0 t3 = some _ := h
      unfold refFormatGood_j1 at h
      show WC _ _ _ ⟨[(3, .v (.str t3)), (1, .p 1 0)], [(1, .blk 27 [.v (.sl 1 (a0.Words.map eStr)), .v (.sl 2 (a0.Materials.map eApiMaterial)), .v (.sl 2 (a0.Parts.map eApiComponent)), .v (.bool a0.Incomplete)])]⟩ _ _
      refine WC.seq ?_
      refine WC.seq ?_
      refine WC.region ?_
      refine WL.run tbOk 1 (acc := []) rfl (by repeat' (first | exact trivial | assumption | intro _ | apply And.intro | (refine not_i ?_; assumption) | (refine and_l ?_; assumption) | (refine and_i ?_ ?_) | decide | omega | (simp [vcs]; done) | (simp only [List.length_map]; omega))) ?_
      refine WL.nil ?_
      refine WQ.thenNormal ?_
      refine WC.thenCut (X := Str) (fun gG => ⟨[(3, .v (.str gG)), (1, .p 1 0)], [(1, .blk 27 [.v (.sl 1 (a0.Words.map eStr)), .v (.sl 2 (a0.Materials.map eApiMaterial)), .v (.sl 2 (a0.Parts.map eApiComponent)), .v (.bool a0.Incomplete)])]⟩) (fun gG => refFormatGood_j2 a0 gG = some r) ?_ ?_
      · refine WC.block ?_
        obtain ⟨e1, hl1, hk1⟩ := bnd h
        clear h
        refine WC.loop (σ := Int × Str) (τ := (Str)) (fun sS => ⟨[(6, .v (.int .i64 sS.1)), (3, .v (.str sS.2)), (1, .p 1 0)], [(1, .blk 27 [.v (.sl 1 (a0.Words.map eStr)), .v (.sl 2 (a0.Materials.map eApiMaterial)), .v (.sl 2 (a0.Parts.map eApiComponent)), .v (.bool a0.Incomplete)])]⟩) (refFormatGood_b1 a0) [] ((0 : Int), t3) hl1 ⟨(by repeat' (first | exact trivial | refine ⟨rfl, ?_⟩)), (by repeat' (first | exact trivial | refine ⟨rfl, ?_⟩)), rfl, rfl, rfl, rfl⟩ ?_
        rintro ⟨t6, t34⟩ m hn1 he1 hx1
        obtain ⟨o1, hf1⟩ := some_of hx1
        have h := hf1
        unfold refFormatGood_b1 at h
        show WC _ _ _ ⟨[(6, .v (.int .i64 t6)), (3, .v (.str t34)), (1, .p 1 0)], [(1, .blk 27 [.v (.sl 1 (a0.Words.map eStr)), .v (.sl 2 (a0.Materials.map eApiMaterial)), .v (.sl 2 (a0.Parts.map eApiComponent)), .v (.bool a0.Incomplete)])]⟩ _ _
        refine WC.seq ?_
        refine WC.seq ?_
        refine WC.region ?_
        refine WL.run tbOk 3 (acc := []) rfl (by repeat' (first | exact trivial | assumption | intro _ | apply And.intro | (refine not_i ?_; assumption) | (refine and_l ?_; assumption) | (refine and_i ?_ ?_) | decide | omega | (simp [vcs]; done) | (simp only [List.length_map]; omega))) ?_
        refine WL.q [] rfl rfl rfl (q_ev tbOk (.v (.int .i64 (a0.Parts.length : Int))) rfl (by repeat' (first | exact trivial | assumption | intro _ | apply And.intro | (refine not_i ?_; assumption) | (refine and_l ?_; assumption) | (refine and_i ?_ ?_) | decide | omega | (simp [vcs]; done) | (simp only [List.length_map]; omega))) (by first | (simp only [List.length_map]; done) | (simp only [List.length_map]; rfl) | rfl)) ?_
        refine WL.run tbOk 1 (acc := []) rfl (by repeat' (first | exact trivial | assumption | intro _ | apply And.intro | (refine not_i ?_; assumption) | (refine and_l ?_; assumption) | (refine and_i ?_ ?_) | decide | omega | (simp [vcs]; done) | (simp only [List.length_map]; omega))) ?_
        refine WL.nil ?_
        refine WQ.thenNormal ?_
        refine WC.cond rfl (fun hc3 => ?_) (fun hc3 => ?_)
        · replace h := ite_t hc3 h
          refine WC.skip ?_
          refine WQ.thenNormal ?_
          refine WC.seq ?_
          refine WC.thenCut (X := Str) (fun gG => ⟨[(3, .v (.str gG)), (6, .v (.int .i64 t6)), (1, .p 1 0)], [(1, .blk 27 [.v (.sl 1 (a0.Words.map eStr)), .v (.sl 2 (a0.Materials.map eApiMaterial)), .v (.sl 2 (a0.Parts.map eApiComponent)), .v (.bool a0.Incomplete)])]⟩) (fun gG => refFormatGood_j4 a0 t6 gG = some o1) ?_ ?_
          · refine WC.block ?_
            refine WC.seq ?_
            refine WC.order mixed ?_
            refine WR.run tbOk 3 (acc := []) rfl (by repeat' (first | exact trivial | assumption | intro _ | apply And.intro | (refine not_i ?_; assumption) | (refine and_l ?_; assumption) | (refine and_i ?_ ?_) | decide | omega | (simp [vcs]; done) | (simp only [List.length_map]; omega))) ?_
            obtain ⟨g2, h⟩ := grd h
            obtain ⟨x3, hxx3, h⟩ := bnd h
            refine WR.q [] rfl rfl rfl (q_idx tbOk rfl (by repeat' (first | exact trivial | assumption | intro _ | apply And.intro | (refine not_i ?_; assumption) | (refine and_l ?_; assumption) | (refine and_i ?_ ?_) | decide | omega | (simp [vcs]; done) | (simp only [List.length_map]; omega))) g2 (map_get (f := eApiComponent) hxx3)) ?_
            refine WR.run tbOk 2 (acc := []) rfl (by repeat' (first | exact trivial | assumption | intro _ | apply And.intro | (refine not_i ?_; assumption) | (refine and_l ?_; assumption) | (refine and_i ?_ ?_) | decide | omega | (simp [vcs]; done) | (simp only [List.length_map]; omega))) ?_
            obtain ⟨v5, hvv5, h⟩ := bnd h
            refine WR.call0 fn33 rfl rfl rfl rfl (by repeat' (first | exact trivial | assumption | intro _ | apply And.intro | (refine not_i ?_; assumption) | (refine and_l ?_; assumption) | (refine and_i ?_ ?_) | decide | omega | (simp [vcs]; done) | (simp only [List.length_map]; omega))) rfl (refJoined_con hw hvv5) ?_
            obtain ⟨g3, h⟩ := grd h
            refine WR.run tbOk 4 (acc := []) rfl (by repeat' (first | exact trivial | assumption | intro _ | exact g3 (by assumption) | apply And.intro | (refine not_i ?_; assumption) | (refine and_l ?_; assumption) | (refine and_i ?_ ?_) | decide | omega | (simp [vcs]; done) | (simp only [List.length_map]; omega))) ?_
            obtain ⟨g4, h⟩ := grd h
            obtain ⟨x4, hxx4, h⟩ := bnd h
            refine WR.q [] rfl rfl rfl (q_idx tbOk rfl (by repeat' (first | exact trivial | assumption | intro _ | apply And.intro | (refine not_i ?_; assumption) | (refine and_l ?_; assumption) | (refine and_i ?_ ?_) | decide | omega | (simp [vcs]; done) | (simp only [List.length_map]; omega))) g4 (map_get (f := eApiComponent) hxx4)) ?_
            refine WR.run tbOk 2 (acc := []) rfl (by repeat' (first | exact trivial | assumption | intro _ | apply And.intro | (refine not_i ?_; assumption) | (refine and_l ?_; assumption) | (refine and_i ?_ ?_) | decide | omega | (simp [vcs]; done) | (simp only [List.length_map]; omega))) ?_
            obtain ⟨v6, hvv6, h⟩ := bnd h
            refine WR.call0 fn34 rfl rfl rfl rfl (by repeat' (first | exact trivial | assumption | intro _ | apply And.intro | (refine not_i ?_; assumption) | (refine and_l ?_; assumption) | (refine and_i ?_ ?_) | decide | omega | (simp [vcs]; done) | (simp only [List.length_map]; omega))) rfl (r02Digits_con hw hvv6) ?_
            obtain ⟨g5, h⟩ := grd h
            refine WR.run tbOk 2 (acc := []) rfl (by repeat' (first | exact trivial | assumption | intro _ | exact g5 (by assumption) | apply And.intro | (refine not_i ?_; assumption) | (refine and_l ?_; assumption) | (refine and_i ?_ ?_) | decide | omega | (simp [vcs]; done) | (simp only [List.length_map]; omega))) ?_
            refine WR.nil (by kernel_rfl) ?_
            refine WQ.thenNormal ?_
            refine WC.seq ?_
            refine WC.region ?_
            refine WL.run tbOk 2 (acc := []) rfl (by repeat' (first | exact trivial | assumption | intro _ | apply And.intro | (refine not_i ?_; assumption) | (refine and_l ?_; assumption) | (refine and_i ?_ ?_) | decide | omega | (simp [vcs]; done) | (simp only [List.length_map]; omega))) ?_
            refine WL.nil ?_
            refine WQ.thenNormal ?_
            refine WC.cond rfl (fun hc4 => ?_) (fun hc4 => ?_)
            · replace h := ite_t hc4 h
              refine WC.region ?_
              obtain ⟨g6, h⟩ := grd h
              obtain ⟨g7, h⟩ := grd h
              refine WL.run tbOk 5 (acc := []) rfl (by repeat' (first | exact trivial | assumption | intro _ | exact g6 (by assumption) | exact g7 (by assumption) | apply And.intro | (refine not_i ?_; assumption) | (refine and_l ?_; assumption) | (refine and_i ?_ ?_) | decide | omega | (simp [vcs]; done) | (simp only [List.length_map]; omega))) ?_
              refine WL.nil ?_
              refine WQ.blockNormal ?_
              exact WQ.cut [] ((t34 ++ ([32, 112, 58] : Str)) ++ ((v5 ++ ([58] : Str)) ++ v6)) ⟨(by repeat' (first | exact trivial | refine ⟨rfl, ?_⟩)), (by repeat' (first | exact trivial | refine ⟨rfl, ?_⟩)), rfl, rfl, rfl, rfl⟩ h
            · replace h := ite_f hc4 h
              refine WC.region ?_
              obtain ⟨g8, h⟩ := grd h
              obtain ⟨g9, h⟩ := grd h
              refine WL.run tbOk 5 (acc := []) rfl (by repeat' (first | exact trivial | assumption | intro _ | exact g8 (by assumption) | exact g9 (by assumption) | apply And.intro | (refine not_i ?_; assumption) | (refine and_l ?_; assumption) | (refine and_i ?_ ?_) | decide | omega | (simp [vcs]; done) | (simp only [List.length_map]; omega))) ?_
              refine WL.nil ?_
              refine WQ.blockNormal ?_
              exact WQ.cut [] ((t34 ++ ([44] : Str)) ++ ((v5 ++ ([58] : Str)) ++ v6)) ⟨(by repeat' (first | exact trivial | refine ⟨rfl, ?_⟩)), (by repeat' (first | exact trivial | refine ⟨rfl, ?_⟩)), rfl, rfl, rfl, rfl⟩ h
          · intro t38 h
            replace h : refFormatGood_j4 a0 t6 t38 = some _ := h
            unfold refFormatGood_j4 at h
            show WC _ _ _ ⟨[(3, .v (.str t38)), (6, .v (.int .i64 t6)), (1, .p 1 0)], [(1, .blk 27 [.v (.sl 1 (a0.Words.map eStr)), .v (.sl 2 (a0.Materials.map eApiMaterial)), .v (.sl 2 (a0.Parts.map eApiComponent)), .v (.bool a0.Incomplete)])]⟩ _ _
            refine WC.region ?_
            refine WL.run tbOk 3 (acc := []) rfl (by repeat' (first | exact trivial | assumption | intro _ | apply And.intro | (refine not_i ?_; assumption) | (refine and_l ?_; assumption) | (refine and_i ?_ ?_) | decide | omega | (simp [vcs]; done) | (simp only [List.length_map]; omega))) ?_
            refine WL.nil ?_
            cases h
            exact WQ.next [] ((IntKind.i64.wrap (t6 + (1 : Int))), t38) ⟨(by repeat' (first | exact trivial | refine ⟨rfl, ?_⟩)), (by repeat' (first | exact trivial | refine ⟨rfl, ?_⟩)), rfl, rfl, rfl, rfl⟩ (hn1 _ hf1)
        · replace h := ite_f hc3 h
          refine WC.exit ?_
          refine WQ.thenExit ?_
          cases h
          have he := he1 _ hf1
          subst he
          replace h := hk1
          try dsimp only at h
          refine WQ.thenExit ?_
          refine WQ.blockExit ?_
          exact WQ.cut [] t34 ⟨(by repeat' (first | exact trivial | refine ⟨rfl, ?_⟩)), (by repeat' (first | exact trivial | refine ⟨rfl, ?_⟩)), rfl, rfl, rfl, rfl⟩ h
      · intro t32 h
        replace h : refFormatGood_j2 a0 t32 = some _ := h
        unfold refFormatGood_j2 at h
        show WC _ _ _ ⟨[(3, .v (.str t32)), (1, .p 1 0)], [(1, .blk 27 [.v (.sl 1 (a0.Words.map eStr)), .v (.sl 2 (a0.Materials.map eApiMaterial)), .v (.sl 2 (a0.Parts.map eApiComponent)), .v (.bool a0.Incomplete)])]⟩ _ _
        refine WC.seq ?_
        refine WC.seq ?_
        refine WC.region ?_
        refine WL.run tbOk 2 (acc := []) rfl (by repeat' (first | exact trivial | assumption | intro _ | apply And.intro | (refine not_i ?_; assumption) | (refine and_l ?_; assumption) | (refine and_i ?_ ?_) | decide | omega | (simp [vcs]; done) | (simp only [List.length_map]; omega))) ?_
        refine WL.nil ?_
        refine WQ.thenNormal ?_
        refine WC.thenCut (X := Str) (fun gG => ⟨[(3, .v (.str gG))], []⟩) (fun gG => refFormatGood_j3 gG = some r) ?_ ?_
        · refine WC.cond rfl (fun hc2 => ?_) (fun hc2 => ?_)
          · replace h := ite_t hc2 h
            refine WC.region ?_
            obtain ⟨g1, h⟩ := grd h
            refine WL.run tbOk 3 (acc := []) rfl (by repeat' (first | exact trivial | assumption | intro _ | exact g1 (by assumption) | apply And.intro | (refine not_i ?_; assumption) | (refine and_l ?_; assumption) | (refine and_i ?_ ?_) | decide | omega | (simp [vcs]; done) | (simp only [List.length_map]; omega))) ?_
            refine WL.nil ?_
            exact WQ.cut [] (t32 ++ ([32, 105, 110, 99, 111, 109, 112, 108, 101, 116, 101] : Str)) ⟨(by repeat' (first | exact trivial | refine ⟨rfl, ?_⟩)), (by repeat' (first | exact trivial | refine ⟨rfl, ?_⟩)), rfl, rfl, rfl, rfl⟩ h
          · replace h := ite_f hc2 h
            refine WC.skip ?_
            exact WQ.cut [] t32 ⟨(by repeat' (first | exact trivial | refine ⟨rfl, ?_⟩)), (by repeat' (first | exact trivial | refine ⟨rfl, ?_⟩)), rfl, rfl, rfl, rfl⟩ h
        · intro t33 h
          replace h : refFormatGood_j3 t33 = some _ := h
          unfold refFormatGood_j3 at h
          show WC _ _ _ ⟨[(3, .v (.str t33))], []⟩ _ _
          refine WC.seq ?_
          refine WC.region ?_
          refine WL.run tbOk 2 (acc := []) rfl (by repeat' (first | exact trivial | assumption | intro _ | apply And.intro | (refine not_i ?_; assumption) | (refine and_l ?_; assumption) | (refine and_i ?_ ?_) | decide | omega | (simp [vcs]; done) | (simp only [List.length_map]; omega))) ?_
          refine WL.nil ?_
          refine WQ.thenNormal ?_
          refine WC.ret ?_
          cases h
          exact WQ.rets tbOk hR [] (.inl rfl) rfl rfl (Le.refl _) (by repeat' (first | exact trivial | refine ⟨rfl, ?_⟩)) rfl rfl rfl rfl

theorem sameGood_con {wg : World} (hw : WG wg) {a : ApiGood} {b : ApiGood} {r : Bool} (h : sameGood a b = some r) : Con Tryz.prog wg gl 11 [.v (.agg [.sl 1 (a.Words.map eStr), .sl 2 (a.Materials.map eApiMaterial), .sl 2 (a.Parts.map eApiComponent), .bool a.Incomplete]), .v (.agg [.sl 1 (b.Words.map eStr), .sl 2 (b.Materials.map eApiMaterial), .sl 2 (b.Parts.map eApiComponent), .bool b.Incomplete])] [] (.v (.bool r)) [] := by
  unfold sameGood at h
  refine con_of_WC (S := slotsOf 0 _) Tryz.func11 rfl Tryz.ntmps11 rfl (fun t x hx => (slotsOf_get hx).2) ?_
  intro F L w ρ0 R hR
  show WC _ _ _ ⟨[(0, .v (.agg [.sl 1 (a.Words.map eStr), .sl 2 (a.Materials.map eApiMaterial), .sl 2 (a.Parts.map eApiComponent), .bool a.Incomplete])), (1, .v (.agg [.sl 1 (b.Words.map eStr), .sl 2 (b.Materials.map eApiMaterial), .sl 2 (b.Parts.map eApiComponent), .bool b.Incomplete]))], []⟩ _ _
  refine WC.seq ?_
  refine WC.region ?_
  refine WL.run tbOk 3 (acc := []) rfl (by repeat' (first | exact trivial | assumption | intro _ | apply And.intro | (refine not_i ?_; assumption) | (refine and_l ?_; assumption) | (refine and_i ?_ ?_) | decide | omega | (simp [vcs]; done) | (simp only [List.length_map]; omega))) ?_
  refine WL.nil ?_
  refine WQ.thenNormal ?_
  refine WC.seq ?_
  refine WC.seq ?_
  refine WC.region ?_
  refine WL.run tbOk 4 (acc := []) rfl (by repeat' (first | exact trivial | assumption | intro _ | apply And.intro | (refine not_i ?_; assumption) | (refine and_l ?_; assumption) | (refine and_i ?_ ?_) | decide | omega | (simp [vcs]; done) | (simp only [List.length_map]; omega))) ?_
  obtain ⟨v, hvv, h⟩ := bnd h
  refine WL.call0 fn17 rfl rfl rfl rfl (by repeat' (first | exact trivial | assumption | intro _ | apply And.intro | (refine not_i ?_; assumption) | (refine and_l ?_; assumption) | (refine and_i ?_ ?_) | decide | omega | (simp [vcs]; done) | (simp only [List.length_map]; omega))) rfl (sameStrings_con hw hvv) ?_
  refine WL.run tbOk 11 (acc := []) rfl (by repeat' (first | exact trivial | assumption | intro _ | apply And.intro | (refine not_i ?_; assumption) | (refine and_l ?_; assumption) | (refine and_i ?_ ?_) | decide | omega | (simp [vcs]; done) | (simp only [List.length_map]; omega))) ?_
  refine WL.gq [] rfl rfl rfl rfl (fun hg => q_ev tbOk (.v (.int .i64 (a.Materials.length : Int))) rfl (by repeat' (first | exact trivial | assumption | intro _ | apply And.intro | (refine not_i ?_; assumption) | (refine and_l ?_; assumption) | (refine and_i ?_ ?_) | decide | omega | (simp [vcs]; done) | (simp only [List.length_map]; omega))) (by first | (simp only [List.length_map]; done) | (simp only [List.length_map]; rfl) | rfl)) ?_
  refine WL.run tbOk 2 (acc := []) rfl (by repeat' (first | exact trivial | assumption | intro _ | apply And.intro | (refine not_i ?_; assumption) | (refine and_l ?_; assumption) | (refine and_i ?_ ?_) | decide | omega | (simp [vcs]; done) | (simp only [List.length_map]; omega))) ?_
  refine WL.gq [] rfl rfl rfl rfl (fun hg => q_ev tbOk (.v (.int .i64 (b.Materials.length : Int))) rfl (by repeat' (first | exact trivial | assumption | intro _ | apply And.intro | (refine not_i ?_; assumption) | (refine and_l ?_; assumption) | (refine and_i ?_ ?_) | decide | omega | (simp [vcs]; done) | (simp only [List.length_map]; omega))) (by first | (simp only [List.length_map]; done) | (simp only [List.length_map]; rfl) | rfl)) ?_
  refine WL.run tbOk 2 (acc := []) rfl (by repeat' (first | exact trivial | assumption | intro _ | apply And.intro | (refine not_i ?_; assumption) | (refine and_l ?_; assumption) | (refine and_i ?_ ?_) | decide | omega | (simp [vcs]; done) | (simp only [List.length_map]; omega))) ?_
  refine WL.nil ?_
  refine WQ.thenNormal ?_
  refine WC.cond rfl (fun hc1 => ?_) (fun hc1 => ?_)
  · replace h := ite_t hc1 h
    refine WC.seq ?_
    refine WC.region ?_
    refine WL.run tbOk 1 (acc := []) rfl (by repeat' (first | exact trivial | assumption | intro _ | apply And.intro | (refine not_i ?_; assumption) | (refine and_l ?_; assumption) | (refine and_i ?_ ?_) | decide | omega | (simp [vcs]; done) | (simp only [List.length_map]; omega))) ?_
    refine WL.nil ?_
    refine WQ.thenNormal ?_
    refine WC.ret ?_
    refine WQ.thenRet ?_
    cases h
    exact WQ.rets tbOk hR [] (.inl rfl) rfl rfl (Le.refl _) (by repeat' (first | exact trivial | refine ⟨rfl, ?_⟩)) rfl rfl rfl rfl
  · replace h := ite_f hc1 h
    refine WC.skip ?_
    refine WQ.thenNormal ?_
    refine WC.seq ?_
    refine WC.seq ?_
    refine WC.region ?_
    refine WL.run tbOk 1 (acc := []) rfl (by repeat' (first | exact trivial | assumption | intro _ | apply And.intro | (refine not_i ?_; assumption) | (refine and_l ?_; assumption) | (refine and_i ?_ ?_) | decide | omega | (simp [vcs]; done) | (simp only [List.length_map]; omega))) ?_
    refine WL.nil ?_
    refine WQ.thenNormal ?_
    refine WC.thenCut (X := Unit) (fun gG => ⟨[(3, .p 3 0), (2, .p 2 0)], [(2, .blk 27 [.v (.sl 1 (a.Words.map eStr)), .v (.sl 2 (a.Materials.map eApiMaterial)), .v (.sl 2 (a.Parts.map eApiComponent)), .v (.bool a.Incomplete)]), (3, .blk 27 [.v (.sl 1 (b.Words.map eStr)), .v (.sl 2 (b.Materials.map eApiMaterial)), .v (.sl 2 (b.Parts.map eApiComponent)), .v (.bool b.Incomplete)])]⟩) (fun gG => sameGood_j1 a b = some r) ?_ ?_
    · refine WC.block ?_
      obtain ⟨e1, hl1, hk1⟩ := bnd h
      clear h
      refine WC.loop (σ := Int) (τ := ((Bool) ⊕ (Unit))) (fun sS => ⟨[(5, .v (.int .i64 sS)), (3, .p 3 0), (2, .p 2 0)], [(2, .blk 27 [.v (.sl 1 (a.Words.map eStr)), .v (.sl 2 (a.Materials.map eApiMaterial)), .v (.sl 2 (a.Parts.map eApiComponent)), .v (.bool a.Incomplete)]), (3, .blk 27 [.v (.sl 1 (b.Words.map eStr)), .v (.sl 2 (b.Materials.map eApiMaterial)), .v (.sl 2 (b.Parts.map eApiComponent)), .v (.bool b.Incomplete)])]⟩) (sameGood_b1 a b) [] (0 : Int) hl1 ⟨(by repeat' (first | exact trivial | refine ⟨rfl, ?_⟩)), (by repeat' (first | exact trivial | refine ⟨rfl, ?_⟩)), rfl, rfl, rfl, rfl⟩ ?_
      intro i m hn1 he1 hx1
      obtain ⟨o1, hf1⟩ := some_of hx1
      have h := hf1
      unfold sameGood_b1 at h
      show WC _ _ _ ⟨[(5, .v (.int .i64 i)), (3, .p 3 0), (2, .p 2 0)], [(2, .blk 27 [.v (.sl 1 (a.Words.map eStr)), .v (.sl 2 (a.Materials.map eApiMaterial)), .v (.sl 2 (a.Parts.map eApiComponent)), .v (.bool a.Incomplete)]), (3, .blk 27 [.v (.sl 1 (b.Words.map eStr)), .v (.sl 2 (b.Materials.map eApiMaterial)), .v (.sl 2 (b.Parts.map eApiComponent)), .v (.bool b.Incomplete)])]⟩ _ _
      refine WC.seq ?_
      refine WC.seq ?_
      refine WC.region ?_
      refine WL.run tbOk 3 (acc := []) rfl (by repeat' (first | exact trivial | assumption | intro _ | apply And.intro | (refine not_i ?_; assumption) | (refine and_l ?_; assumption) | (refine and_i ?_ ?_) | decide | omega | (simp [vcs]; done) | (simp only [List.length_map]; omega))) ?_
      refine WL.q [] rfl rfl rfl (q_ev tbOk (.v (.int .i64 (a.Materials.length : Int))) rfl (by repeat' (first | exact trivial | assumption | intro _ | apply And.intro | (refine not_i ?_; assumption) | (refine and_l ?_; assumption) | (refine and_i ?_ ?_) | decide | omega | (simp [vcs]; done) | (simp only [List.length_map]; omega))) (by first | (simp only [List.length_map]; done) | (simp only [List.length_map]; rfl) | rfl)) ?_
      refine WL.run tbOk 1 (acc := []) rfl (by repeat' (first | exact trivial | assumption | intro _ | apply And.intro | (refine not_i ?_; assumption) | (refine and_l ?_; assumption) | (refine and_i ?_ ?_) | decide | omega | (simp [vcs]; done) | (simp only [List.length_map]; omega))) ?_
      refine WL.nil ?_
      refine WQ.thenNormal ?_
      refine WC.cond rfl (fun hc2 => ?_) (fun hc2 => ?_)
      · replace h := ite_t hc2 h
        refine WC.skip ?_
        refine WQ.thenNormal ?_
        refine WC.seq ?_
        refine WC.block ?_
        refine WC.seq ?_
        refine WC.order mixed ?_
        refine WR.run tbOk 3 (acc := []) rfl (by repeat' (first | exact trivial | assumption | intro _ | apply And.intro | (refine not_i ?_; assumption) | (refine and_l ?_; assumption) | (refine and_i ?_ ?_) | decide | omega | (simp [vcs]; done) | (simp only [List.length_map]; omega))) ?_
        obtain ⟨g1, h⟩ := grd h
        obtain ⟨x3, hxx3, h⟩ := bnd h
        refine WR.q [] rfl rfl rfl (q_idx tbOk rfl (by repeat' (first | exact trivial | assumption | intro _ | apply And.intro | (refine not_i ?_; assumption) | (refine and_l ?_; assumption) | (refine and_i ?_ ?_) | decide | omega | (simp [vcs]; done) | (simp only [List.length_map]; omega))) g1 (map_get (f := eApiMaterial) hxx3)) ?_
        refine WR.run tbOk 4 (acc := []) rfl (by repeat' (first | exact trivial | assumption | intro _ | apply And.intro | (refine not_i ?_; assumption) | (refine and_l ?_; assumption) | (refine and_i ?_ ?_) | decide | omega | (simp [vcs]; done) | (simp only [List.length_map]; omega))) ?_
        obtain ⟨g2, h⟩ := grd h
        obtain ⟨x4, hxx4, h⟩ := bnd h
        refine WR.q [] rfl rfl rfl (q_idx tbOk rfl (by repeat' (first | exact trivial | assumption | intro _ | apply And.intro | (refine not_i ?_; assumption) | (refine and_l ?_; assumption) | (refine and_i ?_ ?_) | decide | omega | (simp [vcs]; done) | (simp only [List.length_map]; omega))) g2 (map_get (f := eApiMaterial) hxx4)) ?_
        refine WR.run tbOk 1 (acc := []) rfl (by repeat' (first | exact trivial | assumption | intro _ | apply And.intro | (refine not_i ?_; assumption) | (refine and_l ?_; assumption) | (refine and_i ?_ ?_) | decide | omega | (simp [vcs]; done) | (simp only [List.length_map]; omega))) ?_
        refine WR.q [] rfl rfl rfl (q_eq rfl (by repeat' (first | exact trivial | assumption | intro _ | apply And.intro | (refine not_i ?_; assumption) | (refine and_l ?_; assumption) | (refine and_i ?_ ?_) | decide | omega | (simp [vcs]; done) | (simp only [List.length_map]; omega))) eg54 eqT54) ?_
        refine WR.nil (by kernel_rfl) ?_
        refine WQ.thenNormal ?_
        refine WC.cond rfl (fun hc3 => ?_) (fun hc3 => ?_)
        · replace h := ite_t hc3 h
          refine WC.seq ?_
          refine WC.region ?_
          refine WL.run tbOk 1 (acc := []) rfl (by repeat' (first | exact trivial | assumption | intro _ | apply And.intro | (refine not_i ?_; assumption) | (refine and_l ?_; assumption) | (refine and_i ?_ ?_) | decide | omega | (simp [vcs]; done) | (simp only [List.length_map]; omega))) ?_
          refine WL.nil ?_
          refine WQ.thenNormal ?_
          refine WC.ret ?_
          refine WQ.blockRet ?_
          refine WQ.thenRet ?_
          cases h
          have he := he1 _ hf1
          subst he
          have h : some false = some _ := hk1
          refine WQ.thenRet ?_
          refine WQ.blockRet ?_
          refine WQ.thenRet ?_
          cases h
          exact WQ.rets tbOk hR [] (.inl rfl) rfl rfl (Le.refl _) (by repeat' (first | exact trivial | refine ⟨rfl, ?_⟩)) rfl rfl rfl rfl
        · replace h := ite_f hc3 h
          refine WC.skip ?_
          refine WQ.blockNormal ?_
          refine WQ.thenNormal ?_
          refine WC.region ?_
          refine WL.run tbOk 3 (acc := []) rfl (by repeat' (first | exact trivial | assumption | intro _ | apply And.intro | (refine not_i ?_; assumption) | (refine and_l ?_; assumption) | (refine and_i ?_ ?_) | decide | omega | (simp [vcs]; done) | (simp only [List.length_map]; omega))) ?_
          refine WL.nil ?_
          cases h
          exact WQ.next [] (IntKind.i64.wrap (i + (1 : Int))) ⟨(by repeat' (first | exact trivial | refine ⟨rfl, ?_⟩)), (by repeat' (first | exact trivial | refine ⟨rfl, ?_⟩)), rfl, rfl, rfl, rfl⟩ (hn1 _ hf1)
      · replace h := ite_f hc2 h
        refine WC.exit ?_
        refine WQ.thenExit ?_
        cases h
        have he := he1 _ hf1
        subst he
        replace h := hk1
        try dsimp only at h
        refine WQ.thenExit ?_
        refine WQ.blockExit ?_
        exact WQ.cut [] () ⟨(by repeat' (first | exact trivial | refine ⟨rfl, ?_⟩)), (by repeat' (first | exact trivial | refine ⟨rfl, ?_⟩)), rfl, rfl, rfl, rfl⟩ h
    · intro _ h
      replace h : sameGood_j1 a b = some _ := h
      unfold sameGood_j1 at h
      show WC _ _ _ ⟨[(3, .p 3 0), (2, .p 2 0)], [(2, .blk 27 [.v (.sl 1 (a.Words.map eStr)), .v (.sl 2 (a.Materials.map eApiMaterial)), .v (.sl 2 (a.Parts.map eApiComponent)), .v (.bool a.Incomplete)]), (3, .blk 27 [.v (.sl 1 (b.Words.map eStr)), .v (.sl 2 (b.Materials.map eApiMaterial)), .v (.sl 2 (b.Parts.map eApiComponent)), .v (.bool b.Incomplete)])]⟩ _ _
      refine WC.seq ?_
      refine WC.region ?_
      refine WL.run tbOk 4 (acc := []) rfl (by repeat' (first | exact trivial | assumption | intro _ | apply And.intro | (refine not_i ?_; assumption) | (refine and_l ?_; assumption) | (refine and_i ?_ ?_) | decide | omega | (simp [vcs]; done) | (simp only [List.length_map]; omega))) ?_
      obtain ⟨v2, hvv2, h⟩ := bnd h
      refine WL.call0 fn38 rfl rfl rfl rfl (by repeat' (first | exact trivial | assumption | intro _ | apply And.intro | (refine not_i ?_; assumption) | (refine and_l ?_; assumption) | (refine and_i ?_ ?_) | decide | omega | (simp [vcs]; done) | (simp only [List.length_map]; omega))) rfl (sameParts_con hw hvv2) ?_
      refine WL.run tbOk 1 (acc := []) rfl (by repeat' (first | exact trivial | assumption | intro _ | apply And.intro | (refine not_i ?_; assumption) | (refine and_l ?_; assumption) | (refine and_i ?_ ?_) | decide | omega | (simp [vcs]; done) | (simp only [List.length_map]; omega))) ?_
      refine WL.nil ?_
      refine WQ.thenNormal ?_
      refine WC.ret ?_
      cases h
      exact WQ.rets tbOk hR [] (.inl rfl) rfl rfl (Le.refl _) (by repeat' (first | exact trivial | refine ⟨rfl, ?_⟩)) rfl rfl rfl rfl

theorem r08Split_con {wg : World} (hw : WG wg) {s : Str} {by_ : Int} {r : (List Str)} (h : r08Split s by_ = some r) : Con Tryz.prog wg gl 40 [.v (.str s), .v (.int .u8 by_)] [] (.v (.sl 1 (r.map eStr))) [] := by
  unfold r08Split at h
  refine con_of_WC (S := slotsOf 0 _) Tryz.func40 rfl Tryz.ntmps40 rfl (fun t x hx => (slotsOf_get hx).2) ?_
  intro F L w ρ0 R hR
  show WC _ _ _ ⟨[(0, .v (.str s)), (1, .v (.int .u8 by_))], []⟩ _ _
  refine WC.seq ?_
  refine WC.region ?_
  refine WL.run tbOk 1 (acc := []) rfl (by repeat' (first | exact trivial | assumption | intro _ | apply And.intro | (refine not_i ?_; assumption) | (refine and_l ?_; assumption) | (refine and_i ?_ ?_) | decide | omega | (simp [vcs]; done) | (simp only [List.length_map]; omega))) ?_
  refine WL.nil ?_
  refine WQ.thenNormal ?_
  refine WC.seq ?_
  refine WC.region ?_
  refine WL.run tbOk 1 (acc := []) rfl (by repeat' (first | exact trivial | assumption | intro _ | apply And.intro | (refine not_i ?_; assumption) | (refine and_l ?_; assumption) | (refine and_i ?_ ?_) | decide | omega | (simp [vcs]; done) | (simp only [List.length_map]; omega))) ?_
  refine WL.nil ?_
  refine WQ.thenNormal ?_
  refine WC.seq ?_
  refine WC.region ?_
  refine WL.run tbOk 1 (acc := []) rfl (by repeat' (first | exact trivial | assumption | intro _ | apply And.intro | (refine not_i ?_; assumption) | (refine and_l ?_; assumption) | (refine and_i ?_ ?_) | decide | omega | (simp [vcs]; done) | (simp only [List.length_map]; omega))) ?_
  refine WL.nil ?_
  refine WQ.thenNormal ?_
  refine WC.seq ?_
  refine WC.seq ?_
  refine WC.region ?_
  refine WL.run tbOk 1 (acc := []) rfl (by repeat' (first | exact trivial | assumption | intro _ | apply And.intro | (refine not_i ?_; assumption) | (refine and_l ?_; assumption) | (refine and_i ?_ ?_) | decide | omega | (simp [vcs]; done) | (simp only [List.length_map]; omega))) ?_
  refine WL.nil ?_
  refine WQ.thenNormal ?_
  refine WC.thenCut (X := (List Str)) (fun gG => ⟨[(5, .r 1005)], [(1005, .row 9 1 (gG.map eStr))]⟩) (fun gG => r08Split_j1 gG = some r) ?_ ?_
  · refine WC.block ?_
    obtain ⟨e1, hl1, hk1⟩ := bnd h
    clear h
    refine WC.rowNil 5 1005 9 1 rfl rfl ?_
    refine WC.loop (σ := Int × Int × (List Str)) (τ := ((List Str))) (fun sS => ⟨[(7, .v (.int .i64 sS.1)), (6, .v (.int .i64 sS.2.1)), (5, .r 1005), (0, .v (.str s)), (1, .v (.int .u8 by_))], [(1005, .row 9 1 (sS.2.2.map eStr))]⟩) (r08Split_b1 s by_) [] ((0 : Int), (0 : Int), []) hl1 ⟨(by repeat' (first | exact trivial | refine ⟨rfl, ?_⟩)), (by repeat' (first | exact trivial | refine ⟨rfl, ?_⟩)), rfl, rfl, rfl, rfl⟩ ?_
    rintro ⟨i2, from_3, out3⟩ m hn1 he1 hx1
    obtain ⟨o1, hf1⟩ := some_of hx1
    have h := hf1
    unfold r08Split_b1 at h
    show WC _ _ _ ⟨[(7, .v (.int .i64 i2)), (6, .v (.int .i64 from_3)), (5, .r 1005), (0, .v (.str s)), (1, .v (.int .u8 by_))], [(1005, .row 9 1 (out3.map eStr))]⟩ _ _
    refine WC.seq ?_
    refine WC.seq ?_
    refine WC.region ?_
    refine WL.run tbOk 4 (acc := []) rfl (by repeat' (first | exact trivial | assumption | intro _ | apply And.intro | (refine not_i ?_; assumption) | (refine and_l ?_; assumption) | (refine and_i ?_ ?_) | decide | omega | (simp [vcs]; done) | (simp only [List.length_map]; omega))) ?_
    refine WL.nil ?_
    refine WQ.thenNormal ?_
    refine WC.cond rfl (fun hc1 => ?_) (fun hc1 => ?_)
    · replace h := ite_t hc1 h
      refine WC.skip ?_
      refine WQ.thenNormal ?_
      refine WC.seq ?_
      refine WC.thenCut (X := Int × (List Str)) (fun gG => ⟨[(6, .v (.int .i64 gG.1)), (5, .r 1005), (7, .v (.int .i64 i2)), (0, .v (.str s)), (1, .v (.int .u8 by_))], [(1005, .row 9 1 (gG.2.map eStr))]⟩) (fun gG => r08Split_j2 s by_ i2 gG.1 gG.2 = some o1) ?_ ?_
      · refine WC.block ?_
        refine WC.seq ?_
        refine WC.region ?_
        obtain ⟨g1, h⟩ := grd h
        refine WL.run tbOk 11 (acc := []) rfl (by repeat' (first | exact trivial | assumption | intro _ | exact g1 (by assumption) | apply And.intro | (refine not_i ?_; assumption) | (refine and_l ?_; assumption) | (refine and_i ?_ ?_) | decide | omega | (simp [vcs]; done) | (simp only [List.length_map]; omega))) ?_
        refine WL.nil ?_
        refine WQ.thenNormal ?_
        refine WC.cond rfl (fun hc2 => ?_) (fun hc2 => ?_)
        · replace h := ite_t hc2 h
          refine WC.seq ?_
          refine WC.region ?_
          obtain ⟨g2, h⟩ := grd h
          refine WL.run tbOk 6 (acc := []) rfl (by repeat' (first | exact trivial | assumption | intro _ | exact g2 (by assumption) | apply And.intro | (refine not_i ?_; assumption) | (refine and_l ?_; assumption) | (refine and_i ?_ ?_) | decide | omega | (simp [vcs]; done) | (simp only [List.length_map]; omega))) ?_
          obtain ⟨g3, h⟩ := grd h
          refine WL.append tbOk ((out3 ++ [((s.take i2.toNat).drop from_3.toNat)]).map eStr) [31, 1005] ap23 rfl rfl rfl rfl (fun _ e => by cases e; rfl) (by repeat' (first | exact trivial | assumption | intro _ | apply And.intro | (refine not_i ?_; assumption) | (refine and_l ?_; assumption) | (refine and_i ?_ ?_) | decide | omega | (simp [vcs]; done) | (simp only [List.length_map]; omega))) (map_cells (f := eStr) (xs := [((s.take i2.toNat).drop from_3.toNat)]) fun _ => rfl) (by have := g3; simp only [List.length_map, List.length_nil, List.length_cons] at this ⊢; omega) rfl rfl (by simp only [List.map_append]; try rfl) rfl ?_
          refine WL.run tbOk 1 (acc := []) rfl (by repeat' (first | exact trivial | assumption | intro _ | apply And.intro | (refine not_i ?_; assumption) | (refine and_l ?_; assumption) | (refine and_i ?_ ?_) | decide | omega | (simp [vcs]; done) | (simp only [List.length_map]; omega))) ?_
          refine WL.nil ?_
          refine WQ.thenNormal ?_
          refine WC.region ?_
          refine WL.run tbOk 3 (acc := []) rfl (by repeat' (first | exact trivial | assumption | intro _ | apply And.intro | (refine not_i ?_; assumption) | (refine and_l ?_; assumption) | (refine and_i ?_ ?_) | decide | omega | (simp [vcs]; done) | (simp only [List.length_map]; omega))) ?_
          refine WL.nil ?_
          refine WQ.blockNormal ?_
          exact WQ.cut [(1005, 31)] ((IntKind.i64.wrap (i2 + (1 : Int))), (out3 ++ [((s.take i2.toNat).drop from_3.toNat)])) ⟨(by repeat' (first | exact trivial | refine ⟨rfl, ?_⟩)), (by repeat' (first | exact trivial | refine ⟨rfl, ?_⟩)), rfl, rfl, rfl, rfl⟩ h
        · replace h := ite_f hc2 h
          refine WC.skip ?_
          refine WQ.blockNormal ?_
          exact WQ.cut [] (from_3, out3) ⟨(by repeat' (first | exact trivial | refine ⟨rfl, ?_⟩)), (by repeat' (first | exact trivial | refine ⟨rfl, ?_⟩)), rfl, rfl, rfl, rfl⟩ h
      · rintro ⟨from_5, out6⟩ h
        replace h : r08Split_j2 s by_ i2 from_5 out6 = some _ := h
        unfold r08Split_j2 at h
        show WC _ _ _ ⟨[(6, .v (.int .i64 from_5)), (5, .r 1005), (7, .v (.int .i64 i2)), (0, .v (.str s)), (1, .v (.int .u8 by_))], [(1005, .row 9 1 (out6.map eStr))]⟩ _ _
        refine WC.region ?_
        refine WL.run tbOk 3 (acc := []) rfl (by repeat' (first | exact trivial | assumption | intro _ | apply And.intro | (refine not_i ?_; assumption) | (refine and_l ?_; assumption) | (refine and_i ?_ ?_) | decide | omega | (simp [vcs]; done) | (simp only [List.length_map]; omega))) ?_
        refine WL.nil ?_
        cases h
        exact WQ.next [] ((IntKind.i64.wrap (i2 + (1 : Int))), from_5, out6) ⟨(by repeat' (first | exact trivial | refine ⟨rfl, ?_⟩)), (by repeat' (first | exact trivial | refine ⟨rfl, ?_⟩)), rfl, rfl, rfl, rfl⟩ (hn1 _ hf1)
    · replace h := ite_f hc1 h
      refine WC.exit ?_
      refine WQ.thenExit ?_
      cases h
      have he := he1 _ hf1
      subst he
      replace h := hk1
      try dsimp only at h
      refine WQ.thenExit ?_
      refine WQ.blockExit ?_
      exact WQ.cut [] out3 ⟨(by repeat' (first | exact trivial | refine ⟨rfl, ?_⟩)), (by repeat' (first | exact trivial | refine ⟨rfl, ?_⟩)), rfl, rfl, rfl, rfl⟩ h
  · intro out h
    replace h : r08Split_j1 out = some _ := h
    unfold r08Split_j1 at h
    show WC _ _ _ ⟨[(5, .r 1005)], [(1005, .row 9 1 (out.map eStr))]⟩ _ _
    refine WC.seq ?_
    refine WC.region ?_
    refine WL.run tbOk 2 (acc := []) rfl (by repeat' (first | exact trivial | assumption | intro _ | apply And.intro | (refine not_i ?_; assumption) | (refine and_l ?_; assumption) | (refine and_i ?_ ?_) | decide | omega | (simp [vcs]; done) | (simp only [List.length_map]; omega))) ?_
    refine WL.nil ?_
    refine WQ.thenNormal ?_
    refine WC.ret ?_
    refine WQ.publish 1005 rfl rfl ?_
    cases h
    exact WQ.rets tbOk hR [] (.inl rfl) rfl rfl (Le.refl _) (by repeat' (first | exact trivial | refine ⟨rfl, ?_⟩)) rfl rfl rfl rfl

theorem r08Num_con {wg : World} (hw : WG wg) {s : Str} {r : Int} (h : r08Num s = some r) : Con Tryz.prog wg gl 41 [.v (.str s)] [] (.v (.int .i64 r)) [] := by
  unfold r08Num at h
  refine con_of_WC (S := slotsOf 0 _) Tryz.func41 rfl Tryz.ntmps41 rfl (fun t x hx => (slotsOf_get hx).2) ?_
  intro F L w ρ0 R hR
  show WC _ _ _ ⟨[(0, .v (.str s))], []⟩ _ _
  refine WC.seq ?_
  refine WC.region ?_
  refine WL.run tbOk 1 (acc := []) rfl (by repeat' (first | exact trivial | assumption | intro _ | apply And.intro | (refine not_i ?_; assumption) | (refine and_l ?_; assumption) | (refine and_i ?_ ?_) | decide | omega | (simp [vcs]; done) | (simp only [List.length_map]; omega))) ?_
  refine WL.nil ?_
  refine WQ.thenNormal ?_
  refine WC.seq ?_
  refine WC.region ?_
  refine WL.run tbOk 1 (acc := []) rfl (by repeat' (first | exact trivial | assumption | intro _ | apply And.intro | (refine not_i ?_; assumption) | (refine and_l ?_; assumption) | (refine and_i ?_ ?_) | decide | omega | (simp [vcs]; done) | (simp only [List.length_map]; omega))) ?_
  refine WL.nil ?_
  refine WQ.thenNormal ?_
  refine WC.seq ?_
  refine WC.seq ?_
  refine WC.region ?_
  refine WL.run tbOk 1 (acc := []) rfl (by repeat' (first | exact trivial | assumption | intro _ | apply And.intro | (refine not_i ?_; assumption) | (refine and_l ?_; assumption) | (refine and_i ?_ ?_) | decide | omega | (simp [vcs]; done) | (simp only [List.length_map]; omega))) ?_
  refine WL.nil ?_
  refine WQ.thenNormal ?_
  refine WC.thenCut (X := Int) (fun gG => ⟨[(3, .v (.int .i64 gG))], []⟩) (fun gG => r08Num_j1 gG = some r) ?_ ?_
  · refine WC.block ?_
    obtain ⟨e1, hl1, hk1⟩ := bnd h
    clear h
    refine WC.loop (σ := Int × Int) (τ := ((Int) ⊕ (Int))) (fun sS => ⟨[(4, .v (.int .i64 sS.1)), (3, .v (.int .i64 sS.2)), (0, .v (.str s))], []⟩) (r08Num_b1 s) [] ((0 : Int), (0 : Int)) hl1 ⟨(by repeat' (first | exact trivial | refine ⟨rfl, ?_⟩)), (by repeat' (first | exact trivial | refine ⟨rfl, ?_⟩)), rfl, rfl, rfl, rfl⟩ ?_
    rintro ⟨i, n12⟩ m hn1 he1 hx1
    obtain ⟨o1, hf1⟩ := some_of hx1
    have h := hf1
    unfold r08Num_b1 at h
    show WC _ _ _ ⟨[(4, .v (.int .i64 i)), (3, .v (.int .i64 n12)), (0, .v (.str s))], []⟩ _ _
    refine WC.seq ?_
    refine WC.seq ?_
    refine WC.region ?_
    refine WL.run tbOk 4 (acc := []) rfl (by repeat' (first | exact trivial | assumption | intro _ | apply And.intro | (refine not_i ?_; assumption) | (refine and_l ?_; assumption) | (refine and_i ?_ ?_) | decide | omega | (simp [vcs]; done) | (simp only [List.length_map]; omega))) ?_
    refine WL.nil ?_
    refine WQ.thenNormal ?_
    refine WC.cond rfl (fun hc1 => ?_) (fun hc1 => ?_)
    · replace h := ite_t hc1 h
      refine WC.skip ?_
      refine WQ.thenNormal ?_
      refine WC.seq ?_
      refine WC.block ?_
      refine WC.seq ?_
      refine WC.seq ?_
      refine WC.region ?_
      obtain ⟨g1, h⟩ := grd h
      obtain ⟨g2, h⟩ := grd h
      refine WL.run tbOk 14 (acc := []) rfl (by repeat' (first | exact trivial | assumption | intro _ | exact g1 (by assumption) | exact g2 (by assumption) | apply And.intro | (refine not_i ?_; assumption) | (refine and_l ?_; assumption) | (refine and_i ?_ ?_) | decide | omega | (simp [vcs]; done) | (simp only [List.length_map]; omega))) ?_
      refine WL.nil ?_
      refine WQ.thenNormal ?_
      refine WC.cond rfl (fun hc2 => ?_) (fun hc2 => ?_)
      · replace h := ite_t hc2 h
        refine WC.seq ?_
        refine WC.region ?_
        refine WL.run tbOk 1 (acc := []) rfl (by repeat' (first | exact trivial | assumption | intro _ | apply And.intro | (refine not_i ?_; assumption) | (refine and_l ?_; assumption) | (refine and_i ?_ ?_) | decide | omega | (simp [vcs]; done) | (simp only [List.length_map]; omega))) ?_
        refine WL.nil ?_
        refine WQ.thenNormal ?_
        refine WC.ret ?_
        refine WQ.thenRet ?_
        refine WQ.blockRet ?_
        refine WQ.thenRet ?_
        cases h
        have he := he1 _ hf1
        subst he
        have h : some (-1 : Int) = some _ := hk1
        refine WQ.thenRet ?_
        refine WQ.blockRet ?_
        refine WQ.thenRet ?_
        cases h
        exact WQ.rets tbOk hR [] (.inl rfl) rfl rfl (Le.refl _) (by repeat' (first | exact trivial | refine ⟨rfl, ?_⟩)) rfl rfl rfl rfl
      · replace h := ite_f hc2 h
        refine WC.skip ?_
        refine WQ.thenNormal ?_
        refine WC.region ?_
        obtain ⟨g3, h⟩ := grd h
        refine WL.run tbOk 9 (acc := []) rfl (by repeat' (first | exact trivial | assumption | intro _ | exact g3 (by assumption) | apply And.intro | (refine not_i ?_; assumption) | (refine and_l ?_; assumption) | (refine and_i ?_ ?_) | decide | omega | (simp [vcs]; done) | (simp only [List.length_map]; omega))) ?_
        refine WL.nil ?_
        refine WQ.blockNormal ?_
        refine WQ.thenNormal ?_
        refine WC.region ?_
        refine WL.run tbOk 3 (acc := []) rfl (by repeat' (first | exact trivial | assumption | intro _ | apply And.intro | (refine not_i ?_; assumption) | (refine and_l ?_; assumption) | (refine and_i ?_ ?_) | decide | omega | (simp [vcs]; done) | (simp only [List.length_map]; omega))) ?_
        refine WL.nil ?_
        cases h
        exact WQ.next [] ((IntKind.i64.wrap (i + (1 : Int))), (IntKind.i64.wrap ((IntKind.i64.wrap ((10 : Int) * n12)) + (IntKind.i64.wrap (IntKind.u8.wrap (((s.getD i.toNat 0).toNat : Int) - (48 : Int))))))) ⟨(by repeat' (first | exact trivial | refine ⟨rfl, ?_⟩)), (by repeat' (first | exact trivial | refine ⟨rfl, ?_⟩)), rfl, rfl, rfl, rfl⟩ (hn1 _ hf1)
    · replace h := ite_f hc1 h
      refine WC.exit ?_
      refine WQ.thenExit ?_
      cases h
      have he := he1 _ hf1
      subst he
      replace h := hk1
      try dsimp only at h
      refine WQ.thenExit ?_
      refine WQ.blockExit ?_
      exact WQ.cut [] n12 ⟨(by repeat' (first | exact trivial | refine ⟨rfl, ?_⟩)), (by repeat' (first | exact trivial | refine ⟨rfl, ?_⟩)), rfl, rfl, rfl, rfl⟩ h
  · intro n1 h
    replace h : r08Num_j1 n1 = some _ := h
    unfold r08Num_j1 at h
    show WC _ _ _ ⟨[(3, .v (.int .i64 n1))], []⟩ _ _
    refine WC.seq ?_
    refine WC.region ?_
    refine WL.run tbOk 2 (acc := []) rfl (by repeat' (first | exact trivial | assumption | intro _ | apply And.intro | (refine not_i ?_; assumption) | (refine and_l ?_; assumption) | (refine and_i ?_ ?_) | decide | omega | (simp [vcs]; done) | (simp only [List.length_map]; omega))) ?_
    refine WL.nil ?_
    refine WQ.thenNormal ?_
    refine WC.ret ?_
    cases h
    exact WQ.rets tbOk hR [] (.inl rfl) rfl rfl (Le.refl _) (by repeat' (first | exact trivial | refine ⟨rfl, ?_⟩)) rfl rfl rfl rfl

theorem refParseGood_con {wg : World} (hw : WG wg) {a0 : Str} {r : ApiGood × Int} (h : refParseGood a0 = some r) : Con Tryz.prog wg gl 14 [.v (.str a0)] [] (.tup [.v (.agg [.sl 1 (r.1.Words.map eStr), .sl 2 (r.1.Materials.map eApiMaterial), .sl 2 (r.1.Parts.map eApiComponent), .bool r.1.Incomplete]), .v (.int .i64 r.2)]) [] := by
  unfold refParseGood at h
  refine con_of_WC (S := slotsOf 0 _) Tryz.func14 rfl Tryz.ntmps14 rfl (fun t x hx => (slotsOf_get hx).2) ?_
  intro F L w ρ0 R hR
  show WC _ _ _ ⟨[(0, .v (.str a0))], []⟩ _ _
  refine WC.seq ?_
  refine WC.region ?_
  refine WL.run tbOk 2 (acc := []) rfl (by repeat' (first | exact trivial | assumption | intro _ | apply And.intro | (refine not_i ?_; assumption) | (refine and_l ?_; assumption) | (refine and_i ?_ ?_) | decide | omega | (simp [vcs]; done) | (simp only [List.length_map]; omega))) ?_
  refine WL.nil ?_
  refine WQ.thenNormal ?_
  refine WC.seq ?_
  refine WC.region ?_
  refine WL.run tbOk 3 (acc := []) rfl (by repeat' (first | exact trivial | assumption | intro _ | apply And.intro | (refine not_i ?_; assumption) | (refine and_l ?_; assumption) | (refine and_i ?_ ?_) | decide | omega | (simp [vcs]; done) | (simp only [List.length_map]; omega))) ?_
  refine WL.nil ?_
  refine WQ.thenNormal ?_
  refine WC.seq ?_
  refine WC.region ?_
  refine WL.run tbOk 1 (acc := []) rfl (by repeat' (first | exact trivial | assumption | intro _ | apply And.intro | (refine not_i ?_; assumption) | (refine and_l ?_; assumption) | (refine and_i ?_ ?_) | decide | omega | (simp [vcs]; done) | (simp only [List.length_map]; omega))) ?_
  obtain ⟨v, hvv, h⟩ := bnd h
  refine WL.call0 fn40 rfl rfl rfl rfl (by repeat' (first | exact trivial | assumption | intro _ | apply And.intro | (refine not_i ?_; assumption) | (refine and_l ?_; assumption) | (refine and_i ?_ ?_) | decide | omega | (simp [vcs]; done) | (simp only [List.length_map]; omega))) rfl (r08Split_con hw hvv) ?_
  refine WL.run tbOk 1 (acc := []) rfl (by repeat' (first | exact trivial | assumption | intro _ | apply And.intro | (refine not_i ?_; assumption) | (refine and_l ?_; assumption) | (refine and_i ?_ ?_) | decide | omega | (simp [vcs]; done) | (simp only [List.length_map]; omega))) ?_
  refine WL.nil ?_
  refine WQ.thenNormal ?_
  refine WC.seq ?_
  refine WC.region ?_
  refine WL.run tbOk 1 (acc := []) rfl (by repeat' (first | exact trivial | assumption | intro _ | apply And.intro | (refine not_i ?_; assumption) | (refine and_l ?_; assumption) | (refine and_i ?_ ?_) | decide | omega | (simp [vcs]; done) | (simp only [List.length_map]; omega))) ?_
  obtain ⟨x, hxx, h⟩ := bnd h
  refine WL.q [] rfl rfl rfl (q_idx tbOk rfl (by repeat' (first | exact trivial | assumption | intro _ | apply And.intro | (refine not_i ?_; assumption) | (refine and_l ?_; assumption) | (refine and_i ?_ ?_) | decide | omega | (simp [vcs]; done) | (simp only [List.length_map]; omega))) (by decide) (map_get (f := eStr) hxx)) ?_
  refine WL.run tbOk 1 (acc := []) rfl (by repeat' (first | exact trivial | assumption | intro _ | apply And.intro | (refine not_i ?_; assumption) | (refine and_l ?_; assumption) | (refine and_i ?_ ?_) | decide | omega | (simp [vcs]; done) | (simp only [List.length_map]; omega))) ?_
  obtain ⟨v2, hvv2, h⟩ := bnd h
  refine WL.call0 fn40 rfl rfl rfl rfl (by repeat' (first | exact trivial | assumption | intro _ | apply And.intro | (refine not_i ?_; assumption) | (refine and_l ?_; assumption) | (refine and_i ?_ ?_) | decide | omega | (simp [vcs]; done) | (simp only [List.length_map]; omega))) rfl (r08Split_con hw hvv2) ?_
  refine WL.run tbOk 2 (acc := []) rfl (by repeat' (first | exact trivial | assumption | intro _ | apply And.intro | (refine not_i ?_; assumption) | (refine and_l ?_; assumption) | (refine and_i ?_ ?_) | decide | omega | (simp [vcs]; done) | (simp only [List.length_map]; omega))) ?_
  refine WL.nil ?_
  refine WQ.thenNormal ?_
  refine WC.seq ?_
  refine WC.seq ?_
  refine WC.region ?_
  refine WL.run tbOk 1 (acc := []) rfl (by repeat' (first | exact trivial | assumption | intro _ | apply And.intro | (refine not_i ?_; assumption) | (refine and_l ?_; assumption) | (refine and_i ?_ ?_) | decide | omega | (simp [vcs]; done) | (simp only [List.length_map]; omega))) ?_
  refine WL.nil ?_
  refine WQ.thenNormal ?_
  refine WC.thenCut (X := (List ApiMaterial) × (List ApiComponent) × Bool) (fun gG => ⟨[(4, .p 4 0), (2, .p 2 0), (0, .v (.str a0))], [(2, .blk 27 [.v (.raw (.slice none 0 0)), .v (.raw (.slice none 0 0)), .v (.raw (.slice none 0 0)), .v (.bool false)]), (2201, .row 54 2 (gG.1.map eApiMaterial)), (2202, .row 56 2 (gG.2.1.map eApiComponent)), (4, .blk 27 [.v (.sl 1 (v2.map eStr)), .r 2201, .r 2202, .v (.bool gG.2.2)])]⟩) (fun gG => refParseGood_j1 a0 v2 gG.1 gG.2.1 gG.2.2 = some r) ?_ ?_
  · refine WC.block ?_
    obtain ⟨e1, hl1, hk1⟩ := bnd h
    clear h
    refine WC.rowNilB 4 1 2201 54 2 rfl rfl rfl (cs2 := [.v (.sl 1 (v2.map eStr)), .r 2201, .v (.raw (.slice none 0 0)), .v (.bool false)]) rfl ?_
    refine WC.rowNilB 4 2 2202 56 2 rfl rfl rfl (cs2 := [.v (.sl 1 (v2.map eStr)), .r 2201, .r 2202, .v (.bool false)]) rfl ?_
    refine WC.loop (σ := Int × (List ApiMaterial) × (List ApiComponent) × Bool) (τ := ((ApiGood × Int) ⊕ ((List ApiMaterial) × (List ApiComponent) × Bool))) (fun sS => ⟨[(6, .v (.int .i64 sS.1)), (5, .v (.sl 1 (v.map eStr))), (4, .p 4 0), (2, .p 2 0), (0, .v (.str a0))], [(2, .blk 27 [.v (.raw (.slice none 0 0)), .v (.raw (.slice none 0 0)), .v (.raw (.slice none 0 0)), .v (.bool false)]), (2201, .row 54 2 (sS.2.1.map eApiMaterial)), (2202, .row 56 2 (sS.2.2.1.map eApiComponent)), (4, .blk 27 [.v (.sl 1 (v2.map eStr)), .r 2201, .r 2202, .v (.bool sS.2.2.2)])]⟩) (refParseGood_b1 a0 v v2) [] ((1 : Int), [], [], false) hl1 ⟨(by repeat' (first | exact trivial | refine ⟨rfl, ?_⟩)), (by repeat' (first | exact trivial | refine ⟨rfl, ?_⟩)), rfl, rfl, rfl, rfl⟩ ?_
    rintro ⟨t62, c4_18, c4_28, c4_34⟩ m hn1 he1 hx1
    obtain ⟨o1, hf1⟩ := some_of hx1
    have h := hf1
    unfold refParseGood_b1 at h
    show WC _ _ _ ⟨[(6, .v (.int .i64 t62)), (5, .v (.sl 1 (v.map eStr))), (4, .p 4 0), (2, .p 2 0), (0, .v (.str a0))], [(2, .blk 27 [.v (.raw (.slice none 0 0)), .v (.raw (.slice none 0 0)), .v (.raw (.slice none 0 0)), .v (.bool false)]), (2201, .row 54 2 (c4_18.map eApiMaterial)), (2202, .row 56 2 (c4_28.map eApiComponent)), (4, .blk 27 [.v (.sl 1 (v2.map eStr)), .r 2201, .r 2202, .v (.bool c4_34)])]⟩ _ _
    refine WC.seq ?_
    refine WC.seq ?_
    refine WC.region ?_
    refine WL.run tbOk 2 (acc := []) rfl (by repeat' (first | exact trivial | assumption | intro _ | apply And.intro | (refine not_i ?_; assumption) | (refine and_l ?_; assumption) | (refine and_i ?_ ?_) | decide | omega | (simp [vcs]; done) | (simp only [List.length_map]; omega))) ?_
    refine WL.q [] rfl rfl rfl (q_ev tbOk (.v (.int .i64 (v.length : Int))) rfl (by repeat' (first | exact trivial | assumption | intro _ | apply And.intro | (refine not_i ?_; assumption) | (refine and_l ?_; assumption) | (refine and_i ?_ ?_) | decide | omega | (simp [vcs]; done) | (simp only [List.length_map]; omega))) (by first | (simp only [List.length_map]; done) | (simp only [List.length_map]; rfl) | rfl)) ?_
    refine WL.run tbOk 1 (acc := []) rfl (by repeat' (first | exact trivial | assumption | intro _ | apply And.intro | (refine not_i ?_; assumption) | (refine and_l ?_; assumption) | (refine and_i ?_ ?_) | decide | omega | (simp [vcs]; done) | (simp only [List.length_map]; omega))) ?_
    refine WL.nil ?_
    refine WQ.thenNormal ?_
    refine WC.cond rfl (fun hc2 => ?_) (fun hc2 => ?_)
    · replace h := ite_t hc2 h
      refine WC.skip ?_
      refine WQ.thenNormal ?_
      refine WC.seq ?_
      refine WC.thenCut (X := (List ApiMaterial) × (List ApiComponent) × Bool) (fun gG => ⟨[(6, .v (.int .i64 t62)), (5, .v (.sl 1 (v.map eStr))), (4, .p 4 0), (2, .p 2 0), (0, .v (.str a0))], [(2, .blk 27 [.v (.raw (.slice none 0 0)), .v (.raw (.slice none 0 0)), .v (.raw (.slice none 0 0)), .v (.bool false)]), (2201, .row 54 2 (gG.1.map eApiMaterial)), (2202, .row 56 2 (gG.2.1.map eApiComponent)), (4, .blk 27 [.v (.sl 1 (v2.map eStr)), .r 2201, .r 2202, .v (.bool gG.2.2)])]⟩) (fun gG => refParseGood_j2 a0 v v2 t62 gG.1 gG.2.1 gG.2.2 = some o1) ?_ ?_
      · refine WC.block ?_
        refine WC.seq ?_
        refine WC.seq ?_
        refine WC.region ?_
        refine WL.run tbOk 2 (acc := []) rfl (by repeat' (first | exact trivial | assumption | intro _ | apply And.intro | (refine not_i ?_; assumption) | (refine and_l ?_; assumption) | (refine and_i ?_ ?_) | decide | omega | (simp [vcs]; done) | (simp only [List.length_map]; omega))) ?_
        obtain ⟨g1, h⟩ := grd h
        obtain ⟨x38, hxx38, h⟩ := bnd h
        refine WL.q [] rfl rfl rfl (q_idx tbOk rfl (by repeat' (first | exact trivial | assumption | intro _ | apply And.intro | (refine not_i ?_; assumption) | (refine and_l ?_; assumption) | (refine and_i ?_ ?_) | decide | omega | (simp [vcs]; done) | (simp only [List.length_map]; omega))) g1 (map_get (f := eStr) hxx38)) ?_
        refine WL.run tbOk 2 (acc := []) rfl (by repeat' (first | exact trivial | assumption | intro _ | apply And.intro | (refine not_i ?_; assumption) | (refine and_l ?_; assumption) | (refine and_i ?_ ?_) | decide | omega | (simp [vcs]; done) | (simp only [List.length_map]; omega))) ?_
        refine WL.nil ?_
        refine WQ.thenNormal ?_
        refine WC.cond rfl (fun hc3 => ?_) (fun hc3 => ?_)
        · replace h := ite_t hc3 h
          refine WC.seq ?_
          refine WC.region ?_
          refine WL.run tbOk 2 (acc := []) rfl (by repeat' (first | exact trivial | assumption | intro _ | apply And.intro | (refine not_i ?_; assumption) | (refine and_l ?_; assumption) | (refine and_i ?_ ?_) | decide | omega | (simp [vcs]; done) | (simp only [List.length_map]; omega))) ?_
          refine WL.nil ?_
          refine WQ.thenNormal ?_
          refine WC.exit ?_
          refine WQ.thenExit ?_
          refine WQ.blockExit ?_
          exact WQ.cut [] (c4_18, c4_28, true) ⟨(by repeat' (first | exact trivial | refine ⟨rfl, ?_⟩)), (by repeat' (first | exact trivial | refine ⟨rfl, ?_⟩)), rfl, rfl, rfl, rfl⟩ h
        · replace h := ite_f hc3 h
          refine WC.skip ?_
          refine WQ.thenNormal ?_
          refine WC.seq ?_
          refine WC.seq ?_
          refine WC.region ?_
          refine WL.run tbOk 2 (acc := []) rfl (by repeat' (first | exact trivial | assumption | intro _ | apply And.intro | (refine not_i ?_; assumption) | (refine and_l ?_; assumption) | (refine and_i ?_ ?_) | decide | omega | (simp [vcs]; done) | (simp only [List.length_map]; omega))) ?_
          obtain ⟨g2, h⟩ := grd h
          obtain ⟨x39, hxx39, h⟩ := bnd h
          refine WL.q [] rfl rfl rfl (q_idx tbOk rfl (by repeat' (first | exact trivial | assumption | intro _ | apply And.intro | (refine not_i ?_; assumption) | (refine and_l ?_; assumption) | (refine and_i ?_ ?_) | decide | omega | (simp [vcs]; done) | (simp only [List.length_map]; omega))) g2 (map_get (f := eStr) hxx39)) ?_
          refine WL.run tbOk 3 (acc := []) rfl (by repeat' (first | exact trivial | assumption | intro _ | apply And.intro | (refine not_i ?_; assumption) | (refine and_l ?_; assumption) | (refine and_i ?_ ?_) | decide | omega | (simp [vcs]; done) | (simp only [List.length_map]; omega))) ?_
          refine WL.nil ?_
          refine WQ.thenNormal ?_
          refine WC.cond rfl (fun hc4 => ?_) (fun hc4 => ?_)
          · replace h := ite_t hc4 h
            refine WC.seq ?_
            refine WC.region ?_
            refine WL.run tbOk 3 (acc := []) rfl (by repeat' (first | exact trivial | assumption | intro _ | apply And.intro | (refine not_i ?_; assumption) | (refine and_l ?_; assumption) | (refine and_i ?_ ?_) | decide | omega | (simp [vcs]; done) | (simp only [List.length_map]; omega))) ?_
            refine WL.nil ?_
            refine WQ.thenNormal ?_
            refine WC.ret ?_
            refine WQ.thenRet ?_
            refine WQ.blockRet ?_
            refine WQ.thenRet ?_
            cases h
            have he := he1 _ hf1
            subst he
            have h : some ((⟨[], [], [], false⟩ : ApiGood), (4 : Int)) = some _ := hk1
            refine WQ.thenRet ?_
            refine WQ.blockRet ?_
            refine WQ.thenRet ?_
            cases h
            exact WQ.rets tbOk (r := .tup [.v (.agg [.sl 1 (((⟨[], [], [], false⟩ : ApiGood).Words).map eStr), .sl 2 (((⟨[], [], [], false⟩ : ApiGood).Materials).map eApiMaterial), .sl 2 (((⟨[], [], [], false⟩ : ApiGood).Parts).map eApiComponent), .bool ((⟨[], [], [], false⟩ : ApiGood).Incomplete)]), .v (.int .i64 (4 : Int))]) hR [] (.inl rfl) rfl rfl (Le.tup (.cons (Le.agg (.sl 1 (.sl 2 (.sl 2 (.same .nil))))) (.cons (Le.refl _) .nil))) (by repeat' (first | exact trivial | refine ⟨rfl, ?_⟩)) rfl rfl rfl rfl
          · replace h := ite_f hc4 h
            refine WC.skip ?_
            refine WQ.thenNormal ?_
            refine WC.seq ?_
            refine WC.region ?_
            refine WL.run tbOk 2 (acc := []) rfl (by repeat' (first | exact trivial | assumption | intro _ | apply And.intro | (refine not_i ?_; assumption) | (refine and_l ?_; assumption) | (refine and_i ?_ ?_) | decide | omega | (simp [vcs]; done) | (simp only [List.length_map]; omega))) ?_
            obtain ⟨g3, h⟩ := grd h
            obtain ⟨x40, hxx40, h⟩ := bnd h
            refine WL.q [] rfl rfl rfl (q_idx tbOk rfl (by repeat' (first | exact trivial | assumption | intro _ | apply And.intro | (refine not_i ?_; assumption) | (refine and_l ?_; assumption) | (refine and_i ?_ ?_) | decide | omega | (simp [vcs]; done) | (simp only [List.length_map]; omega))) g3 (map_get (f := eStr) hxx40)) ?_
            obtain ⟨g4, h⟩ := grd h
            refine WL.run tbOk 2 (acc := []) rfl (by repeat' (first | exact trivial | assumption | intro _ | exact g4 (by assumption) | apply And.intro | (refine not_i ?_; assumption) | (refine and_l ?_; assumption) | (refine and_i ?_ ?_) | decide | omega | (simp [vcs]; done) | (simp only [List.length_map]; omega))) ?_
            obtain ⟨v26, hvv26, h⟩ := bnd h
            refine WL.call0 fn40 rfl rfl rfl rfl (by repeat' (first | exact trivial | assumption | intro _ | apply And.intro | (refine not_i ?_; assumption) | (refine and_l ?_; assumption) | (refine and_i ?_ ?_) | decide | omega | (simp [vcs]; done) | (simp only [List.length_map]; omega))) rfl (r08Split_con hw hvv26) ?_
            refine WL.run tbOk 1 (acc := []) rfl (by repeat' (first | exact trivial | assumption | intro _ | apply And.intro | (refine not_i ?_; assumption) | (refine and_l ?_; assumption) | (refine and_i ?_ ?_) | decide | omega | (simp [vcs]; done) | (simp only [List.length_map]; omega))) ?_
            refine WL.nil ?_
            refine WQ.thenNormal ?_
            refine WC.seq ?_
            refine WC.region ?_
            refine WL.run tbOk 1 (acc := []) rfl (by repeat' (first | exact trivial | assumption | intro _ | apply And.intro | (refine not_i ?_; assumption) | (refine and_l ?_; assumption) | (refine and_i ?_ ?_) | decide | omega | (simp [vcs]; done) | (simp only [List.length_map]; omega))) ?_
            refine WL.nil ?_
            refine WQ.thenNormal ?_
            refine WC.block ?_
            obtain ⟨e2, hl2, hk2⟩ := bnd h
            clear h
            refine WC.loop (σ := Int × (List ApiMaterial) × (List ApiComponent)) (τ := ((ApiGood × Int) ⊕ ((List ApiMaterial) × (List ApiComponent)))) (fun sS => ⟨[(8, .v (.int .i64 sS.1)), (7, .v (.sl 1 (v26.map eStr))), (6, .v (.int .i64 t62)), (5, .v (.sl 1 (v.map eStr))), (4, .p 4 0), (2, .p 2 0), (0, .v (.str a0))], [(2, .blk 27 [.v (.raw (.slice none 0 0)), .v (.raw (.slice none 0 0)), .v (.raw (.slice none 0 0)), .v (.bool false)]), (2201, .row 54 2 (sS.2.1.map eApiMaterial)), (2202, .row 56 2 (sS.2.2.map eApiComponent)), (4, .blk 27 [.v (.sl 1 (v2.map eStr)), .r 2201, .r 2202, .v (.bool c4_34)])]⟩) (refParseGood_b2 a0 v v2 t62 c4_34 v26) [] ((0 : Int), c4_18, c4_28) hl2 ⟨(by repeat' (first | exact trivial | refine ⟨rfl, ?_⟩)), (by repeat' (first | exact trivial | refine ⟨rfl, ?_⟩)), rfl, rfl, rfl, rfl⟩ ?_
            rintro ⟨t85, c4_117, c4_217⟩ m hn2 he2 hx2
            obtain ⟨o2, hf2⟩ := some_of hx2
            have h := hf2
            unfold refParseGood_b2 at h
            show WC _ _ _ ⟨[(8, .v (.int .i64 t85)), (7, .v (.sl 1 (v26.map eStr))), (6, .v (.int .i64 t62)), (5, .v (.sl 1 (v.map eStr))), (4, .p 4 0), (2, .p 2 0), (0, .v (.str a0))], [(2, .blk 27 [.v (.raw (.slice none 0 0)), .v (.raw (.slice none 0 0)), .v (.raw (.slice none 0 0)), .v (.bool false)]), (2201, .row 54 2 (c4_117.map eApiMaterial)), (2202, .row 56 2 (c4_217.map eApiComponent)), (4, .blk 27 [.v (.sl 1 (v2.map eStr)), .r 2201, .r 2202, .v (.bool c4_34)])]⟩ _ _
            refine WC.seq ?_
            refine WC.seq ?_
            refine WC.region ?_
            refine WL.run tbOk 2 (acc := []) rfl (by repeat' (first | exact trivial | assumption | intro _ | apply And.intro | (refine not_i ?_; assumption) | (refine and_l ?_; assumption) | (refine and_i ?_ ?_) | decide | omega | (simp [vcs]; done) | (simp only [List.length_map]; omega))) ?_
            refine WL.q [] rfl rfl rfl (q_ev tbOk (.v (.int .i64 (v26.length : Int))) rfl (by repeat' (first | exact trivial | assumption | intro _ | apply And.intro | (refine not_i ?_; assumption) | (refine and_l ?_; assumption) | (refine and_i ?_ ?_) | decide | omega | (simp [vcs]; done) | (simp only [List.length_map]; omega))) (by first | (simp only [List.length_map]; done) | (simp only [List.length_map]; rfl) | rfl)) ?_
            refine WL.run tbOk 1 (acc := []) rfl (by repeat' (first | exact trivial | assumption | intro _ | apply And.intro | (refine not_i ?_; assumption) | (refine and_l ?_; assumption) | (refine and_i ?_ ?_) | decide | omega | (simp [vcs]; done) | (simp only [List.length_map]; omega))) ?_
            refine WL.nil ?_
            refine WQ.thenNormal ?_
            refine WC.cond rfl (fun hc5 => ?_) (fun hc5 => ?_)
            · replace h := ite_t hc5 h
              refine WC.skip ?_
              refine WQ.thenNormal ?_
              refine WC.seq ?_
              refine WC.thenCut (X := (List ApiMaterial) × (List ApiComponent)) (fun gG => ⟨[(8, .v (.int .i64 t85)), (7, .v (.sl 1 (v26.map eStr))), (6, .v (.int .i64 t62)), (5, .v (.sl 1 (v.map eStr))), (4, .p 4 0), (2, .p 2 0), (0, .v (.str a0))], [(2, .blk 27 [.v (.raw (.slice none 0 0)), .v (.raw (.slice none 0 0)), .v (.raw (.slice none 0 0)), .v (.bool false)]), (2201, .row 54 2 (gG.1.map eApiMaterial)), (2202, .row 56 2 (gG.2.map eApiComponent)), (4, .blk 27 [.v (.sl 1 (v2.map eStr)), .r 2201, .r 2202, .v (.bool c4_34)])]⟩) (fun gG => refParseGood_j3 a0 v v2 t62 c4_34 v26 t85 gG.1 gG.2 = some o2) ?_ ?_
              · refine WC.block ?_
                refine WC.seq ?_
                refine WC.region ?_
                refine WL.run tbOk 2 (acc := []) rfl (by repeat' (first | exact trivial | assumption | intro _ | apply And.intro | (refine not_i ?_; assumption) | (refine and_l ?_; assumption) | (refine and_i ?_ ?_) | decide | omega | (simp [vcs]; done) | (simp only [List.length_map]; omega))) ?_
                obtain ⟨g5, h⟩ := grd h
                obtain ⟨x47, hxx47, h⟩ := bnd h
                refine WL.q [] rfl rfl rfl (q_idx tbOk rfl (by repeat' (first | exact trivial | assumption | intro _ | apply And.intro | (refine not_i ?_; assumption) | (refine and_l ?_; assumption) | (refine and_i ?_ ?_) | decide | omega | (simp [vcs]; done) | (simp only [List.length_map]; omega))) g5 (map_get (f := eStr) hxx47)) ?_
                refine WL.run tbOk 1 (acc := []) rfl (by repeat' (first | exact trivial | assumption | intro _ | apply And.intro | (refine not_i ?_; assumption) | (refine and_l ?_; assumption) | (refine and_i ?_ ?_) | decide | omega | (simp [vcs]; done) | (simp only [List.length_map]; omega))) ?_
                obtain ⟨v31, hvv31, h⟩ := bnd h
                refine WL.call0 fn40 rfl rfl rfl rfl (by repeat' (first | exact trivial | assumption | intro _ | apply And.intro | (refine not_i ?_; assumption) | (refine and_l ?_; assumption) | (refine and_i ?_ ?_) | decide | omega | (simp [vcs]; done) | (simp only [List.length_map]; omega))) rfl (r08Split_con hw hvv31) ?_
                refine WL.run tbOk 1 (acc := []) rfl (by repeat' (first | exact trivial | assumption | intro _ | apply And.intro | (refine not_i ?_; assumption) | (refine and_l ?_; assumption) | (refine and_i ?_ ?_) | decide | omega | (simp [vcs]; done) | (simp only [List.length_map]; omega))) ?_
                refine WL.nil ?_
                refine WQ.thenNormal ?_
                refine WC.seq ?_
                refine WC.seq ?_
                refine WC.region ?_
                refine WL.run tbOk 1 (acc := []) rfl (by repeat' (first | exact trivial | assumption | intro _ | apply And.intro | (refine not_i ?_; assumption) | (refine and_l ?_; assumption) | (refine and_i ?_ ?_) | decide | omega | (simp [vcs]; done) | (simp only [List.length_map]; omega))) ?_
                refine WL.q [] rfl rfl rfl (q_ev tbOk (.v (.int .i64 (v31.length : Int))) rfl (by repeat' (first | exact trivial | assumption | intro _ | apply And.intro | (refine not_i ?_; assumption) | (refine and_l ?_; assumption) | (refine and_i ?_ ?_) | decide | omega | (simp [vcs]; done) | (simp only [List.length_map]; omega))) (by first | (simp only [List.length_map]; done) | (simp only [List.length_map]; rfl) | rfl)) ?_
                refine WL.run tbOk 1 (acc := []) rfl (by repeat' (first | exact trivial | assumption | intro _ | apply And.intro | (refine not_i ?_; assumption) | (refine and_l ?_; assumption) | (refine and_i ?_ ?_) | decide | omega | (simp [vcs]; done) | (simp only [List.length_map]; omega))) ?_
                refine WL.nil ?_
                refine WQ.thenNormal ?_
                refine WC.cond rfl (fun hc6 => ?_) (fun hc6 => ?_)
                · replace h := ite_t hc6 h
                  refine WC.seq ?_
                  refine WC.region ?_
                  refine WL.run tbOk 3 (acc := []) rfl (by repeat' (first | exact trivial | assumption | intro _ | apply And.intro | (refine not_i ?_; assumption) | (refine and_l ?_; assumption) | (refine and_i ?_ ?_) | decide | omega | (simp [vcs]; done) | (simp only [List.length_map]; omega))) ?_
                  refine WL.nil ?_
                  refine WQ.thenNormal ?_
                  refine WC.ret ?_
                  refine WQ.thenRet ?_
                  refine WQ.blockRet ?_
                  refine WQ.thenRet ?_
                  cases h
                  have he := he2 _ hf2
                  subst he
                  have h : (some (.inr (.inl ((⟨[], [], [], false⟩ : ApiGood), (4 : Int)))) : Option ((Int × (List ApiMaterial) × (List ApiComponent) × Bool) ⊕ ((ApiGood × Int) ⊕ ((List ApiMaterial) × (List ApiComponent) × Bool)))) = some _ := hk2
                  refine WQ.thenRet ?_
                  refine WQ.blockRet ?_
                  refine WQ.blockRet ?_
                  refine WQ.thenRet ?_
                  cases h
                  have he := he1 _ hf1
                  subst he
                  have h : some ((⟨[], [], [], false⟩ : ApiGood), (4 : Int)) = some _ := hk1
                  refine WQ.thenRet ?_
                  refine WQ.blockRet ?_
                  refine WQ.thenRet ?_
                  cases h
                  exact WQ.rets tbOk (r := .tup [.v (.agg [.sl 1 (((⟨[], [], [], false⟩ : ApiGood).Words).map eStr), .sl 2 (((⟨[], [], [], false⟩ : ApiGood).Materials).map eApiMaterial), .sl 2 (((⟨[], [], [], false⟩ : ApiGood).Parts).map eApiComponent), .bool ((⟨[], [], [], false⟩ : ApiGood).Incomplete)]), .v (.int .i64 (4 : Int))]) hR [] (.inl rfl) rfl rfl (Le.tup (.cons (Le.agg (.sl 1 (.sl 2 (.sl 2 (.same .nil))))) (.cons (Le.refl _) .nil))) (by repeat' (first | exact trivial | refine ⟨rfl, ?_⟩)) rfl rfl rfl rfl
                · replace h := ite_f hc6 h
                  refine WC.skip ?_
                  refine WQ.thenNormal ?_
                  refine WC.seq ?_
                  refine WC.region ?_
                  refine WL.run tbOk 2 (acc := []) rfl (by repeat' (first | exact trivial | assumption | intro _ | apply And.intro | (refine not_i ?_; assumption) | (refine and_l ?_; assumption) | (refine and_i ?_ ?_) | decide | omega | (simp [vcs]; done) | (simp only [List.length_map]; omega))) ?_
                  obtain ⟨g6, h⟩ := grd h
                  obtain ⟨x48, hxx48, h⟩ := bnd h
                  refine WL.q [] rfl rfl rfl (q_idx tbOk rfl (by repeat' (first | exact trivial | assumption | intro _ | apply And.intro | (refine not_i ?_; assumption) | (refine and_l ?_; assumption) | (refine and_i ?_ ?_) | decide | omega | (simp [vcs]; done) | (simp only [List.length_map]; omega))) g6 (map_get (f := eStr) hxx48)) ?_
                  obtain ⟨g7, h⟩ := grd h
                  refine WL.run tbOk 3 (acc := []) rfl (by repeat' (first | exact trivial | assumption | intro _ | exact g7 (by assumption) | apply And.intro | (refine not_i ?_; assumption) | (refine and_l ?_; assumption) | (refine and_i ?_ ?_) | decide | omega | (simp [vcs]; done) | (simp only [List.length_map]; omega))) ?_
                  refine WL.nil ?_
                  refine WQ.thenNormal ?_
                  refine WC.cond rfl (fun hc7 => ?_) (fun hc7 => ?_)
                  · replace h := ite_t hc7 h
                    refine WC.order mixed ?_
                    refine WR.run tbOk 3 (acc := []) rfl (by repeat' (first | exact trivial | assumption | intro _ | apply And.intro | (refine not_i ?_; assumption) | (refine and_l ?_; assumption) | (refine and_i ?_ ?_) | decide | omega | (simp [vcs]; done) | (simp only [List.length_map]; omega))) ?_
                    obtain ⟨x49, hxx49, h⟩ := bnd h
                    refine WR.q [] rfl rfl rfl (q_idx tbOk rfl (by repeat' (first | exact trivial | assumption | intro _ | apply And.intro | (refine not_i ?_; assumption) | (refine and_l ?_; assumption) | (refine and_i ?_ ?_) | decide | omega | (simp [vcs]; done) | (simp only [List.length_map]; omega))) (by decide) (map_get (f := eStr) hxx49)) ?_
                    refine WR.run tbOk 2 (acc := []) rfl (by repeat' (first | exact trivial | assumption | intro _ | apply And.intro | (refine not_i ?_; assumption) | (refine and_l ?_; assumption) | (refine and_i ?_ ?_) | decide | omega | (simp [vcs]; done) | (simp only [List.length_map]; omega))) ?_
                    obtain ⟨x50, hxx50, h⟩ := bnd h
                    refine WR.q [] rfl rfl rfl (q_idx tbOk rfl (by repeat' (first | exact trivial | assumption | intro _ | apply And.intro | (refine not_i ?_; assumption) | (refine and_l ?_; assumption) | (refine and_i ?_ ?_) | decide | omega | (simp [vcs]; done) | (simp only [List.length_map]; omega))) (by decide) (map_get (f := eStr) hxx50)) ?_
                    refine WR.run tbOk 1 (acc := []) rfl (by repeat' (first | exact trivial | assumption | intro _ | apply And.intro | (refine not_i ?_; assumption) | (refine and_l ?_; assumption) | (refine and_i ?_ ?_) | decide | omega | (simp [vcs]; done) | (simp only [List.length_map]; omega))) ?_
                    obtain ⟨v32, hvv32, h⟩ := bnd h
                    refine WR.call0 fn41 rfl rfl rfl rfl (by repeat' (first | exact trivial | assumption | intro _ | apply And.intro | (refine not_i ?_; assumption) | (refine and_l ?_; assumption) | (refine and_i ?_ ?_) | decide | omega | (simp [vcs]; done) | (simp only [List.length_map]; omega))) rfl (r08Num_con hw hvv32) ?_
                    refine WR.run tbOk 2 (acc := []) rfl (by repeat' (first | exact trivial | assumption | intro _ | apply And.intro | (refine not_i ?_; assumption) | (refine and_l ?_; assumption) | (refine and_i ?_ ?_) | decide | omega | (simp [vcs]; done) | (simp only [List.length_map]; omega))) ?_
                    obtain ⟨g8, h⟩ := grd h
                    refine WR.append tbOk ((c4_117 ++ [(⟨x49, v32⟩ : ApiMaterial)]).map eApiMaterial) [75, 2201] ap24 rfl rfl rfl rfl (fun _ e => by cases e; rfl) (by repeat' (first | exact trivial | assumption | intro _ | apply And.intro | (refine not_i ?_; assumption) | (refine and_l ?_; assumption) | (refine and_i ?_ ?_) | decide | omega | (simp [vcs]; done) | (simp only [List.length_map]; omega))) (map_cells (f := eApiMaterial) (xs := [(⟨x49, v32⟩ : ApiMaterial)]) fun _ => rfl) (by have := g8; simp only [List.length_map, List.length_nil, List.length_cons] at this ⊢; omega) rfl rfl (by simp only [List.map_append]; try rfl) rfl rfl ?_
                    refine WR.run tbOk 2 (acc := []) rfl (by repeat' (first | exact trivial | assumption | intro _ | apply And.intro | (refine not_i ?_; assumption) | (refine and_l ?_; assumption) | (refine and_i ?_ ?_) | decide | omega | (simp [vcs]; done) | (simp only [List.length_map]; omega))) ?_
                    refine WR.nil (by kernel_rfl) ?_
                    refine WQ.blockNormal ?_
                    exact WQ.cut [(2201, 75)] ((c4_117 ++ [(⟨x49, v32⟩ : ApiMaterial)]), c4_217) ⟨(by repeat' (first | exact trivial | refine ⟨rfl, ?_⟩)), (by repeat' (first | exact trivial | refine ⟨rfl, ?_⟩)), rfl, rfl, rfl, rfl⟩ h
                  · replace h := ite_f hc7 h
                    refine WC.order mixed ?_
                    refine WR.run tbOk 3 (acc := []) rfl (by repeat' (first | exact trivial | assumption | intro _ | apply And.intro | (refine not_i ?_; assumption) | (refine and_l ?_; assumption) | (refine and_i ?_ ?_) | decide | omega | (simp [vcs]; done) | (simp only [List.length_map]; omega))) ?_
                    obtain ⟨x51, hxx51, h⟩ := bnd h
                    refine WR.q [] rfl rfl rfl (q_idx tbOk rfl (by repeat' (first | exact trivial | assumption | intro _ | apply And.intro | (refine not_i ?_; assumption) | (refine and_l ?_; assumption) | (refine and_i ?_ ?_) | decide | omega | (simp [vcs]; done) | (simp only [List.length_map]; omega))) (by decide) (map_get (f := eStr) hxx51)) ?_
                    refine WR.run tbOk 1 (acc := []) rfl (by repeat' (first | exact trivial | assumption | intro _ | apply And.intro | (refine not_i ?_; assumption) | (refine and_l ?_; assumption) | (refine and_i ?_ ?_) | decide | omega | (simp [vcs]; done) | (simp only [List.length_map]; omega))) ?_
                    obtain ⟨v33, hvv33, h⟩ := bnd h
                    refine WR.call0 fn40 rfl rfl rfl rfl (by repeat' (first | exact trivial | assumption | intro _ | apply And.intro | (refine not_i ?_; assumption) | (refine and_l ?_; assumption) | (refine and_i ?_ ?_) | decide | omega | (simp [vcs]; done) | (simp only [List.length_map]; omega))) rfl (r08Split_con hw hvv33) ?_
                    refine WR.run tbOk 1 (acc := []) rfl (by repeat' (first | exact trivial | assumption | intro _ | apply And.intro | (refine not_i ?_; assumption) | (refine and_l ?_; assumption) | (refine and_i ?_ ?_) | decide | omega | (simp [vcs]; done) | (simp only [List.length_map]; omega))) ?_
                    obtain ⟨x52, hxx52, h⟩ := bnd h
                    refine WR.q [] rfl rfl rfl (q_idx tbOk rfl (by repeat' (first | exact trivial | assumption | intro _ | apply And.intro | (refine not_i ?_; assumption) | (refine and_l ?_; assumption) | (refine and_i ?_ ?_) | decide | omega | (simp [vcs]; done) | (simp only [List.length_map]; omega))) (by decide) (map_get (f := eStr) hxx52)) ?_
                    refine WR.run tbOk 1 (acc := []) rfl (by repeat' (first | exact trivial | assumption | intro _ | apply And.intro | (refine not_i ?_; assumption) | (refine and_l ?_; assumption) | (refine and_i ?_ ?_) | decide | omega | (simp [vcs]; done) | (simp only [List.length_map]; omega))) ?_
                    obtain ⟨v34, hvv34, h⟩ := bnd h
                    refine WR.call0 fn41 rfl rfl rfl rfl (by repeat' (first | exact trivial | assumption | intro _ | apply And.intro | (refine not_i ?_; assumption) | (refine and_l ?_; assumption) | (refine and_i ?_ ?_) | decide | omega | (simp [vcs]; done) | (simp only [List.length_map]; omega))) rfl (r08Num_con hw hvv34) ?_
                    refine WR.run tbOk 2 (acc := []) rfl (by repeat' (first | exact trivial | assumption | intro _ | apply And.intro | (refine not_i ?_; assumption) | (refine and_l ?_; assumption) | (refine and_i ?_ ?_) | decide | omega | (simp [vcs]; done) | (simp only [List.length_map]; omega))) ?_
                    obtain ⟨g9, h⟩ := grd h
                    refine WR.append tbOk ((c4_217 ++ [(⟨v33, v34⟩ : ApiComponent)]).map eApiComponent) [89, 2202] ap25 rfl rfl rfl rfl (fun _ e => by cases e; rfl) (by repeat' (first | exact trivial | assumption | intro _ | apply And.intro | (refine not_i ?_; assumption) | (refine and_l ?_; assumption) | (refine and_i ?_ ?_) | decide | omega | (simp [vcs]; done) | (simp only [List.length_map]; omega))) (map_cells (f := eApiComponent) (xs := [(⟨v33, v34⟩ : ApiComponent)]) fun _ => rfl) (by have := g9; simp only [List.length_map, List.length_nil, List.length_cons] at this ⊢; omega) rfl rfl (by simp only [List.map_append]; try rfl) rfl rfl ?_
                    refine WR.run tbOk 2 (acc := []) rfl (by repeat' (first | exact trivial | assumption | intro _ | apply And.intro | (refine not_i ?_; assumption) | (refine and_l ?_; assumption) | (refine and_i ?_ ?_) | decide | omega | (simp [vcs]; done) | (simp only [List.length_map]; omega))) ?_
                    refine WR.nil (by kernel_rfl) ?_
                    refine WQ.blockNormal ?_
                    exact WQ.cut [(2202, 89)] (c4_117, (c4_217 ++ [(⟨v33, v34⟩ : ApiComponent)])) ⟨(by repeat' (first | exact trivial | refine ⟨rfl, ?_⟩)), (by repeat' (first | exact trivial | refine ⟨rfl, ?_⟩)), rfl, rfl, rfl, rfl⟩ h
              · rintro ⟨c4_121, c4_221⟩ h
                replace h : refParseGood_j3 a0 v v2 t62 c4_34 v26 t85 c4_121 c4_221 = some _ := h
                unfold refParseGood_j3 at h
                show WC _ _ _ ⟨[(8, .v (.int .i64 t85)), (7, .v (.sl 1 (v26.map eStr))), (6, .v (.int .i64 t62)), (5, .v (.sl 1 (v.map eStr))), (4, .p 4 0), (2, .p 2 0), (0, .v (.str a0))], [(2, .blk 27 [.v (.raw (.slice none 0 0)), .v (.raw (.slice none 0 0)), .v (.raw (.slice none 0 0)), .v (.bool false)]), (2201, .row 54 2 (c4_121.map eApiMaterial)), (2202, .row 56 2 (c4_221.map eApiComponent)), (4, .blk 27 [.v (.sl 1 (v2.map eStr)), .r 2201, .r 2202, .v (.bool c4_34)])]⟩ _ _
                refine WC.region ?_
                refine WL.run tbOk 3 (acc := []) rfl (by repeat' (first | exact trivial | assumption | intro _ | apply And.intro | (refine not_i ?_; assumption) | (refine and_l ?_; assumption) | (refine and_i ?_ ?_) | decide | omega | (simp [vcs]; done) | (simp only [List.length_map]; omega))) ?_
                refine WL.nil ?_
                cases h
                exact WQ.next [] ((IntKind.i64.wrap (t85 + (1 : Int))), c4_121, c4_221) ⟨(by repeat' (first | exact trivial | refine ⟨rfl, ?_⟩)), (by repeat' (first | exact trivial | refine ⟨rfl, ?_⟩)), rfl, rfl, rfl, rfl⟩ (hn2 _ hf2)
            · replace h := ite_f hc5 h
              refine WC.exit ?_
              refine WQ.thenExit ?_
              cases h
              have he := he2 _ hf2
              subst he
              replace h := hk2
              try dsimp only at h
              refine WQ.thenExit ?_
              refine WQ.blockExit ?_
              refine WQ.blockNormal ?_
              exact WQ.cut [] (c4_117, c4_217, c4_34) ⟨(by repeat' (first | exact trivial | refine ⟨rfl, ?_⟩)), (by repeat' (first | exact trivial | refine ⟨rfl, ?_⟩)), rfl, rfl, rfl, rfl⟩ h
      · rintro ⟨c4_116, c4_216, c4_37⟩ h
        replace h : refParseGood_j2 a0 v v2 t62 c4_116 c4_216 c4_37 = some _ := h
        unfold refParseGood_j2 at h
        show WC _ _ _ ⟨[(6, .v (.int .i64 t62)), (5, .v (.sl 1 (v.map eStr))), (4, .p 4 0), (2, .p 2 0), (0, .v (.str a0))], [(2, .blk 27 [.v (.raw (.slice none 0 0)), .v (.raw (.slice none 0 0)), .v (.raw (.slice none 0 0)), .v (.bool false)]), (2201, .row 54 2 (c4_116.map eApiMaterial)), (2202, .row 56 2 (c4_216.map eApiComponent)), (4, .blk 27 [.v (.sl 1 (v2.map eStr)), .r 2201, .r 2202, .v (.bool c4_37)])]⟩ _ _
        refine WC.region ?_
        refine WL.run tbOk 3 (acc := []) rfl (by repeat' (first | exact trivial | assumption | intro _ | apply And.intro | (refine not_i ?_; assumption) | (refine and_l ?_; assumption) | (refine and_i ?_ ?_) | decide | omega | (simp [vcs]; done) | (simp only [List.length_map]; omega))) ?_
        refine WL.nil ?_
        cases h
        exact WQ.next [] ((IntKind.i64.wrap (t62 + (1 : Int))), c4_116, c4_216, c4_37) ⟨(by repeat' (first | exact trivial | refine ⟨rfl, ?_⟩)), (by repeat' (first | exact trivial | refine ⟨rfl, ?_⟩)), rfl, rfl, rfl, rfl⟩ (hn1 _ hf1)
    · replace h := ite_f hc2 h
      refine WC.exit ?_
      refine WQ.thenExit ?_
      cases h
      have he := he1 _ hf1
      subst he
      replace h := hk1
      try dsimp only at h
      refine WQ.thenExit ?_
      refine WQ.blockExit ?_
      exact WQ.cut [] (c4_18, c4_28, c4_34) ⟨(by repeat' (first | exact trivial | refine ⟨rfl, ?_⟩)), (by repeat' (first | exact trivial | refine ⟨rfl, ?_⟩)), rfl, rfl, rfl, rfl⟩ h
  · rintro ⟨c4_1, c4_2, c4_3⟩ h
    replace h : refParseGood_j1 a0 v2 c4_1 c4_2 c4_3 = some _ := h
    unfold refParseGood_j1 at h
    show WC _ _ _ ⟨[(4, .p 4 0), (2, .p 2 0), (0, .v (.str a0))], [(2, .blk 27 [.v (.raw (.slice none 0 0)), .v (.raw (.slice none 0 0)), .v (.raw (.slice none 0 0)), .v (.bool false)]), (2201, .row 54 2 (c4_1.map eApiMaterial)), (2202, .row 56 2 (c4_2.map eApiComponent)), (4, .blk 27 [.v (.sl 1 (v2.map eStr)), .r 2201, .r 2202, .v (.bool c4_3)])]⟩ _ _
    refine WC.seq ?_
    refine WC.seq ?_
    refine WC.publish 2201 rfl rfl ?_
    refine WC.publish 2202 rfl rfl ?_
    refine WC.region ?_
    refine WL.run tbOk 4 (acc := []) rfl (by repeat' (first | exact trivial | assumption | intro _ | apply And.intro | (refine not_i ?_; assumption) | (refine and_l ?_; assumption) | (refine and_i ?_ ?_) | decide | omega | (simp [vcs]; done) | (simp only [List.length_map]; omega))) ?_
    obtain ⟨v3, hvv3, h⟩ := bnd h
    refine WL.gcall0 fn8 rfl rfl rfl rfl rfl (fun _ => (by repeat' (first | exact trivial | assumption | intro _ | apply And.intro | (refine not_i ?_; assumption) | (refine and_l ?_; assumption) | (refine and_i ?_ ?_) | decide | omega | (simp [vcs]; done) | (simp only [List.length_map]; omega)))) rfl (fun hg => (refFormatGood_con hw (ite_t hg hvv3))) ?_
    refine WL.run tbOk 3 (acc := []) rfl (by repeat' (first | exact trivial | assumption | intro _ | apply And.intro | (refine not_i ?_; assumption) | (refine and_l ?_; assumption) | (refine and_i ?_ ?_) | decide | omega | (simp [vcs]; done) | (simp only [List.length_map]; omega))) ?_
    refine WL.nil ?_
    refine WQ.thenNormal ?_
    refine WC.cond rfl (fun hc1 => ?_) (fun hc1 => ?_)
    · replace h := ite_t hc1 h
      refine WC.seq ?_
      refine WC.region ?_
      refine WL.run tbOk 3 (acc := []) rfl (by repeat' (first | exact trivial | assumption | intro _ | apply And.intro | (refine not_i ?_; assumption) | (refine and_l ?_; assumption) | (refine and_i ?_ ?_) | decide | omega | (simp [vcs]; done) | (simp only [List.length_map]; omega))) ?_
      refine WL.nil ?_
      refine WQ.thenNormal ?_
      refine WC.ret ?_
      refine WQ.thenRet ?_
      cases h
      exact WQ.rets tbOk (r := .tup [.v (.agg [.sl 1 (((⟨[], [], [], false⟩ : ApiGood).Words).map eStr), .sl 2 (((⟨[], [], [], false⟩ : ApiGood).Materials).map eApiMaterial), .sl 2 (((⟨[], [], [], false⟩ : ApiGood).Parts).map eApiComponent), .bool ((⟨[], [], [], false⟩ : ApiGood).Incomplete)]), .v (.int .i64 (4 : Int))]) hR [] (.inl rfl) rfl rfl (Le.tup (.cons (Le.agg (.sl 1 (.sl 2 (.sl 2 (.same .nil))))) (.cons (Le.refl _) .nil))) (by repeat' (first | exact trivial | refine ⟨rfl, ?_⟩)) rfl rfl rfl rfl
    · replace h := ite_f hc1 h
      refine WC.skip ?_
      refine WQ.thenNormal ?_
      refine WC.seq ?_
      refine WC.region ?_
      refine WL.run tbOk 3 (acc := []) rfl (by repeat' (first | exact trivial | assumption | intro _ | apply And.intro | (refine not_i ?_; assumption) | (refine and_l ?_; assumption) | (refine and_i ?_ ?_) | decide | omega | (simp [vcs]; done) | (simp only [List.length_map]; omega))) ?_
      refine WL.nil ?_
      refine WQ.thenNormal ?_
      refine WC.ret ?_
      cases h
      exact WQ.rets tbOk (r := .tup [.v (.agg [.sl 1 (((⟨v2, c4_1, c4_2, c4_3⟩ : ApiGood).Words).map eStr), .sl 2 (((⟨v2, c4_1, c4_2, c4_3⟩ : ApiGood).Materials).map eApiMaterial), .sl 2 (((⟨v2, c4_1, c4_2, c4_3⟩ : ApiGood).Parts).map eApiComponent), .bool ((⟨v2, c4_1, c4_2, c4_3⟩ : ApiGood).Incomplete)]), .v (.int .i64 (0 : Int))]) hR [] (.inl rfl) rfl rfl (Le.tup (.cons (Le.refl _) (.cons (Le.refl _) .nil))) (by repeat' (first | exact trivial | refine ⟨rfl, ?_⟩)) rfl rfl rfl rfl

theorem lawFormat_con {wg : World} (hw : WG wg) {l : (List Int)} {raw : ApiGood} {r : Bool} (h : lawFormat l raw = some r) : Con Tryz.prog wg gl 3 [.v (.sl 1 (l.map eInt_i64)), .v (.agg [.sl 1 (raw.Words.map eStr), .sl 2 (raw.Materials.map eApiMaterial), .sl 2 (raw.Parts.map eApiComponent), .bool raw.Incomplete])] [] (.v (.bool r)) [] := by
  unfold lawFormat at h
  refine con_of_WC (S := slotsOf 0 _) Tryz.func3 rfl Tryz.ntmps3 rfl (fun t x hx => (slotsOf_get hx).2) ?_
  intro F L w ρ0 R hR
  show WC _ _ _ ⟨[(0, .v (.sl 1 (l.map eInt_i64))), (1, .v (.agg [.sl 1 (raw.Words.map eStr), .sl 2 (raw.Materials.map eApiMaterial), .sl 2 (raw.Parts.map eApiComponent), .bool raw.Incomplete]))], []⟩ _ _
  refine WC.seq ?_
  refine WC.region ?_
  refine WL.run tbOk 2 (acc := []) rfl (by repeat' (first | exact trivial | assumption | intro _ | apply And.intro | (refine not_i ?_; assumption) | (refine and_l ?_; assumption) | (refine and_i ?_ ?_) | decide | omega | (simp [vcs]; done) | (simp only [List.length_map]; omega))) ?_
  refine WL.nil ?_
  refine WQ.thenNormal ?_
  refine WC.seq ?_
  refine WC.region ?_
  refine WL.run tbOk 1 (acc := []) rfl (by repeat' (first | exact trivial | assumption | intro _ | apply And.intro | (refine not_i ?_; assumption) | (refine and_l ?_; assumption) | (refine and_i ?_ ?_) | decide | omega | (simp [vcs]; done) | (simp only [List.length_map]; omega))) ?_
  obtain ⟨v, hvv, h⟩ := bnd h
  refine WL.call0 fn6 rfl rfl rfl rfl (by repeat' (first | exact trivial | assumption | intro _ | apply And.intro | (refine not_i ?_; assumption) | (refine and_l ?_; assumption) | (refine and_i ?_ ?_) | decide | omega | (simp [vcs]; done) | (simp only [List.length_map]; omega))) rfl (madeGood_con hw hvv) ?_
  refine WL.run tbOk 2 (acc := []) rfl (by repeat' (first | exact trivial | assumption | intro _ | apply And.intro | (refine not_i ?_; assumption) | (refine and_l ?_; assumption) | (refine and_i ?_ ?_) | decide | omega | (simp [vcs]; done) | (simp only [List.length_map]; omega))) ?_
  refine WL.nil ?_
  refine WQ.thenNormal ?_
  refine WC.seq ?_
  refine WC.region ?_
  refine WL.run tbOk 1 (acc := []) rfl (by repeat' (first | exact trivial | assumption | intro _ | apply And.intro | (refine not_i ?_; assumption) | (refine and_l ?_; assumption) | (refine and_i ?_ ?_) | decide | omega | (simp [vcs]; done) | (simp only [List.length_map]; omega))) ?_
  obtain ⟨v2, hvv2, h⟩ := bnd h
  refine WL.call0 fn7 rfl rfl rfl rfl (by repeat' (first | exact trivial | assumption | intro _ | apply And.intro | (refine not_i ?_; assumption) | (refine and_l ?_; assumption) | (refine and_i ?_ ?_) | decide | omega | (simp [vcs]; done) | (simp only [List.length_map]; omega))) rfl (goodsFormat_con hw hvv2) ?_
  refine WL.run tbOk 1 (acc := []) rfl (by repeat' (first | exact trivial | assumption | intro _ | apply And.intro | (refine not_i ?_; assumption) | (refine and_l ?_; assumption) | (refine and_i ?_ ?_) | decide | omega | (simp [vcs]; done) | (simp only [List.length_map]; omega))) ?_
  refine WL.nil ?_
  refine WQ.thenNormal ?_
  refine WC.seq ?_
  refine WC.seq ?_
  refine WC.order mixed ?_
  refine WR.run tbOk 2 (acc := []) rfl (by repeat' (first | exact trivial | assumption | intro _ | apply And.intro | (refine not_i ?_; assumption) | (refine and_l ?_; assumption) | (refine and_i ?_ ?_) | decide | omega | (simp [vcs]; done) | (simp only [List.length_map]; omega))) ?_
  obtain ⟨v3, hvv3, h⟩ := bnd h
  refine WR.call0 fn8 rfl rfl rfl rfl (by repeat' (first | exact trivial | assumption | intro _ | apply And.intro | (refine not_i ?_; assumption) | (refine and_l ?_; assumption) | (refine and_i ?_ ?_) | decide | omega | (simp [vcs]; done) | (simp only [List.length_map]; omega))) rfl (refFormatGood_con hw hvv3) ?_
  refine WR.run tbOk 3 (acc := []) rfl (by repeat' (first | exact trivial | assumption | intro _ | apply And.intro | (refine not_i ?_; assumption) | (refine and_l ?_; assumption) | (refine and_i ?_ ?_) | decide | omega | (simp [vcs]; done) | (simp only [List.length_map]; omega))) ?_
  obtain ⟨v4, hvv4, h⟩ := bnd h
  refine WR.gcall0 fn9 rfl rfl rfl rfl rfl (fun _ => (by repeat' (first | exact trivial | assumption | intro _ | apply And.intro | (refine not_i ?_; assumption) | (refine and_l ?_; assumption) | (refine and_i ?_ ?_) | decide | omega | (simp [vcs]; done) | (simp only [List.length_map]; omega)))) rfl (fun hg => (small_con hw (ite_t hg hvv4))) ?_
  obtain ⟨v5, hvv5, h⟩ := bnd h
  refine WR.gcall0 fn7 rfl rfl rfl rfl rfl (fun _ => (by repeat' (first | exact trivial | assumption | intro _ | apply And.intro | (refine not_i ?_; assumption) | (refine and_l ?_; assumption) | (refine and_i ?_ ?_) | decide | omega | (simp [vcs]; done) | (simp only [List.length_map]; omega)))) rfl (fun hg => (goodsFormat_con hw (ite_t hg hvv5))) ?_
  refine WR.run tbOk 1 (acc := []) rfl (by repeat' (first | exact trivial | assumption | intro _ | apply And.intro | (refine not_i ?_; assumption) | (refine and_l ?_; assumption) | (refine and_i ?_ ?_) | decide | omega | (simp [vcs]; done) | (simp only [List.length_map]; omega))) ?_
  obtain ⟨v6, hvv6, h⟩ := bnd h
  refine WR.gcall0 fn9 rfl rfl rfl rfl rfl (fun _ => (by repeat' (first | exact trivial | assumption | intro _ | apply And.intro | (refine not_i ?_; assumption) | (refine and_l ?_; assumption) | (refine and_i ?_ ?_) | decide | omega | (simp [vcs]; done) | (simp only [List.length_map]; omega)))) rfl (fun hg => (small_con hw (ite_t hg hvv6))) ?_
  obtain ⟨v7, hvv7, h⟩ := bnd h
  refine WR.gcall0 fn8 rfl rfl rfl rfl rfl (fun _ => (by repeat' (first | exact trivial | assumption | intro _ | apply And.intro | (refine not_i ?_; assumption) | (refine and_l ?_; assumption) | (refine and_i ?_ ?_) | decide | omega | (simp [vcs]; done) | (simp only [List.length_map]; omega)))) rfl (fun hg => (refFormatGood_con hw (ite_t hg hvv7))) ?_
  refine WR.run tbOk 2 (acc := []) rfl (by repeat' (first | exact trivial | assumption | intro _ | apply And.intro | (refine not_i ?_; assumption) | (refine and_l ?_; assumption) | (refine and_i ?_ ?_) | decide | omega | (simp [vcs]; done) | (simp only [List.length_map]; omega))) ?_
  refine WR.nil (by kernel_rfl) ?_
  refine WQ.thenNormal ?_
  refine WC.cond rfl (fun hc1 => ?_) (fun hc1 => ?_)
  · replace h := ite_t hc1 h
    refine WC.seq ?_
    refine WC.region ?_
    refine WL.run tbOk 1 (acc := []) rfl (by repeat' (first | exact trivial | assumption | intro _ | apply And.intro | (refine not_i ?_; assumption) | (refine and_l ?_; assumption) | (refine and_i ?_ ?_) | decide | omega | (simp [vcs]; done) | (simp only [List.length_map]; omega))) ?_
    refine WL.nil ?_
    refine WQ.thenNormal ?_
    refine WC.ret ?_
    refine WQ.thenRet ?_
    cases h
    exact WQ.rets tbOk hR [] (.inl rfl) rfl rfl (Le.refl _) (by repeat' (first | exact trivial | refine ⟨rfl, ?_⟩)) rfl rfl rfl rfl
  · replace h := ite_f hc1 h
    refine WC.skip ?_
    refine WQ.thenNormal ?_
    refine WC.seq ?_
    refine WC.region ?_
    refine WL.run tbOk 1 (acc := []) rfl (by repeat' (first | exact trivial | assumption | intro _ | apply And.intro | (refine not_i ?_; assumption) | (refine and_l ?_; assumption) | (refine and_i ?_ ?_) | decide | omega | (simp [vcs]; done) | (simp only [List.length_map]; omega))) ?_
    obtain ⟨v8, hvv8, h⟩ := bnd h
    refine WL.call0 fn10 rfl rfl rfl rfl (by repeat' (first | exact trivial | assumption | intro _ | apply And.intro | (refine not_i ?_; assumption) | (refine and_l ?_; assumption) | (refine and_i ?_ ?_) | decide | omega | (simp [vcs]; done) | (simp only [List.length_map]; omega))) rfl (goodsParse_con hw hvv8) ?_
    refine WL.run tbOk 6 (acc := []) rfl (by repeat' (first | exact trivial | assumption | intro _ | apply And.intro | (refine not_i ?_; assumption) | (refine and_l ?_; assumption) | (refine and_i ?_ ?_) | decide | omega | (simp [vcs]; done) | (simp only [List.length_map]; omega))) ?_
    refine WL.nil ?_
    refine WQ.thenNormal ?_
    refine WC.seq ?_
    refine WC.region ?_
    refine WL.run tbOk 5 (acc := []) rfl (by repeat' (first | exact trivial | assumption | intro _ | apply And.intro | (refine not_i ?_; assumption) | (refine and_l ?_; assumption) | (refine and_i ?_ ?_) | decide | omega | (simp [vcs]; done) | (simp only [List.length_map]; omega))) ?_
    obtain ⟨v9, hvv9, h⟩ := bnd h
    refine WL.gcall0 fn11 rfl rfl rfl rfl rfl (fun _ => (by repeat' (first | exact trivial | assumption | intro _ | apply And.intro | (refine not_i ?_; assumption) | (refine and_l ?_; assumption) | (refine and_i ?_ ?_) | decide | omega | (simp [vcs]; done) | (simp only [List.length_map]; omega)))) rfl (fun hg => (sameGood_con hw (ite_t hg hvv9))) ?_
    refine WL.run tbOk 2 (acc := []) rfl (by repeat' (first | exact trivial | assumption | intro _ | apply And.intro | (refine not_i ?_; assumption) | (refine and_l ?_; assumption) | (refine and_i ?_ ?_) | decide | omega | (simp [vcs]; done) | (simp only [List.length_map]; omega))) ?_
    obtain ⟨v10, hvv10, h⟩ := bnd h
    refine WL.gcall0 fn12 rfl rfl rfl rfl rfl (fun _ => (by repeat' (first | exact trivial | assumption | intro _ | apply And.intro | (refine not_i ?_; assumption) | (refine and_l ?_; assumption) | (refine and_i ?_ ?_) | decide | omega | (simp [vcs]; done) | (simp only [List.length_map]; omega)))) rfl (fun hg => (awake08_con hw (ite_t hg hvv10))) ?_
    refine WL.run tbOk 2 (acc := []) rfl (by repeat' (first | exact trivial | assumption | intro _ | apply And.intro | (refine not_i ?_; assumption) | (refine and_l ?_; assumption) | (refine and_i ?_ ?_) | decide | omega | (simp [vcs]; done) | (simp only [List.length_map]; omega))) ?_
    refine WL.nil ?_
    refine WQ.thenNormal ?_
    refine WC.ret ?_
    cases h
    exact WQ.rets tbOk hR [] (.inl rfl) rfl rfl (Le.refl _) (by repeat' (first | exact trivial | refine ⟨rfl, ?_⟩)) rfl rfl rfl rfl

end Go.Proofs.YtmjhpemmhnpilaaGreatDoor
