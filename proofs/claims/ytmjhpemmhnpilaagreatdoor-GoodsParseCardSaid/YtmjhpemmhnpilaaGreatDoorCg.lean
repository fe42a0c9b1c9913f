/- Contracts: the program's functions compute the plain ones; by program (gen.py). -/
import Derived.Test.YtmjhpemmhnpilaaGreatDoorLib
import Derived.Test.YtmjhpemmhnpilaaGreatDoorPg
import Derived.Test.YtmjhpemmhnpilaaGreatDoorCa
import Derived.Test.YtmjhpemmhnpilaaGreatDoorCb
import Derived.Test.YtmjhpemmhnpilaaGreatDoorCc
import Derived.Test.YtmjhpemmhnpilaaGreatDoorCd
import Derived.Test.YtmjhpemmhnpilaaGreatDoorCe
import Derived.Test.YtmjhpemmhnpilaaGreatDoorCf
set_option linter.unusedVariables false
set_option linter.unusedSimpArgs false
namespace Go.Proofs.YtmjhpemmhnpilaaGreatDoor
open Go.V Go.C

theorem lawParse_con {wg : World} (hw : WG wg) {a0 : Str} {a1 : (List Int)} {a2 : (List Int)} {a3 : (List Int)} {r : Bool} (h : lawParse a0 a1 a2 a3 = some r) : Con Tryz.prog wg gl 4 [.v (.str a0), .v (.sl 1 (a1.map eInt_i64)), .v (.sl 1 (a2.map eInt_i64)), .v (.sl 1 (a3.map eInt_u8))] [] (.v (.bool r)) [] := by
  unfold lawParse at h
  refine con_of_WC (S := slotsOf 0 _) Tryz.func4 rfl Tryz.ntmps4 rfl (fun t x hx => (slotsOf_get hx).2) ?_
  intro F L w ρ0 R hR
  show WC _ _ _ ⟨[(0, .v (.str a0)), (1, .v (.sl 1 (a1.map eInt_i64))), (2, .v (.sl 1 (a2.map eInt_i64))), (3, .v (.sl 1 (a3.map eInt_u8)))], []⟩ _ _
  refine WC.seq ?_
  refine WC.region ?_
  refine WL.run tbOk 1 (acc := []) rfl (by repeat' (first | exact trivial | assumption | intro _ | apply And.intro | (refine not_i ?_; assumption) | (refine and_l ?_; assumption) | (refine and_i ?_ ?_) | decide | omega | (simp [vcs]; done) | (simp only [List.length_map]; omega))) ?_
  refine WL.nil ?_
  refine WQ.thenNormal ?_
  refine WC.seq ?_
  refine WC.seq ?_
  refine WC.region ?_
  refine WL.run tbOk 3 (acc := []) rfl (by repeat' (first | exact trivial | assumption | intro _ | apply And.intro | (refine not_i ?_; assumption) | (refine and_l ?_; assumption) | (refine and_i ?_ ?_) | decide | omega | (simp [vcs]; done) | (simp only [List.length_map]; omega))) ?_
  refine WL.nil ?_
  refine WQ.thenNormal ?_
  refine WC.thenCut (X := Str) (fun gG => ⟨[(0, .v (.str gG)), (1, .v (.sl 1 (a1.map eInt_i64))), (2, .v (.sl 1 (a2.map eInt_i64))), (3, .v (.sl 1 (a3.map eInt_u8)))], []⟩) (fun gG => lawParse_j1 a1 a2 a3 gG = some r) ?_ ?_
  · refine WC.cond rfl (fun hc2 => ?_) (fun hc2 => ?_)
    · replace h := ite_t hc2 h
      refine WC.region ?_
      obtain ⟨g5, h⟩ := grd h
      refine WL.run tbOk 3 (acc := []) rfl (by repeat' (first | exact trivial | assumption | intro _ | exact g5 (by assumption) | apply And.intro | (refine not_i ?_; assumption) | (refine and_l ?_; assumption) | (refine and_i ?_ ?_) | decide | omega | (simp [vcs]; done) | (simp only [List.length_map]; omega))) ?_
      refine WL.nil ?_
      exact WQ.cut [] ((a0.take (200 : Int).toNat).drop (0 : Int).toNat) ⟨(by repeat' (first | exact trivial | refine ⟨rfl, ?_⟩)), (by repeat' (first | exact trivial | refine ⟨rfl, ?_⟩)), rfl, rfl, rfl, rfl⟩ h
    · replace h := ite_f hc2 h
      refine WC.skip ?_
      exact WQ.cut [] a0 ⟨(by repeat' (first | exact trivial | refine ⟨rfl, ?_⟩)), (by repeat' (first | exact trivial | refine ⟨rfl, ?_⟩)), rfl, rfl, rfl, rfl⟩ h
  · intro t0 h
    replace h : lawParse_j1 a1 a2 a3 t0 = some _ := h
    unfold lawParse_j1 at h
    show WC _ _ _ ⟨[(0, .v (.str t0)), (1, .v (.sl 1 (a1.map eInt_i64))), (2, .v (.sl 1 (a2.map eInt_i64))), (3, .v (.sl 1 (a3.map eInt_u8)))], []⟩ _ _
    refine WC.seq ?_
    refine WC.region ?_
    refine WL.run tbOk 1 (acc := []) rfl (by repeat' (first | exact trivial | assumption | intro _ | apply And.intro | (refine not_i ?_; assumption) | (refine and_l ?_; assumption) | (refine and_i ?_ ?_) | decide | omega | (simp [vcs]; done) | (simp only [List.length_map]; omega))) ?_
    obtain ⟨v, hvv, h⟩ := bnd h
    refine WL.call0 fn6 rfl rfl rfl rfl (by repeat' (first | exact trivial | assumption | intro _ | apply And.intro | (refine not_i ?_; assumption) | (refine and_l ?_; assumption) | (refine and_i ?_ ?_) | decide | omega | (simp [vcs]; done) | (simp only [List.length_map]; omega))) rfl (madeGood_con hw hvv) ?_
    obtain ⟨v2, hvv2, h⟩ := bnd h
    refine WL.call0 fn8 rfl rfl rfl rfl (by repeat' (first | exact trivial | assumption | intro _ | apply And.intro | (refine not_i ?_; assumption) | (refine and_l ?_; assumption) | (refine and_i ?_ ?_) | decide | omega | (simp [vcs]; done) | (simp only [List.length_map]; omega))) rfl (refFormatGood_con hw hvv2) ?_
    obtain ⟨g1, h⟩ := grd h
    refine WL.bytes tbOk ((intsB v2).map eInt_u8) ap37 Tryz.underlying5 rfl rfl rfl rfl (by repeat' (first | exact trivial | assumption | intro _ | apply And.intro | (refine not_i ?_; assumption) | (refine and_l ?_; assumption) | (refine and_i ?_ ?_) | decide | omega | (simp [vcs]; done) | (simp only [List.length_map]; omega))) g1 rfl (by simp only [intsB, List.map_map]; rfl) ?_
    refine WL.run tbOk 1 (acc := []) rfl (by repeat' (first | exact trivial | assumption | intro _ | apply And.intro | (refine not_i ?_; assumption) | (refine and_l ?_; assumption) | (refine and_i ?_ ?_) | decide | omega | (simp [vcs]; done) | (simp only [List.length_map]; omega))) ?_
    refine WL.nil ?_
    refine WQ.thenNormal ?_
    refine WC.seq ?_
    refine WC.seq ?_
    refine WC.region ?_
    refine WL.run tbOk 1 (acc := []) rfl (by repeat' (first | exact trivial | assumption | intro _ | apply And.intro | (refine not_i ?_; assumption) | (refine and_l ?_; assumption) | (refine and_i ?_ ?_) | decide | omega | (simp [vcs]; done) | (simp only [List.length_map]; omega))) ?_
    refine WL.nil ?_
    refine WQ.thenNormal ?_
    refine WC.thenCut (X := (List Int)) (fun gG => ⟨[(9, .r 1009), (0, .v (.str t0))], [(1009, .row 5 1 (gG.map eInt_u8))]⟩) (fun gG => lawParse_j2 t0 gG = some r) ?_ ?_
    · refine WC.block ?_
      obtain ⟨e1, hl1, hk1⟩ := bnd h
      clear h
      refine WC.loop (σ := Int × (List Int)) (τ := ((List Int))) (fun sS => ⟨[(10, .v (.int .i64 sS.1)), (9, .r 1009), (0, .v (.str t0)), (2, .v (.sl 1 (a2.map eInt_i64))), (3, .v (.sl 1 (a3.map eInt_u8)))], [(1009, .row 5 1 (sS.2.map eInt_u8))]⟩) (lawParse_b1 a2 a3 t0) [(1009, 27)] ((0 : Int), (intsB v2)) hl1 ⟨(by repeat' (first | exact trivial | refine ⟨rfl, ?_⟩)), (by repeat' (first | exact trivial | refine ⟨rfl, ?_⟩)), rfl, rfl, rfl, rfl⟩ ?_
      rintro ⟨t10, t92⟩ m hn1 he1 hx1
      obtain ⟨o1, hf1⟩ := some_of hx1
      have h := hf1
      unfold lawParse_b1 at h
      show WC _ _ _ ⟨[(10, .v (.int .i64 t10)), (9, .r 1009), (0, .v (.str t0)), (2, .v (.sl 1 (a2.map eInt_i64))), (3, .v (.sl 1 (a3.map eInt_u8)))], [(1009, .row 5 1 (t92.map eInt_u8))]⟩ _ _
      refine WC.seq ?_
      refine WC.seq ?_
      refine WC.region ?_
      refine WL.run tbOk 2 (acc := []) rfl (by repeat' (first | exact trivial | assumption | intro _ | apply And.intro | (refine not_i ?_; assumption) | (refine and_l ?_; assumption) | (refine and_i ?_ ?_) | decide | omega | (simp [vcs]; done) | (simp only [List.length_map]; omega))) ?_
      refine WL.q [] rfl rfl rfl (q_ev tbOk (.v (.int .i64 (a2.length : Int))) rfl (by repeat' (first | exact trivial | assumption | intro _ | apply And.intro | (refine not_i ?_; assumption) | (refine and_l ?_; assumption) | (refine and_i ?_ ?_) | decide | omega | (simp [vcs]; done) | (simp only [List.length_map]; omega))) (by first | (simp only [List.length_map]; done) | (simp only [List.length_map]; rfl) | rfl)) ?_
      refine WL.run tbOk 4 (acc := []) rfl (by repeat' (first | exact trivial | assumption | intro _ | apply And.intro | (refine not_i ?_; assumption) | (refine and_l ?_; assumption) | (refine and_i ?_ ?_) | decide | omega | (simp [vcs]; done) | (simp only [List.length_map]; omega))) ?_
      refine WL.gq [] rfl rfl rfl rfl (fun hg => q_ev tbOk (.v (.int .i64 (a3.length : Int))) rfl (by repeat' (first | exact trivial | assumption | intro _ | apply And.intro | (refine not_i ?_; assumption) | (refine and_l ?_; assumption) | (refine and_i ?_ ?_) | decide | omega | (simp [vcs]; done) | (simp only [List.length_map]; omega))) (by first | (simp only [List.length_map]; done) | (simp only [List.length_map]; rfl) | rfl)) ?_
      refine WL.run tbOk 6 (acc := []) rfl (by repeat' (first | exact trivial | assumption | intro _ | apply And.intro | (refine not_i ?_; assumption) | (refine and_l ?_; assumption) | (refine and_i ?_ ?_) | decide | omega | (simp [vcs]; done) | (simp only [List.length_map]; omega))) ?_
      refine WL.nil ?_
      refine WQ.thenNormal ?_
      refine WC.cond rfl (fun hc1 => ?_) (fun hc1 => ?_)
      · replace h := ite_t hc1 h
        refine WC.skip ?_
        refine WQ.thenNormal ?_
        refine WC.seq ?_
        refine WC.block ?_
        refine WC.order mixed ?_
        refine WR.run tbOk 3 (acc := []) rfl (by repeat' (first | exact trivial | assumption | intro _ | apply And.intro | (refine not_i ?_; assumption) | (refine and_l ?_; assumption) | (refine and_i ?_ ?_) | decide | omega | (simp [vcs]; done) | (simp only [List.length_map]; omega))) ?_
        obtain ⟨g2, h⟩ := grd h
        obtain ⟨x3, hxx3, h⟩ := bnd h
        refine WR.q [] rfl rfl rfl (q_idx tbOk rfl (by repeat' (first | exact trivial | assumption | intro _ | apply And.intro | (refine not_i ?_; assumption) | (refine and_l ?_; assumption) | (refine and_i ?_ ?_) | decide | omega | (simp [vcs]; done) | (simp only [List.length_map]; omega))) g2 (map_get (f := eInt_i64) hxx3)) ?_
        refine WR.run tbOk 2 (acc := []) rfl (by repeat' (first | exact trivial | assumption | intro _ | apply And.intro | (refine not_i ?_; assumption) | (refine and_l ?_; assumption) | (refine and_i ?_ ?_) | decide | omega | (simp [vcs]; done) | (simp only [List.length_map]; omega))) ?_
        refine WR.q [1009] rfl rfl rfl (q_ev tbOk (.v (.int .i64 (t92.length : Int))) rfl (by repeat' (first | exact trivial | assumption | intro _ | apply And.intro | (refine not_i ?_; assumption) | (refine and_l ?_; assumption) | (refine and_i ?_ ?_) | decide | omega | (simp [vcs]; done) | (simp only [List.length_map]; omega))) (by first | (simp only [List.length_map]; done) | (simp only [List.length_map]; rfl) | rfl)) ?_
        obtain ⟨v12, hvv12, h⟩ := bnd h
        refine WR.call0 fn13 rfl rfl rfl rfl (by repeat' (first | exact trivial | assumption | intro _ | apply And.intro | (refine not_i ?_; assumption) | (refine and_l ?_; assumption) | (refine and_i ?_ ?_) | decide | omega | (simp [vcs]; done) | (simp only [List.length_map]; omega))) rfl (within_con hw hvv12) ?_
        refine WR.run tbOk 2 (acc := []) rfl (by repeat' (first | exact trivial | assumption | intro _ | apply And.intro | (refine not_i ?_; assumption) | (refine and_l ?_; assumption) | (refine and_i ?_ ?_) | decide | omega | (simp [vcs]; done) | (simp only [List.length_map]; omega))) ?_
        obtain ⟨g3, h⟩ := grd h
        obtain ⟨x4, hxx4, h⟩ := bnd h
        refine WR.q [] rfl rfl rfl (q_idx tbOk rfl (by repeat' (first | exact trivial | assumption | intro _ | apply And.intro | (refine not_i ?_; assumption) | (refine and_l ?_; assumption) | (refine and_i ?_ ?_) | decide | omega | (simp [vcs]; done) | (simp only [List.length_map]; omega))) g3 (map_get (f := eInt_u8) hxx4)) ?_
        refine WR.run tbOk 1 (acc := []) rfl (by repeat' (first | exact trivial | assumption | intro _ | apply And.intro | (refine not_i ?_; assumption) | (refine and_l ?_; assumption) | (refine and_i ?_ ?_) | decide | omega | (simp [vcs]; done) | (simp only [List.length_map]; omega))) ?_
        obtain ⟨g4, h⟩ := grd h
        refine WR.q [1009] rfl rfl rfl (q_ridx tbOk rfl (by repeat' (first | exact trivial | assumption | intro _ | apply And.intro | (refine not_i ?_; assumption) | (refine and_l ?_; assumption) | (refine and_i ?_ ?_) | decide | omega | (simp [vcs]; done) | (simp only [List.length_map]; omega))) rfl (by simpa only [List.length_map] using g4)) ?_
        refine WR.rstore tbOk ((t92.set v12.toNat x4).map eInt_u8) rfl rfl rfl (by repeat' (first | exact trivial | assumption | intro _ | apply And.intro | (refine not_i ?_; assumption) | (refine and_l ?_; assumption) | (refine and_i ?_ ?_) | decide | omega | (simp [vcs]; done) | (simp only [List.length_map]; omega))) rfl (map_getD (f := eInt_u8) g4.2 g4.1) rfl (mapset (f := eInt_u8) (x := x4) (by rfl)) ?_
        refine WR.nil (by kernel_rfl) ?_
        refine WQ.blockNormal ?_
        refine WQ.thenNormal ?_
        refine WC.region ?_
        refine WL.run tbOk 3 (acc := []) rfl (by repeat' (first | exact trivial | assumption | intro _ | apply And.intro | (refine not_i ?_; assumption) | (refine and_l ?_; assumption) | (refine and_i ?_ ?_) | decide | omega | (simp [vcs]; done) | (simp only [List.length_map]; omega))) ?_
        refine WL.nil ?_
        cases h
        exact WQ.next [] ((IntKind.i64.wrap (t10 + (1 : Int))), (t92.set v12.toNat x4)) ⟨(by repeat' (first | exact trivial | refine ⟨rfl, ?_⟩)), (by repeat' (first | exact trivial | refine ⟨rfl, ?_⟩)), rfl, rfl, rfl, rfl⟩ (hn1 _ hf1)
      · replace h := ite_f hc1 h
        refine WC.exit ?_
        refine WQ.thenExit ?_
        cases h
        have he := he1 _ hf1
        subst he
        replace h := hk1
        try dsimp only at h
        refine WQ.thenExit ?_
        refine WQ.blockExit ?_
        exact WQ.cut [] t92 ⟨(by repeat' (first | exact trivial | refine ⟨rfl, ?_⟩)), (by repeat' (first | exact trivial | refine ⟨rfl, ?_⟩)), rfl, rfl, rfl, rfl⟩ h
    · intro t9 h
      replace h : lawParse_j2 t0 t9 = some _ := h
      unfold lawParse_j2 at h
      show WC _ _ _ ⟨[(9, .r 1009), (0, .v (.str t0))], [(1009, .row 5 1 (t9.map eInt_u8))]⟩ _ _
      refine WC.seq ?_
      refine WC.publish 1009 rfl rfl ?_
      refine WC.region ?_
      refine WL.run tbOk 1 (acc := []) rfl (by repeat' (first | exact trivial | assumption | intro _ | apply And.intro | (refine not_i ?_; assumption) | (refine and_l ?_; assumption) | (refine and_i ?_ ?_) | decide | omega | (simp [vcs]; done) | (simp only [List.length_map]; omega))) ?_
      refine WL.q [] rfl rfl rfl (q_b2s tbOk (xs := t9) by37 rfl (by repeat' (first | exact trivial | assumption | intro _ | apply And.intro | (refine not_i ?_; assumption) | (refine and_l ?_; assumption) | (refine and_i ?_ ?_) | decide | omega | (simp [vcs]; done) | (simp only [List.length_map]; omega)))) ?_
      obtain ⟨v3, hvv3, h⟩ := bnd h
      refine WL.call0 fn10 rfl rfl rfl rfl (by repeat' (first | exact trivial | assumption | intro _ | apply And.intro | (refine not_i ?_; assumption) | (refine and_l ?_; assumption) | (refine and_i ?_ ?_) | decide | omega | (simp [vcs]; done) | (simp only [List.length_map]; omega))) rfl (goodsParse_con hw hvv3) ?_
      refine WL.run tbOk 6 (acc := []) rfl (by repeat' (first | exact trivial | assumption | intro _ | apply And.intro | (refine not_i ?_; assumption) | (refine and_l ?_; assumption) | (refine and_i ?_ ?_) | decide | omega | (simp [vcs]; done) | (simp only [List.length_map]; omega))) ?_
      refine WL.nil ?_
      refine WQ.thenNormal ?_
      refine WC.seq ?_
      refine WC.region ?_
      refine WL.run tbOk 1 (acc := []) rfl (by repeat' (first | exact trivial | assumption | intro _ | apply And.intro | (refine not_i ?_; assumption) | (refine and_l ?_; assumption) | (refine and_i ?_ ?_) | decide | omega | (simp [vcs]; done) | (simp only [List.length_map]; omega))) ?_
      refine WL.q [] rfl rfl rfl (q_b2s tbOk (xs := t9) by37 rfl (by repeat' (first | exact trivial | assumption | intro _ | apply And.intro | (refine not_i ?_; assumption) | (refine and_l ?_; assumption) | (refine and_i ?_ ?_) | decide | omega | (simp [vcs]; done) | (simp only [List.length_map]; omega)))) ?_
      obtain ⟨v4, hvv4, h⟩ := bnd h
      refine WL.call0 fn14 rfl rfl rfl rfl (by repeat' (first | exact trivial | assumption | intro _ | apply And.intro | (refine not_i ?_; assumption) | (refine and_l ?_; assumption) | (refine and_i ?_ ?_) | decide | omega | (simp [vcs]; done) | (simp only [List.length_map]; omega))) rfl (refParseGood_con hw hvv4) ?_
      refine WL.run tbOk 6 (acc := []) rfl (by repeat' (first | exact trivial | assumption | intro _ | apply And.intro | (refine not_i ?_; assumption) | (refine and_l ?_; assumption) | (refine and_i ?_ ?_) | decide | omega | (simp [vcs]; done) | (simp only [List.length_map]; omega))) ?_
      refine WL.nil ?_
      refine WQ.thenNormal ?_
      refine WC.seq ?_
      refine WC.region ?_
      refine WL.run tbOk 1 (acc := []) rfl (by repeat' (first | exact trivial | assumption | intro _ | apply And.intro | (refine not_i ?_; assumption) | (refine and_l ?_; assumption) | (refine and_i ?_ ?_) | decide | omega | (simp [vcs]; done) | (simp only [List.length_map]; omega))) ?_
      obtain ⟨v5, hvv5, h⟩ := bnd h
      refine WL.call0 fn10 rfl rfl rfl rfl (by repeat' (first | exact trivial | assumption | intro _ | apply And.intro | (refine not_i ?_; assumption) | (refine and_l ?_; assumption) | (refine and_i ?_ ?_) | decide | omega | (simp [vcs]; done) | (simp only [List.length_map]; omega))) rfl (goodsParse_con hw hvv5) ?_
      refine WL.run tbOk 6 (acc := []) rfl (by repeat' (first | exact trivial | assumption | intro _ | apply And.intro | (refine not_i ?_; assumption) | (refine and_l ?_; assumption) | (refine and_i ?_ ?_) | decide | omega | (simp [vcs]; done) | (simp only [List.length_map]; omega))) ?_
      refine WL.nil ?_
      refine WQ.thenNormal ?_
      refine WC.seq ?_
      refine WC.region ?_
      refine WL.run tbOk 1 (acc := []) rfl (by repeat' (first | exact trivial | assumption | intro _ | apply And.intro | (refine not_i ?_; assumption) | (refine and_l ?_; assumption) | (refine and_i ?_ ?_) | decide | omega | (simp [vcs]; done) | (simp only [List.length_map]; omega))) ?_
      obtain ⟨v6, hvv6, h⟩ := bnd h
      refine WL.call0 fn14 rfl rfl rfl rfl (by repeat' (first | exact trivial | assumption | intro _ | apply And.intro | (refine not_i ?_; assumption) | (refine and_l ?_; assumption) | (refine and_i ?_ ?_) | decide | omega | (simp [vcs]; done) | (simp only [List.length_map]; omega))) rfl (refParseGood_con hw hvv6) ?_
      refine WL.run tbOk 6 (acc := []) rfl (by repeat' (first | exact trivial | assumption | intro _ | apply And.intro | (refine not_i ?_; assumption) | (refine and_l ?_; assumption) | (refine and_i ?_ ?_) | decide | omega | (simp [vcs]; done) | (simp only [List.length_map]; omega))) ?_
      refine WL.nil ?_
      refine WQ.thenNormal ?_
      refine WC.seq ?_
      refine WC.order mixed ?_
      refine WR.run tbOk 6 (acc := []) rfl (by repeat' (first | exact trivial | assumption | intro _ | apply And.intro | (refine not_i ?_; assumption) | (refine and_l ?_; assumption) | (refine and_i ?_ ?_) | decide | omega | (simp [vcs]; done) | (simp only [List.length_map]; omega))) ?_
      obtain ⟨v7, hvv7, h⟩ := bnd h
      refine WR.gcall0 fn11 rfl rfl rfl rfl rfl (fun _ => (by repeat' (first | exact trivial | assumption | intro _ | apply And.intro | (refine not_i ?_; assumption) | (refine and_l ?_; assumption) | (refine and_i ?_ ?_) | decide | omega | (simp [vcs]; done) | (simp only [List.length_map]; omega)))) rfl (fun hg => (sameGood_con hw (ite_t hg hvv7))) ?_
      refine WR.run tbOk 9 (acc := []) rfl (by repeat' (first | exact trivial | assumption | intro _ | apply And.intro | (refine not_i ?_; assumption) | (refine and_l ?_; assumption) | (refine and_i ?_ ?_) | decide | omega | (simp [vcs]; done) | (simp only [List.length_map]; omega))) ?_
      obtain ⟨v8, hvv8, h⟩ := bnd h
      refine WR.gcall0 fn11 rfl rfl rfl rfl rfl (fun _ => (by repeat' (first | exact trivial | assumption | intro _ | apply And.intro | (refine not_i ?_; assumption) | (refine and_l ?_; assumption) | (refine and_i ?_ ?_) | decide | omega | (simp [vcs]; done) | (simp only [List.length_map]; omega)))) rfl (fun hg => (sameGood_con hw (ite_t hg hvv8))) ?_
      refine WR.run tbOk 6 (acc := []) rfl (by repeat' (first | exact trivial | assumption | intro _ | apply And.intro | (refine not_i ?_; assumption) | (refine and_l ?_; assumption) | (refine and_i ?_ ?_) | decide | omega | (simp [vcs]; done) | (simp only [List.length_map]; omega))) ?_
      obtain ⟨v9, hvv9, h⟩ := bnd h
      refine WR.gcall0 fn7 rfl rfl rfl rfl rfl (fun _ => (by repeat' (first | exact trivial | assumption | intro _ | apply And.intro | (refine not_i ?_; assumption) | (refine and_l ?_; assumption) | (refine and_i ?_ ?_) | decide | omega | (simp [vcs]; done) | (simp only [List.length_map]; omega)))) rfl (fun hg => (goodsFormat_con hw (ite_t hg hvv9))) ?_
      refine WR.run tbOk 1 (acc := []) rfl (by repeat' (first | exact trivial | assumption | intro _ | apply And.intro | (refine not_i ?_; assumption) | (refine and_l ?_; assumption) | (refine and_i ?_ ?_) | decide | omega | (simp [vcs]; done) | (simp only [List.length_map]; omega))) ?_
      refine WR.gq [] rfl rfl rfl rfl (x := .v (.str (bytesI t9))) (fun hg => q_b2s tbOk (xs := t9) by37 rfl (by repeat' (first | exact trivial | assumption | intro _ | apply And.intro | (refine not_i ?_; assumption) | (refine and_l ?_; assumption) | (refine and_i ?_ ?_) | decide | omega | (simp [vcs]; done) | (simp only [List.length_map]; omega)))) ?_
      refine WR.run tbOk 4 (acc := []) rfl (by repeat' (first | exact trivial | assumption | intro _ | apply And.intro | (refine not_i ?_; assumption) | (refine and_l ?_; assumption) | (refine and_i ?_ ?_) | decide | omega | (simp [vcs]; done) | (simp only [List.length_map]; omega))) ?_
      obtain ⟨v10, hvv10, h⟩ := bnd h
      refine WR.gcall0 fn12 rfl rfl rfl rfl rfl (fun _ => (by repeat' (first | exact trivial | assumption | intro _ | apply And.intro | (refine not_i ?_; assumption) | (refine and_l ?_; assumption) | (refine and_i ?_ ?_) | decide | omega | (simp [vcs]; done) | (simp only [List.length_map]; omega)))) rfl (fun hg => (awake08_con hw (ite_t hg hvv10))) ?_
      refine WR.run tbOk 2 (acc := []) rfl (by repeat' (first | exact trivial | assumption | intro _ | apply And.intro | (refine not_i ?_; assumption) | (refine and_l ?_; assumption) | (refine and_i ?_ ?_) | decide | omega | (simp [vcs]; done) | (simp only [List.length_map]; omega))) ?_
      refine WR.nil (by kernel_rfl) ?_
      refine WQ.thenNormal ?_
      refine WC.ret ?_
      cases h
      exact WQ.rets tbOk hR [] (.inl rfl) rfl rfl (Le.refl _) (by repeat' (first | exact trivial | refine ⟨rfl, ?_⟩)) rfl rfl rfl rfl

end Go.Proofs.YtmjhpemmhnpilaaGreatDoor
