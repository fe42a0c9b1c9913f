/- Contracts: the program's functions compute the plain ones; by program (gen.py). -/
import Derived.Test.YtlacgaihahemmaaGreatDoorLib
import Derived.Test.YtlacgaihahemmaaGreatDoorPf
import Derived.Test.YtlacgaihahemmaaGreatDoorCa
import Derived.Test.YtlacgaihahemmaaGreatDoorCb
import Derived.Test.YtlacgaihahemmaaGreatDoorCc
import Derived.Test.YtlacgaihahemmaaGreatDoorCd
import Derived.Test.YtlacgaihahemmaaGreatDoorCe
set_option linter.unusedVariables false
set_option linter.unusedSimpArgs false
namespace Go.Proofs.YtlacgaihahemmaaGreatDoor
open Go.V Go.C

theorem lawLevel_con {wg : World} (hw : WG wg) {s : Str} {n1 : Int} {at_ : Int} {by_ : Int} {r : Bool} (h : lawLevel s n1 at_ by_ = some r) : Con Tryz.prog wg gl 3 [.v (.str s), .v (.int .i64 n1), .v (.int .i64 at_), .v (.int .u8 by_)] [] (.v (.bool r)) [] := by
  unfold lawLevel at h
  refine con_of_WC (S := slotsOf 0 _) Tryz.func3 rfl Tryz.ntmps3 rfl (fun t x hx => (slotsOf_get hx).2) ?_
  intro F L w ρ0 R hR
  show WC _ _ _ ⟨[(0, .v (.str s)), (1, .v (.int .i64 n1)), (2, .v (.int .i64 at_)), (3, .v (.int .u8 by_))], []⟩ _ _
  refine WC.seq ?_
  refine WC.region ?_
  refine WL.run tbOk 1 (acc := []) rfl trivial ?_
  refine WL.nil ?_
  refine WQ.thenNormal ?_
  refine WC.seq ?_
  refine WC.region ?_
  refine WL.run tbOk 1 (acc := []) rfl trivial ?_
  obtain ⟨v, hvv, h⟩ := bnd h
  refine WL.call0 fn11 rfl rfl rfl rfl (by exact trivial) rfl (within_con hw hvv) ?_
  obtain ⟨g1, h⟩ := grd h
  refine WL.run tbOk 1 (acc := []) rfl (by repeat' (first | exact trivial | assumption | intro _ | exact g1 (by assumption) | apply And.intro | (refine not_i ?_; assumption) | (refine and_l ?_; assumption) | (refine and_i ?_ ?_) | decide | omega | (simp [vcs]; done) | (simp only [List.length_map]; omega))) ?_
  obtain ⟨g2, h⟩ := grd h
  refine WL.bytes tbOk ((intsB ((([48, 49, 50, 51, 52, 53, 54, 55, 56, 57] : Str).take v.toNat).drop (0 : Int).toNat)).map eInt_u8) ap22 Tryz.underlying5 rfl rfl rfl rfl (by exact trivial) g2 rfl (by simp only [intsB, List.map_map]; rfl) ?_
  refine WL.run tbOk 1 (acc := []) rfl trivial ?_
  refine WL.nil ?_
  refine WQ.thenNormal ?_
  refine WC.seq ?_
  refine WC.seq ?_
  refine WC.region ?_
  refine WL.run tbOk 1 (acc := []) rfl trivial ?_
  refine WL.q [13] rfl rfl rfl (q_ev tbOk (.v (.int .i64 ((intsB ((([48, 49, 50, 51, 52, 53, 54, 55, 56, 57] : Str).take v.toNat).drop (0 : Int).toNat)).length : Int))) rfl (by exact trivial) (by first | (simp only [List.length_map]; done) | (simp only [List.length_map]; rfl) | rfl)) ?_
  refine WL.run tbOk 6 (acc := []) rfl (by repeat' (first | exact trivial | assumption | intro _ | apply And.intro | (refine not_i ?_; assumption) | (refine and_l ?_; assumption) | (refine and_i ?_ ?_) | decide | omega | (simp [vcs]; done) | (simp only [List.length_map]; omega))) ?_
  refine WL.nil ?_
  refine WQ.thenNormal ?_
  refine WC.thenCut (X := (List Int)) (fun gG => ⟨[(9, .r 1009), (0, .v (.str s))], [(1009, .row 5 1 (gG.map eInt_u8))]⟩) (fun gG => lawLevel_j1 s gG = some r) ?_ ?_
  · refine WC.cond rfl (fun hc1 => ?_) (fun hc1 => ?_)
    · replace h := ite_t hc1 h
      refine WC.region ?_
      refine WL.run tbOk 4 (acc := []) rfl (by repeat' (first | exact trivial | assumption | intro _ | apply And.intro | (refine not_i ?_; assumption) | (refine and_l ?_; assumption) | (refine and_i ?_ ?_) | decide | omega | (simp [vcs]; done) | (simp only [List.length_map]; omega))) ?_
      refine WL.q [13] rfl rfl rfl (q_ev tbOk (.v (.int .i64 ((intsB ((([48, 49, 50, 51, 52, 53, 54, 55, 56, 57] : Str).take v.toNat).drop (0 : Int).toNat)).length : Int))) rfl (by exact trivial) (by first | (simp only [List.length_map]; done) | (simp only [List.length_map]; rfl) | rfl)) ?_
      obtain ⟨v7, hvv7, h⟩ := bnd h
      refine WL.call0 fn11 rfl rfl rfl rfl (by exact trivial) rfl (within_con hw hvv7) ?_
      refine WL.run tbOk 1 (acc := []) rfl trivial ?_
      obtain ⟨g3, h⟩ := grd h
      refine WL.q [13] rfl rfl rfl (q_ridx tbOk rfl (by exact trivial) rfl (by simpa only [List.length_map] using g3)) ?_
      refine WL.rstore tbOk (((intsB ((([48, 49, 50, 51, 52, 53, 54, 55, 56, 57] : Str).take v.toNat).drop (0 : Int).toNat)).set v7.toNat by_).map eInt_u8) rfl rfl rfl (by exact trivial) rfl (map_getD (f := eInt_u8) g3.2 g3.1) rfl (mapset (f := eInt_u8) (x := by_) (by rfl)) ?_
      refine WL.nil ?_
      exact WQ.cut [(1009, 13)] ((intsB ((([48, 49, 50, 51, 52, 53, 54, 55, 56, 57] : Str).take v.toNat).drop (0 : Int).toNat)).set v7.toNat by_) ⟨(by exact ⟨rfl, rfl, trivial⟩), (by exact ⟨rfl, trivial⟩), rfl, rfl, rfl, rfl⟩ h
    · replace h := ite_f hc1 h
      refine WC.skip ?_
      exact WQ.cut [(1009, 13)] (intsB ((([48, 49, 50, 51, 52, 53, 54, 55, 56, 57] : Str).take v.toNat).drop (0 : Int).toNat)) ⟨(by exact ⟨rfl, rfl, trivial⟩), (by exact ⟨rfl, trivial⟩), rfl, rfl, rfl, rfl⟩ h
  · intro x h
    replace h : lawLevel_j1 s x = some _ := h
    unfold lawLevel_j1 at h
    show WC _ _ _ ⟨[(9, .r 1009), (0, .v (.str s))], [(1009, .row 5 1 (x.map eInt_u8))]⟩ _ _
    refine WC.seq ?_
    refine WC.publish 1009 rfl rfl ?_
    refine WC.order mixed ?_
    refine WR.run tbOk 1 (acc := []) rfl trivial ?_
    obtain ⟨v2, hvv2, h⟩ := bnd h
    refine WR.call0 fn12 rfl rfl rfl rfl (by exact trivial) rfl (nomLevel_con hw hvv2) ?_
    refine WR.run tbOk 1 (acc := []) rfl trivial ?_
    obtain ⟨v3, hvv3, h⟩ := bnd h
    refine WR.call0 fn13 rfl rfl rfl rfl (by exact trivial) rfl (refLevel_con hw hvv3) ?_
    refine WR.run tbOk 3 (acc := []) rfl (by repeat' (first | exact trivial | assumption | intro _ | apply And.intro | (refine not_i ?_; assumption) | (refine and_l ?_; assumption) | (refine and_i ?_ ?_) | decide | omega | (simp [vcs]; done) | (simp only [List.length_map]; omega))) ?_
    refine WR.gq [] rfl rfl rfl rfl (x := .v (.str (bytesI x))) (fun hg => q_b2s tbOk (xs := x) by22 rfl (by repeat' (first | exact trivial | assumption | intro _ | apply And.intro | (refine not_i ?_; assumption) | (refine and_l ?_; assumption) | (refine and_i ?_ ?_) | decide | omega | (simp [vcs]; done) | (simp only [List.length_map]; omega)))) ?_
    obtain ⟨v4, hvv4, h⟩ := bnd h
    refine WR.gcall0 fn12 rfl rfl rfl rfl rfl (fun _ => (by repeat' (first | exact trivial | assumption | intro _ | apply And.intro | (refine not_i ?_; assumption) | (refine and_l ?_; assumption) | (refine and_i ?_ ?_) | decide | omega | (simp [vcs]; done) | (simp only [List.length_map]; omega)))) rfl (fun hg => (nomLevel_con hw (ite_t hg hvv4))) ?_
    refine WR.run tbOk 1 (acc := []) rfl (by repeat' (first | exact trivial | assumption | intro _ | apply And.intro | (refine not_i ?_; assumption) | (refine and_l ?_; assumption) | (refine and_i ?_ ?_) | decide | omega | (simp [vcs]; done) | (simp only [List.length_map]; omega))) ?_
    refine WR.gq [] rfl rfl rfl rfl (x := .v (.str (bytesI x))) (fun hg => q_b2s tbOk (xs := x) by22 rfl (by repeat' (first | exact trivial | assumption | intro _ | apply And.intro | (refine not_i ?_; assumption) | (refine and_l ?_; assumption) | (refine and_i ?_ ?_) | decide | omega | (simp [vcs]; done) | (simp only [List.length_map]; omega)))) ?_
    obtain ⟨v5, hvv5, h⟩ := bnd h
    refine WR.gcall0 fn13 rfl rfl rfl rfl rfl (fun _ => (by repeat' (first | exact trivial | assumption | intro _ | apply And.intro | (refine not_i ?_; assumption) | (refine and_l ?_; assumption) | (refine and_i ?_ ?_) | decide | omega | (simp [vcs]; done) | (simp only [List.length_map]; omega)))) rfl (fun hg => (refLevel_con hw (ite_t hg hvv5))) ?_
    refine WR.run tbOk 3 (acc := []) rfl (by repeat' (first | exact trivial | assumption | intro _ | apply And.intro | (refine not_i ?_; assumption) | (refine and_l ?_; assumption) | (refine and_i ?_ ?_) | decide | omega | (simp [vcs]; done) | (simp only [List.length_map]; omega))) ?_
    obtain ⟨v6, hvv6, h⟩ := bnd h
    refine WR.gcall0 fn14 rfl rfl rfl rfl rfl (fun _ => (by repeat' (first | exact trivial | assumption | intro _ | apply And.intro | (refine not_i ?_; assumption) | (refine and_l ?_; assumption) | (refine and_i ?_ ?_) | decide | omega | (simp [vcs]; done) | (simp only [List.length_map]; omega)))) rfl (fun hg => (awake09_con hw (ite_t hg hvv6))) ?_
    refine WR.run tbOk 2 (acc := []) rfl (by repeat' (first | exact trivial | assumption | intro _ | apply And.intro | (refine not_i ?_; assumption) | (refine and_l ?_; assumption) | (refine and_i ?_ ?_) | decide | omega | (simp [vcs]; done) | (simp only [List.length_map]; omega))) ?_
    refine WR.nil (by kernel_rfl) ?_
    refine WQ.thenNormal ?_
    refine WC.ret ?_
    cases h
    exact WQ.rets tbOk hR [] (.inl rfl) rfl rfl (Le.refl _) (by exact trivial) rfl rfl rfl rfl

theorem lawNValidate_con {wg : World} (hw : WG wg) {raw : ApiNomenclature} {l : (List Int)} {r : Bool} (h : lawNValidate raw l = some r) : Con Tryz.prog wg gl 4 [.v (.agg [.sl 5 (raw.Entries.map eApiCodeEntry), .sl 3 (raw.Notes.map eApiCodeNote)]), .v (.sl 1 (l.map eInt_i64))] [] (.v (.bool r)) [] := by
  unfold lawNValidate at h
  refine con_of_WC (S := slotsOf 0 _) Tryz.func4 rfl Tryz.ntmps4 rfl (fun t x hx => (slotsOf_get hx).2) ?_
  intro F L w ρ0 R hR
  show WC _ _ _ ⟨[(0, .v (.agg [.sl 5 (raw.Entries.map eApiCodeEntry), .sl 3 (raw.Notes.map eApiCodeNote)])), (1, .v (.sl 1 (l.map eInt_i64)))], []⟩ _ _
  refine WC.seq ?_
  refine WC.region ?_
  refine WL.run tbOk 2 (acc := []) rfl trivial ?_
  refine WL.nil ?_
  refine WQ.thenNormal ?_
  refine WC.seq ?_
  refine WC.region ?_
  refine WL.run tbOk 1 (acc := []) rfl trivial ?_
  obtain ⟨v, hvv, h⟩ := bnd h
  refine WL.call0 fn15 rfl rfl rfl rfl (by exact trivial) rfl (few09_con hw hvv) ?_
  refine WL.run tbOk 1 (acc := []) rfl trivial ?_
  refine WL.nil ?_
  refine WQ.thenNormal ?_
  refine WC.seq ?_
  refine WC.order mixed ?_
  refine WR.run tbOk 1 (acc := []) rfl trivial ?_
  obtain ⟨v2, hvv2, h⟩ := bnd h
  refine WR.call0 fn16 rfl rfl rfl rfl (by exact trivial) rfl (nomValidate_con hw hvv2) ?_
  refine WR.run tbOk 1 (acc := []) rfl trivial ?_
  obtain ⟨v3, hvv3, h⟩ := bnd h
  refine WR.call0 fn17 rfl rfl rfl rfl (by exact trivial) rfl (refBook_con hw hvv3) ?_
  refine WR.run tbOk 3 (acc := []) rfl (by repeat' (first | exact trivial | assumption | intro _ | apply And.intro | (refine not_i ?_; assumption) | (refine and_l ?_; assumption) | (refine and_i ?_ ?_) | decide | omega | (simp [vcs]; done) | (simp only [List.length_map]; omega))) ?_
  obtain ⟨v4, hvv4, h⟩ := bnd h
  refine WR.gcall0 fn18 rfl rfl rfl rfl rfl (fun _ => (by repeat' (first | exact trivial | assumption | intro _ | apply And.intro | (refine not_i ?_; assumption) | (refine and_l ?_; assumption) | (refine and_i ?_ ?_) | decide | omega | (simp [vcs]; done) | (simp only [List.length_map]; omega)))) rfl (fun hg => (madeNom_con hw (ite_t hg hvv4))) ?_
  obtain ⟨v5, hvv5, h⟩ := bnd h
  refine WR.gcall0 fn16 rfl rfl rfl rfl rfl (fun _ => (by repeat' (first | exact trivial | assumption | intro _ | apply And.intro | (refine not_i ?_; assumption) | (refine and_l ?_; assumption) | (refine and_i ?_ ?_) | decide | omega | (simp [vcs]; done) | (simp only [List.length_map]; omega)))) rfl (fun hg => (nomValidate_con hw (ite_t hg hvv5))) ?_
  refine WR.run tbOk 3 (acc := []) rfl (by repeat' (first | exact trivial | assumption | intro _ | apply And.intro | (refine not_i ?_; assumption) | (refine and_l ?_; assumption) | (refine and_i ?_ ?_) | decide | omega | (simp [vcs]; done) | (simp only [List.length_map]; omega))) ?_
  obtain ⟨v6, hvv6, h⟩ := bnd h
  refine WR.gcall0 fn14 rfl rfl rfl rfl rfl (fun _ => (by repeat' (first | exact trivial | assumption | intro _ | apply And.intro | (refine not_i ?_; assumption) | (refine and_l ?_; assumption) | (refine and_i ?_ ?_) | decide | omega | (simp [vcs]; done) | (simp only [List.length_map]; omega)))) rfl (fun hg => (awake09_con hw (ite_t hg hvv6))) ?_
  refine WR.run tbOk 2 (acc := []) rfl (by repeat' (first | exact trivial | assumption | intro _ | apply And.intro | (refine not_i ?_; assumption) | (refine and_l ?_; assumption) | (refine and_i ?_ ?_) | decide | omega | (simp [vcs]; done) | (simp only [List.length_map]; omega))) ?_
  refine WR.nil (by kernel_rfl) ?_
  refine WQ.thenNormal ?_
  refine WC.ret ?_
  cases h
  exact WQ.rets tbOk hR [] (.inl rfl) rfl rfl (Le.refl _) (by exact trivial) rfl rfl rfl rfl

theorem lawNChanged_con {wg : World} (hw : WG wg) {a0 : (List Int)} {a1 : ApiCodeEntry} {a2 : ApiCodeNote} {a3 : Int} {a4 : Int} {a5 : Int} {r : Bool} (h : lawNChanged a0 a1 a2 a3 a4 a5 = some r) : Con Tryz.prog wg gl 5 [.v (.sl 1 (a0.map eInt_i64)), .v (.agg [.str a1.Code, .int .i64 a1.From, .int .i64 a1.To, .sl 1 (a1.Terms.map eLStr), .bool a1.Other]), .v (.agg [.str a2.Scope, .sl 1 (a2.Words.map eStr), .str a2.Target]), .v (.int .i64 a3), .v (.int .i64 a4), .v (.int .i64 a5)] [] (.v (.bool r)) [] := by
  unfold lawNChanged at h
  refine con_of_WC (S := slotsOf 0 _) Tryz.func5 rfl Tryz.ntmps5 rfl (fun t x hx => (slotsOf_get hx).2) ?_
  intro F L w ρ0 R hR
  show WC _ _ _ ⟨[(0, .v (.sl 1 (a0.map eInt_i64))), (1, .v (.agg [.str a1.Code, .int .i64 a1.From, .int .i64 a1.To, .sl 1 (a1.Terms.map eLStr), .bool a1.Other])), (2, .v (.agg [.str a2.Scope, .sl 1 (a2.Words.map eStr), .str a2.Target])), (3, .v (.int .i64 a3)), (4, .v (.int .i64 a4)), (5, .v (.int .i64 a5))], []⟩ _ _
  refine WC.seq ?_
  refine WC.region ?_
  refine WL.run tbOk 3 (acc := []) rfl trivial ?_
  refine WL.nil ?_
  refine WQ.thenNormal ?_
  refine WC.seq ?_
  refine WC.region ?_
  refine WL.run tbOk 1 (acc := []) rfl trivial ?_
  obtain ⟨v, hvv, h⟩ := bnd h
  refine WL.call0 fn18 rfl rfl rfl rfl (by exact trivial) rfl (madeNom_con hw hvv) ?_
  refine WL.run tbOk 2 (acc := []) rfl trivial ?_
  refine WL.nil ?_
  refine WQ.thenNormal ?_
  refine WC.seq ?_
  refine WC.region ?_
  refine WL.buildRow tbOk (([] : (List ApiCodeEntry)).map eApiCodeEntry) rfl rfl rfl rfl (by exact trivial) rfl rfl ?_
  refine WL.run tbOk 2 (acc := []) rfl trivial ?_
  obtain ⟨g1, h⟩ := grd h
  refine WL.append tbOk (v.Entries.map eApiCodeEntry) [21, 18] ap28 rfl rfl rfl rfl (fun _ e => by cases e; rfl) (by exact trivial) (map_cells (f := eApiCodeEntry) (xs := v.Entries) fun _ => rfl) (by have := g1; simp only [List.length_map, List.length_nil, List.length_cons] at this ⊢; omega) rfl rfl rfl rfl ?_
  refine WL.run tbOk 1 (acc := []) rfl trivial ?_
  refine WL.nil ?_
  refine WQ.thenNormal ?_
  refine WC.seq ?_
  refine WC.region ?_
  refine WL.run tbOk 2 (acc := []) rfl trivial ?_
  refine WL.q [21] rfl rfl rfl (q_ev tbOk (.v (.int .i64 (v.Entries.length : Int))) rfl (by exact trivial) (by first | (simp only [List.length_map]; done) | (simp only [List.length_map]; rfl) | rfl)) ?_
  obtain ⟨v2, hvv2, h⟩ := bnd h
  refine WL.call0 fn11 rfl rfl rfl rfl (by exact trivial) rfl (within_con hw hvv2) ?_
  refine WL.run tbOk 1 (acc := []) rfl trivial ?_
  refine WL.nil ?_
  refine WQ.thenNormal ?_
  refine WC.seq ?_
  refine WC.seq ?_
  refine WC.region ?_
  refine WL.run tbOk 1 (acc := []) rfl trivial ?_
  obtain ⟨v3, hvv3, h⟩ := bnd h
  refine WL.call0 fn11 rfl rfl rfl rfl (by exact trivial) rfl (within_con hw hvv3) ?_
  refine WL.nil ?_
  refine WQ.thenNormal ?_
  refine WC.thenCut (X := (List ApiCodeEntry) × (List ApiCodeNote)) (fun gG => ⟨[(14, .r 1014), (13, .p 13 0)], [(1014, .row 40 5 (gG.1.map eApiCodeEntry)), (13, .blk 31 [.v (.sl 5 (v.Entries.map eApiCodeEntry)), .v (.sl 3 (gG.2.map eApiCodeNote))])]⟩) (fun gG => lawNChanged_j1 v gG.1 gG.2 = some r) ?_ ?_
  · refine WC.block ?_
    refine WC.seq ?_
    refine WC.region ?_
    refine WL.run tbOk 2 (acc := []) rfl trivial ?_
    refine WL.nil ?_
    refine WQ.thenNormal ?_
    refine WC.cond rfl (fun hc1 => ?_) (fun hc1 => ?_)
    · replace h := ite_t hc1 h
      refine WC.region ?_
      refine WL.run tbOk 3 (acc := []) rfl trivial ?_
      obtain ⟨g2, h⟩ := grd h
      refine WL.q [21] rfl rfl rfl (q_ridx tbOk rfl (by exact trivial) rfl (by simpa only [List.length_map] using g2)) ?_
      refine WL.rstore tbOk ((v.Entries.set v2.toNat a1).map eApiCodeEntry) rfl rfl rfl (by exact trivial) rfl (map_getD (f := eApiCodeEntry) g2.2 g2.1) rfl (mapset (f := eApiCodeEntry) (x := a1) (by rfl)) ?_
      refine WL.nil ?_
      refine WQ.blockNormal ?_
      exact WQ.cut [(1014, 21)] ((v.Entries.set v2.toNat a1), v.Notes) ⟨(by exact ⟨rfl, rfl, trivial⟩), (by exact ⟨rfl, rfl, trivial⟩), rfl, rfl, rfl, rfl⟩ h
    · replace h := ite_f hc1 h
      refine WC.seq ?_
      refine WC.region ?_
      refine WL.run tbOk 2 (acc := []) rfl trivial ?_
      refine WL.nil ?_
      refine WQ.thenNormal ?_
      refine WC.cond rfl (fun hc2 => ?_) (fun hc2 => ?_)
      · replace h := ite_t hc2 h
        refine WC.publish 21 rfl rfl ?_
        refine WC.order mixed ?_
        refine WR.buildRow tbOk (([] : (List ApiCodeEntry)).map eApiCodeEntry) rfl rfl rfl rfl (by exact trivial) rfl rfl ?_
        refine WR.run tbOk 2 (acc := []) rfl trivial ?_
        obtain ⟨g3, h⟩ := grd h
        refine WR.q [] rfl rfl rfl (q_ev tbOk (.v (.sl 5 (((v.Entries.take v2.toNat).drop (0 : Int).toNat).map eApiCodeEntry))) rfl (by repeat' (first | exact trivial | assumption | intro _ | apply And.intro | (refine not_i ?_; assumption) | (refine and_l ?_; assumption) | (refine and_i ?_ ?_) | decide | omega | (simp [vcs]; done) | (simp only [List.length_map]; omega))) (by first | (simp only [List.map_take, List.map_drop]; done) | (simp only [List.map_take, List.map_drop]; rfl) | rfl)) ?_
        obtain ⟨g4, h⟩ := grd h
        refine WR.append tbOk (((v.Entries.take v2.toNat).drop (0 : Int).toNat).map eApiCodeEntry) [48, 44] ap28 rfl rfl rfl rfl (fun _ e => by cases e; rfl) (by exact trivial) (map_cells (f := eApiCodeEntry) (xs := ((v.Entries.take v2.toNat).drop (0 : Int).toNat)) fun _ => rfl) (by have := g4; simp only [List.length_map, List.length_nil, List.length_cons] at this ⊢; omega) rfl rfl rfl rfl rfl ?_
        refine WR.run tbOk 3 (acc := []) rfl trivial ?_
        obtain ⟨g5, h⟩ := grd h
        refine WR.q [] rfl rfl rfl (q_ev tbOk (.v (.sl 5 ((v.Entries.drop (IntKind.i64.wrap (v2 + (1 : Int))).toNat).map eApiCodeEntry))) rfl (by repeat' (first | exact trivial | assumption | intro _ | apply And.intro | (refine not_i ?_; assumption) | (refine and_l ?_; assumption) | (refine and_i ?_ ?_) | decide | omega | (simp [vcs]; done) | (simp only [List.length_map]; omega))) (by first | (simp only [List.map_take, List.map_drop]; done) | (simp only [List.map_take, List.map_drop]; rfl) | rfl)) ?_
        obtain ⟨g6, h⟩ := grd h
        refine WR.append tbOk ((((v.Entries.take v2.toNat).drop (0 : Int).toNat) ++ (v.Entries.drop (IntKind.i64.wrap (v2 + (1 : Int))).toNat)).map eApiCodeEntry) [53, 48] ap28 rfl rfl rfl rfl (fun _ e => by cases e; rfl) (by exact trivial) (map_cells (f := eApiCodeEntry) (xs := (v.Entries.drop (IntKind.i64.wrap (v2 + (1 : Int))).toNat)) fun _ => rfl) (by have := g6; simp only [List.length_map, List.length_nil, List.length_cons] at this ⊢; omega) rfl rfl (by simp only [List.map_append]; try rfl) rfl rfl ?_
        refine WR.run tbOk 1 (acc := []) rfl trivial ?_
        refine WR.nil (by kernel_rfl) ?_
        refine WQ.blockNormal ?_
        exact WQ.cut [(1014, 53)] ((((v.Entries.take v2.toNat).drop (0 : Int).toNat) ++ (v.Entries.drop (IntKind.i64.wrap (v2 + (1 : Int))).toNat)), v.Notes) ⟨(by exact ⟨rfl, rfl, trivial⟩), (by exact ⟨rfl, rfl, trivial⟩), rfl, rfl, rfl, rfl⟩ h
      · replace h := ite_f hc2 h
        refine WC.seq ?_
        refine WC.region ?_
        refine WL.run tbOk 2 (acc := []) rfl trivial ?_
        refine WL.nil ?_
        refine WQ.thenNormal ?_
        refine WC.cond rfl (fun hc3 => ?_) (fun hc3 => ?_)
        · replace h := ite_t hc3 h
          refine WC.publish 21 rfl rfl ?_
          refine WC.order mixed ?_
          refine WR.buildRow tbOk (([] : (List ApiCodeEntry)).map eApiCodeEntry) rfl rfl rfl rfl (by exact trivial) rfl rfl ?_
          refine WR.run tbOk 2 (acc := []) rfl trivial ?_
          obtain ⟨g7, h⟩ := grd h
          refine WR.q [] rfl rfl rfl (q_ev tbOk (.v (.sl 5 (((v.Entries.take v2.toNat).drop (0 : Int).toNat).map eApiCodeEntry))) rfl (by repeat' (first | exact trivial | assumption | intro _ | apply And.intro | (refine not_i ?_; assumption) | (refine and_l ?_; assumption) | (refine and_i ?_ ?_) | decide | omega | (simp [vcs]; done) | (simp only [List.length_map]; omega))) (by first | (simp only [List.map_take, List.map_drop]; done) | (simp only [List.map_take, List.map_drop]; rfl) | rfl)) ?_
          obtain ⟨g8, h⟩ := grd h
          refine WR.append tbOk (((v.Entries.take v2.toNat).drop (0 : Int).toNat).map eApiCodeEntry) [60, 56] ap28 rfl rfl rfl rfl (fun _ e => by cases e; rfl) (by exact trivial) (map_cells (f := eApiCodeEntry) (xs := ((v.Entries.take v2.toNat).drop (0 : Int).toNat)) fun _ => rfl) (by have := g8; simp only [List.length_map, List.length_nil, List.length_cons] at this ⊢; omega) rfl rfl rfl rfl rfl ?_
          refine WR.run tbOk 2 (acc := []) rfl trivial ?_
          obtain ⟨g9, h⟩ := grd h
          obtain ⟨x, hxx, h⟩ := bnd h
          refine WR.q [] rfl rfl rfl (q_idx tbOk rfl (by exact trivial) g9 (map_get (f := eApiCodeEntry) hxx)) ?_
          refine WR.run tbOk 2 (acc := []) rfl trivial ?_
          obtain ⟨g10, h⟩ := grd h
          refine WR.append tbOk ((((v.Entries.take v2.toNat).drop (0 : Int).toNat) ++ [x]).map eApiCodeEntry) [66, 60] ap28 rfl rfl rfl rfl (fun _ e => by cases e; rfl) (by exact trivial) (map_cells (f := eApiCodeEntry) (xs := [x]) fun _ => rfl) (by have := g10; simp only [List.length_map, List.length_nil, List.length_cons] at this ⊢; omega) rfl rfl (by simp only [List.map_append]; try rfl) rfl rfl ?_
          refine WR.run tbOk 2 (acc := []) rfl trivial ?_
          obtain ⟨g11, h⟩ := grd h
          refine WR.q [] rfl rfl rfl (q_ev tbOk (.v (.sl 5 ((v.Entries.drop v2.toNat).map eApiCodeEntry))) rfl (by repeat' (first | exact trivial | assumption | intro _ | apply And.intro | (refine not_i ?_; assumption) | (refine and_l ?_; assumption) | (refine and_i ?_ ?_) | decide | omega | (simp [vcs]; done) | (simp only [List.length_map]; omega))) (by first | (simp only [List.map_take, List.map_drop]; done) | (simp only [List.map_take, List.map_drop]; rfl) | rfl)) ?_
          obtain ⟨g12, h⟩ := grd h
          refine WR.append tbOk (((((v.Entries.take v2.toNat).drop (0 : Int).toNat) ++ [x]) ++ (v.Entries.drop v2.toNat)).map eApiCodeEntry) [70, 66] ap28 rfl rfl rfl rfl (fun _ e => by cases e; rfl) (by exact trivial) (map_cells (f := eApiCodeEntry) (xs := (v.Entries.drop v2.toNat)) fun _ => rfl) (by have := g12; simp only [List.length_map, List.length_nil, List.length_cons] at this ⊢; omega) rfl rfl (by simp only [List.map_append]; try rfl) rfl rfl ?_
          refine WR.run tbOk 1 (acc := []) rfl trivial ?_
          refine WR.nil (by kernel_rfl) ?_
          refine WQ.blockNormal ?_
          exact WQ.cut [(1014, 70)] (((((v.Entries.take v2.toNat).drop (0 : Int).toNat) ++ [x]) ++ (v.Entries.drop v2.toNat)), v.Notes) ⟨(by exact ⟨rfl, rfl, trivial⟩), (by exact ⟨rfl, rfl, trivial⟩), rfl, rfl, rfl, rfl⟩ h
        · replace h := ite_f hc3 h
          refine WC.seq ?_
          refine WC.region ?_
          refine WL.run tbOk 2 (acc := []) rfl trivial ?_
          refine WL.nil ?_
          refine WQ.thenNormal ?_
          refine WC.cond rfl (fun hc4 => ?_) (fun hc4 => ?_)
          · replace h := ite_t hc4 h
            refine WC.region ?_
            refine WL.run tbOk 3 (acc := []) rfl trivial ?_
            obtain ⟨v7, hvv7, h⟩ := bnd h
            refine WL.call0 fn11 rfl rfl rfl rfl (by exact trivial) rfl (within_con hw hvv7) ?_
            refine WL.run tbOk 1 (acc := []) rfl trivial ?_
            obtain ⟨g13, h⟩ := grd h
            refine WL.q [21] rfl rfl rfl (q_ridx tbOk rfl (by exact trivial) rfl (by simpa only [List.length_map] using g13)) ?_
            refine WL.run tbOk 1 (acc := []) rfl trivial ?_
            refine WL.rstore tbOk ((v.Entries.set v2.toNat (⟨(v.Entries.getD v2.toNat default).Code, (IntKind.i64.wrap (v7 - (1 : Int))), (v.Entries.getD v2.toNat default).To, (v.Entries.getD v2.toNat default).Terms, (v.Entries.getD v2.toNat default).Other⟩ : ApiCodeEntry)).map eApiCodeEntry) rfl rfl rfl (by exact trivial) rfl (map_getD (f := eApiCodeEntry) g13.2 g13.1) rfl (mapset (f := eApiCodeEntry) (x := (⟨(v.Entries.getD v2.toNat default).Code, (IntKind.i64.wrap (v7 - (1 : Int))), (v.Entries.getD v2.toNat default).To, (v.Entries.getD v2.toNat default).Terms, (v.Entries.getD v2.toNat default).Other⟩ : ApiCodeEntry)) (by rfl)) ?_
            refine WL.nil ?_
            refine WQ.blockNormal ?_
            exact WQ.cut [(1014, 21)] ((v.Entries.set v2.toNat (⟨(v.Entries.getD v2.toNat default).Code, (IntKind.i64.wrap (v7 - (1 : Int))), (v.Entries.getD v2.toNat default).To, (v.Entries.getD v2.toNat default).Terms, (v.Entries.getD v2.toNat default).Other⟩ : ApiCodeEntry)), v.Notes) ⟨(by exact ⟨rfl, rfl, trivial⟩), (by exact ⟨rfl, rfl, trivial⟩), rfl, rfl, rfl, rfl⟩ h
          · replace h := ite_f hc4 h
            refine WC.seq ?_
            refine WC.region ?_
            refine WL.run tbOk 2 (acc := []) rfl trivial ?_
            refine WL.nil ?_
            refine WQ.thenNormal ?_
            refine WC.cond rfl (fun hc5 => ?_) (fun hc5 => ?_)
            · replace h := ite_t hc5 h
              refine WC.region ?_
              refine WL.run tbOk 3 (acc := []) rfl trivial ?_
              obtain ⟨v8, hvv8, h⟩ := bnd h
              refine WL.call0 fn11 rfl rfl rfl rfl (by exact trivial) rfl (within_con hw hvv8) ?_
              obtain ⟨g14, h⟩ := grd h
              refine WL.q [21] rfl rfl rfl (q_ridx tbOk rfl (by exact trivial) rfl (by simpa only [List.length_map] using g14)) ?_
              refine WL.run tbOk 1 (acc := []) rfl trivial ?_
              refine WL.rstore tbOk ((v.Entries.set v2.toNat (⟨(v.Entries.getD v2.toNat default).Code, (v.Entries.getD v2.toNat default).From, v8, (v.Entries.getD v2.toNat default).Terms, (v.Entries.getD v2.toNat default).Other⟩ : ApiCodeEntry)).map eApiCodeEntry) rfl rfl rfl (by exact trivial) rfl (map_getD (f := eApiCodeEntry) g14.2 g14.1) rfl (mapset (f := eApiCodeEntry) (x := (⟨(v.Entries.getD v2.toNat default).Code, (v.Entries.getD v2.toNat default).From, v8, (v.Entries.getD v2.toNat default).Terms, (v.Entries.getD v2.toNat default).Other⟩ : ApiCodeEntry)) (by rfl)) ?_
              refine WL.nil ?_
              refine WQ.blockNormal ?_
              exact WQ.cut [(1014, 21)] ((v.Entries.set v2.toNat (⟨(v.Entries.getD v2.toNat default).Code, (v.Entries.getD v2.toNat default).From, v8, (v.Entries.getD v2.toNat default).Terms, (v.Entries.getD v2.toNat default).Other⟩ : ApiCodeEntry)), v.Notes) ⟨(by exact ⟨rfl, rfl, trivial⟩), (by exact ⟨rfl, rfl, trivial⟩), rfl, rfl, rfl, rfl⟩ h
            · replace h := ite_f hc5 h
              refine WC.seq ?_
              refine WC.region ?_
              refine WL.run tbOk 2 (acc := []) rfl trivial ?_
              refine WL.nil ?_
              refine WQ.thenNormal ?_
              refine WC.cond rfl (fun hc6 => ?_) (fun hc6 => ?_)
              · replace h := ite_t hc6 h
                refine WC.region ?_
                refine WL.run tbOk 4 (acc := []) rfl trivial ?_
                obtain ⟨g15, h⟩ := grd h
                refine WL.q [21] rfl rfl rfl (q_ridx tbOk rfl (by exact trivial) rfl (by simpa only [List.length_map] using g15)) ?_
                refine WL.run tbOk 1 (acc := []) rfl trivial ?_
                refine WL.rstore tbOk ((v.Entries.set v2.toNat (⟨(v.Entries.getD v2.toNat default).Code, (v.Entries.getD v2.toNat default).From, (v.Entries.getD v2.toNat default).To, a1.Terms, (v.Entries.getD v2.toNat default).Other⟩ : ApiCodeEntry)).map eApiCodeEntry) rfl rfl rfl (by exact trivial) rfl (map_getD (f := eApiCodeEntry) g15.2 g15.1) rfl (mapset (f := eApiCodeEntry) (x := (⟨(v.Entries.getD v2.toNat default).Code, (v.Entries.getD v2.toNat default).From, (v.Entries.getD v2.toNat default).To, a1.Terms, (v.Entries.getD v2.toNat default).Other⟩ : ApiCodeEntry)) (by rfl)) ?_
                refine WL.nil ?_
                refine WQ.blockNormal ?_
                exact WQ.cut [(1014, 21)] ((v.Entries.set v2.toNat (⟨(v.Entries.getD v2.toNat default).Code, (v.Entries.getD v2.toNat default).From, (v.Entries.getD v2.toNat default).To, a1.Terms, (v.Entries.getD v2.toNat default).Other⟩ : ApiCodeEntry)), v.Notes) ⟨(by exact ⟨rfl, rfl, trivial⟩), (by exact ⟨rfl, rfl, trivial⟩), rfl, rfl, rfl, rfl⟩ h
              · replace h := ite_f hc6 h
                refine WC.seq ?_
                refine WC.region ?_
                refine WL.run tbOk 2 (acc := []) rfl trivial ?_
                refine WL.nil ?_
                refine WQ.thenNormal ?_
                refine WC.cond rfl (fun hc7 => ?_) (fun hc7 => ?_)
                · replace h := ite_t hc7 h
                  refine WC.region ?_
                  refine WL.run tbOk 4 (acc := []) rfl trivial ?_
                  obtain ⟨g16, h⟩ := grd h
                  refine WL.q [21] rfl rfl rfl (q_ridx tbOk rfl (by exact trivial) rfl (by simpa only [List.length_map] using g16)) ?_
                  refine WL.run tbOk 1 (acc := []) rfl trivial ?_
                  refine WL.q [21] rfl rfl rfl (x := .v (.bool ((v.Entries.getD v2.toNat default).Other))) (q_rload tbOk rfl (by exact trivial) rfl (map_getD (f := eApiCodeEntry) g16.2 g16.1) rfl) ?_
                  refine WL.run tbOk 1 (acc := []) rfl trivial ?_
                  obtain ⟨g17, h⟩ := grd h
                  refine WL.q [21] rfl rfl rfl (q_ridx tbOk rfl (by exact trivial) rfl (by simpa only [List.length_map] using g17)) ?_
                  refine WL.run tbOk 1 (acc := []) rfl trivial ?_
                  refine WL.rstore tbOk ((v.Entries.set v2.toNat (⟨(v.Entries.getD v2.toNat default).Code, (v.Entries.getD v2.toNat default).From, (v.Entries.getD v2.toNat default).To, (v.Entries.getD v2.toNat default).Terms, (!((v.Entries.getD v2.toNat default).Other))⟩ : ApiCodeEntry)).map eApiCodeEntry) rfl rfl rfl (by exact trivial) rfl (map_getD (f := eApiCodeEntry) g17.2 g17.1) rfl (mapset (f := eApiCodeEntry) (x := (⟨(v.Entries.getD v2.toNat default).Code, (v.Entries.getD v2.toNat default).From, (v.Entries.getD v2.toNat default).To, (v.Entries.getD v2.toNat default).Terms, (!((v.Entries.getD v2.toNat default).Other))⟩ : ApiCodeEntry)) (by rfl)) ?_
                  refine WL.nil ?_
                  refine WQ.blockNormal ?_
                  exact WQ.cut [(1014, 21)] ((v.Entries.set v2.toNat (⟨(v.Entries.getD v2.toNat default).Code, (v.Entries.getD v2.toNat default).From, (v.Entries.getD v2.toNat default).To, (v.Entries.getD v2.toNat default).Terms, (!((v.Entries.getD v2.toNat default).Other))⟩ : ApiCodeEntry)), v.Notes) ⟨(by exact ⟨rfl, rfl, trivial⟩), (by exact ⟨rfl, rfl, trivial⟩), rfl, rfl, rfl, rfl⟩ h
                · replace h := ite_f hc7 h
                  refine WC.order mixed ?_
                  refine WR.buildRow tbOk (([] : (List ApiCodeNote)).map eApiCodeNote) rfl rfl rfl rfl (by exact trivial) rfl rfl ?_
                  refine WR.run tbOk 2 (acc := []) rfl trivial ?_
                  obtain ⟨g18, h⟩ := grd h
                  refine WR.append tbOk (v.Notes.map eApiCodeNote) [31, 28] ap29 rfl rfl rfl rfl (fun _ e => by cases e; rfl) (by exact trivial) (map_cells (f := eApiCodeNote) (xs := v.Notes) fun _ => rfl) (by have := g18; simp only [List.length_map, List.length_nil, List.length_cons] at this ⊢; omega) rfl rfl rfl rfl rfl ?_
                  refine WR.run tbOk 2 (acc := []) rfl trivial ?_
                  obtain ⟨g19, h⟩ := grd h
                  refine WR.append tbOk ((v.Notes ++ [a2]).map eApiCodeNote) [34, 31] ap29 rfl rfl rfl rfl (fun _ e => by cases e; rfl) (by exact trivial) (map_cells (f := eApiCodeNote) (xs := [a2]) fun _ => rfl) (by have := g19; simp only [List.length_map, List.length_nil, List.length_cons] at this ⊢; omega) rfl rfl (by simp only [List.map_append]; try rfl) rfl rfl ?_
                  refine WR.run tbOk 2 (acc := []) rfl trivial ?_
                  refine WR.nil (by kernel_rfl) ?_
                  refine WQ.blockNormal ?_
                  refine WQ.publish 34 rfl rfl ?_
                  exact WQ.cut [(1014, 21)] (v.Entries, (v.Notes ++ [a2])) ⟨(by exact ⟨rfl, rfl, trivial⟩), (by exact ⟨rfl, rfl, trivial⟩), rfl, rfl, rfl, rfl⟩ h
  · rintro ⟨t14, c13_1⟩ h
    replace h : lawNChanged_j1 v t14 c13_1 = some _ := h
    unfold lawNChanged_j1 at h
    show WC _ _ _ ⟨[(14, .r 1014), (13, .p 13 0)], [(1014, .row 40 5 (t14.map eApiCodeEntry)), (13, .blk 31 [.v (.sl 5 (v.Entries.map eApiCodeEntry)), .v (.sl 3 (c13_1.map eApiCodeNote))])]⟩ _ _
    refine WC.seq ?_
    refine WC.region ?_
    refine WL.run tbOk 3 (acc := []) rfl trivial ?_
    refine WL.nil ?_
    refine WQ.thenNormal ?_
    refine WC.seq ?_
    refine WC.publish 1014 rfl rfl ?_
    refine WC.order mixed ?_
    refine WR.run tbOk 1 (acc := []) rfl trivial ?_
    obtain ⟨v4, hvv4, h⟩ := bnd h
    refine WR.call0 fn16 rfl rfl rfl rfl (by exact trivial) rfl (nomValidate_con hw hvv4) ?_
    refine WR.run tbOk 1 (acc := []) rfl trivial ?_
    obtain ⟨v5, hvv5, h⟩ := bnd h
    refine WR.call0 fn17 rfl rfl rfl rfl (by exact trivial) rfl (refBook_con hw hvv5) ?_
    refine WR.run tbOk 2 (acc := []) rfl trivial ?_
    obtain ⟨v6, hvv6, h⟩ := bnd h
    refine WR.gcall0 fn14 rfl rfl rfl rfl rfl (fun _ => (by repeat' (first | exact trivial | assumption | intro _ | apply And.intro | (refine not_i ?_; assumption) | (refine and_l ?_; assumption) | (refine and_i ?_ ?_) | decide | omega | (simp [vcs]; done) | (simp only [List.length_map]; omega)))) rfl (fun hg => (awake09_con hw (ite_t hg hvv6))) ?_
    refine WR.run tbOk 2 (acc := []) rfl (by repeat' (first | exact trivial | assumption | intro _ | apply And.intro | (refine not_i ?_; assumption) | (refine and_l ?_; assumption) | (refine and_i ?_ ?_) | decide | omega | (simp [vcs]; done) | (simp only [List.length_map]; omega))) ?_
    refine WR.nil (by kernel_rfl) ?_
    refine WQ.thenNormal ?_
    refine WC.ret ?_
    cases h
    exact WQ.rets tbOk hR [] (.inl rfl) rfl rfl (Le.refl _) (by exact trivial) rfl rfl rfl rfl

end Go.Proofs.YtlacgaihahemmaaGreatDoor
