/- Contracts: the program's functions compute the plain ones; by program (gen.py). -/
import Derived.Test.YtbilobjddflpeaaGreatDoorLib
import Derived.Test.YtbilobjddflpeaaGreatDoorPh
import Derived.Test.YtbilobjddflpeaaGreatDoorCa
import Derived.Test.YtbilobjddflpeaaGreatDoorCb
import Derived.Test.YtbilobjddflpeaaGreatDoorCc
import Derived.Test.YtbilobjddflpeaaGreatDoorCd
import Derived.Test.YtbilobjddflpeaaGreatDoorCe
import Derived.Test.YtbilobjddflpeaaGreatDoorCf
set_option linter.unusedVariables false
set_option linter.unusedSimpArgs false
set_option maxHeartbeats 4000000
set_option maxRecDepth 20000
namespace Go.Proofs.YtbilobjddflpeaaGreatDoor
open Go.V Go.C

theorem lawValidate_con {wg : World} (hw : WG wg) {raw : (List ApiMeasure)} {l : (List Int)} {r : Bool} (h : lawValidate raw l = some r) : Con Tryz.prog wg gl 3 [.v (.sl 15 (raw.map eApiMeasure)), .v (.sl 1 (l.map eInt_i64))] [] (.v (.bool r)) [] := by
  unfold lawValidate at h
  refine con_of_WC (S := slotsOf 0 _) Tryz.func3 rfl Tryz.ntmps3 rfl (fun t x hx => (slotsOf_get hx).2) ?_
  intro F L w ρ0 R hR
  show WC _ _ _ ⟨[(0, .v (.sl 15 (raw.map eApiMeasure))), (1, .v (.sl 1 (l.map eInt_i64)))], []⟩ _ _
  refine WC.seq ?_
  refine WC.region ?_
  refine WL.run tbOk 1 (acc := []) rfl trivial ?_
  refine WL.nil ?_
  refine WQ.thenNormal ?_
  refine WC.seq ?_
  refine WC.region ?_
  refine WL.run tbOk 1 (acc := []) rfl trivial ?_
  obtain ⟨v, hvv, h⟩ := bnd h
  refine WL.call0 fn11 rfl rfl rfl rfl (by exact trivial) rfl (few19_con hw hvv) ?_
  refine WL.run tbOk 1 (acc := []) rfl trivial ?_
  refine WL.nil ?_
  refine WQ.thenNormal ?_
  refine WC.seq ?_
  refine WC.region ?_
  refine WL.run tbOk 1 (acc := []) rfl trivial ?_
  obtain ⟨v2, hvv2, h⟩ := bnd h
  refine WL.call0 fn12 rfl rfl rfl rfl (by exact trivial) rfl (meValidate_con hw hvv2) ?_
  refine WL.run tbOk 1 (acc := []) rfl trivial ?_
  obtain ⟨v3, hvv3, h⟩ := bnd h
  refine WL.call0 fn13 rfl rfl rfl rfl (by exact trivial) rfl (refMeasures_con hw hvv3) ?_
  refine WL.run tbOk 3 (acc := []) rfl (by repeat' (first | exact trivial | assumption | intro _ | apply And.intro | (refine not_i ?_; assumption) | (refine and_l ?_; assumption) | (refine and_i ?_ ?_) | decide | omega | (simp [vcs]; done) | (simp only [List.length_map]; omega))) ?_
  obtain ⟨v4, hvv4, h⟩ := bnd h
  refine WL.gcall0 fn14 rfl rfl rfl rfl rfl (fun _ => (by repeat' (first | exact trivial | assumption | intro _ | apply And.intro | (refine not_i ?_; assumption) | (refine and_l ?_; assumption) | (refine and_i ?_ ?_) | decide | omega | (simp [vcs]; done) | (simp only [List.length_map]; omega)))) rfl (fun hg => (madeMeasures_con hw (ite_t hg hvv4))) ?_
  obtain ⟨v5, hvv5, h⟩ := bnd h
  refine WL.gcall0 fn12 rfl rfl rfl rfl rfl (fun _ => (by repeat' (first | exact trivial | assumption | intro _ | apply And.intro | (refine not_i ?_; assumption) | (refine and_l ?_; assumption) | (refine and_i ?_ ?_) | decide | omega | (simp [vcs]; done) | (simp only [List.length_map]; omega)))) rfl (fun hg => (meValidate_con hw (ite_t hg hvv5))) ?_
  refine WL.run tbOk 3 (acc := []) rfl (by repeat' (first | exact trivial | assumption | intro _ | apply And.intro | (refine not_i ?_; assumption) | (refine and_l ?_; assumption) | (refine and_i ?_ ?_) | decide | omega | (simp [vcs]; done) | (simp only [List.length_map]; omega))) ?_
  obtain ⟨v6, hvv6, h⟩ := bnd h
  refine WL.gcall0 fn15 rfl rfl rfl rfl rfl (fun _ => (by repeat' (first | exact trivial | assumption | intro _ | apply And.intro | (refine not_i ?_; assumption) | (refine and_l ?_; assumption) | (refine and_i ?_ ?_) | decide | omega | (simp [vcs]; done) | (simp only [List.length_map]; omega)))) rfl (fun hg => (awake19_con hw (ite_t hg hvv6))) ?_
  refine WL.run tbOk 2 (acc := []) rfl (by repeat' (first | exact trivial | assumption | intro _ | apply And.intro | (refine not_i ?_; assumption) | (refine and_l ?_; assumption) | (refine and_i ?_ ?_) | decide | omega | (simp [vcs]; done) | (simp only [List.length_map]; omega))) ?_
  refine WL.nil ?_
  refine WQ.thenNormal ?_
  refine WC.ret ?_
  cases h
  exact WQ.rets tbOk hR [] (.inl rfl) rfl rfl (Le.refl _) (by exact trivial) rfl rfl rfl rfl

theorem lawChanged_con {wg : World} (hw : WG wg) {l : (List Int)} {raw : ApiMeasure} {at_ : Int} {which : Int} {n1 : Int} {r : Bool} (h : lawChanged l raw at_ which n1 = some r) : Con Tryz.prog wg gl 4 [.v (.sl 1 (l.map eInt_i64)), .v (.agg [.int .i64 raw.ID, .int .i64 raw.Kind, .str raw.Prefix, .sl 1 (raw.Origins.map eStr), .int .i64 raw.Company, .int .i64 raw.From, .int .i64 raw.To, .int .i64 raw.Registered, .int .i64 raw.Duty.Rate, .int .i64 raw.Duty.Amount, .int .i64 raw.Duty.Per, .bool raw.Duty.HasMost, .int .i64 raw.Duty.Most, .bool raw.Duty.HasLeast, .int .i64 raw.Duty.Least]), .v (.int .i64 at_), .v (.int .i64 which), .v (.int .i64 n1)] [] (.v (.bool r)) [] := by
  unfold lawChanged at h
  refine con_of_WC (S := slotsOf 0 _) Tryz.func4 rfl Tryz.ntmps4 rfl (fun t x hx => (slotsOf_get hx).2) ?_
  intro F L w ρ0 R hR
  show WC _ _ _ ⟨[(0, .v (.sl 1 (l.map eInt_i64))), (1, .v (.agg [.int .i64 raw.ID, .int .i64 raw.Kind, .str raw.Prefix, .sl 1 (raw.Origins.map eStr), .int .i64 raw.Company, .int .i64 raw.From, .int .i64 raw.To, .int .i64 raw.Registered, .int .i64 raw.Duty.Rate, .int .i64 raw.Duty.Amount, .int .i64 raw.Duty.Per, .bool raw.Duty.HasMost, .int .i64 raw.Duty.Most, .bool raw.Duty.HasLeast, .int .i64 raw.Duty.Least])), (2, .v (.int .i64 at_)), (3, .v (.int .i64 which)), (4, .v (.int .i64 n1))], []⟩ _ _
  refine WC.seq ?_
  refine WC.region ?_
  refine WL.run tbOk 2 (acc := []) rfl trivial ?_
  refine WL.nil ?_
  refine WQ.thenNormal ?_
  refine WC.seq ?_
  refine WC.region ?_
  refine WL.run tbOk 1 (acc := []) rfl trivial ?_
  obtain ⟨v, hvv, h⟩ := bnd h
  refine WL.callO [] [(500, 14)] [14] fn14 rfl rfl rfl rfl (by exact trivial) (madeMeasuresR_con hw hvv) rfl rfl (by exact trivial) rfl rfl rfl rfl rfl rfl ?_
  refine WL.run tbOk 1 (acc := []) rfl trivial ?_
  refine WL.mkLe tbOk (.v (.sl 15 ([(⟨(100 : Int), (1 : Int), ([57, 52] : Str), [], 0, 0, (5 : Int), (-1 : Int), (⟨0, 0, 0, false, 0, false, 0⟩ : ApiDuty)⟩ : ApiMeasure)].map eApiMeasure))) rfl (by exact trivial) (Le.sl (.cons (.same (.same (.same (.sl 1 (.same (.same (.same (.same (.same (.same (.same (.same (.same (.same (.same .nil))))))))))))))) .nil)) ?_
  obtain ⟨g1, h⟩ := grd h
  obtain ⟨m1, hmm1, h⟩ := bnd h
  refine WL.append tbOk (m1.map eApiMeasure) [17, 14] ap22 rfl rfl rfl rfl (fun _ e => by cases e; rfl) (by exact trivial) (map_cells (f := eApiMeasure) (xs := [(⟨(100 : Int), (1 : Int), ([57, 52] : Str), [], 0, 0, (5 : Int), (-1 : Int), (⟨0, 0, 0, false, 0, false, 0⟩ : ApiDuty)⟩ : ApiMeasure)]) fun _ => rfl) (by have := g1; simp only [List.length_map, List.length_nil, List.length_cons] at this ⊢; omega) rfl rfl (by rw [← Option.some.inj hmm1]; first | rfl | (simp only [List.map_append]; try rfl)) rfl ?_
  refine WL.run tbOk 1 (acc := []) rfl trivial ?_
  refine WL.nil ?_
  refine WQ.thenNormal ?_
  refine WC.seq ?_
  refine WC.region ?_
  refine WL.run tbOk 2 (acc := []) rfl trivial ?_
  refine WL.q [17] rfl rfl rfl (q_ev tbOk (.v (.int .i64 (m1.length : Int))) rfl (by exact trivial) (by first | (simp only [List.length_map]; done) | (simp only [List.length_map]; rfl) | rfl)) ?_
  obtain ⟨v2, hvv2, h⟩ := bnd h
  refine WL.call0 fn16 rfl rfl rfl rfl (by exact trivial) rfl (within_con hw hvv2) ?_
  refine WL.run tbOk 1 (acc := []) rfl trivial ?_
  refine WL.nil ?_
  refine WQ.thenNormal ?_
  refine WC.seq ?_
  refine WC.seq ?_
  refine WC.region ?_
  refine WL.run tbOk 1 (acc := []) rfl trivial ?_
  obtain ⟨v3, hvv3, h⟩ := bnd h
  refine WL.call0 fn16 rfl rfl rfl rfl (by exact trivial) rfl (within_con hw hvv3) ?_
  refine WL.nil ?_
  refine WQ.thenNormal ?_
  refine WC.thenCut (X := (List ApiMeasure)) (fun gG => ⟨[(11, .r 1011)], [(1011, .row 34 15 (gG.map eApiMeasure))]⟩) (fun gG => lawChanged_j1 gG = some r) ?_ ?_
  · refine WC.block ?_
    refine WC.seq ?_
    refine WC.region ?_
    refine WL.run tbOk 2 (acc := []) rfl trivial ?_
    refine WL.nil ?_
    refine WQ.thenNormal ?_
    refine WC.cond rfl (fun hc1 => ?_) (fun hc1 => ?_)
    · replace h := ite_t hc1 h
      refine WC.region ?_
      refine WL.run tbOk 3 (acc := []) rfl trivial ?_
      obtain ⟨v7, hvv7, h⟩ := bnd h
      refine WL.call0 fn16 rfl rfl rfl rfl (by exact trivial) rfl (within_con hw hvv7) ?_
      refine WL.run tbOk 1 (acc := []) rfl trivial ?_
      obtain ⟨g2, h⟩ := grd h
      refine WL.q [17] rfl rfl rfl (q_ridx tbOk rfl (by exact trivial) rfl (by simpa only [List.length_map] using g2)) ?_
      refine WL.run tbOk 1 (acc := []) rfl trivial ?_
      obtain ⟨m13, hmm13, h⟩ := bnd h
      refine WL.rstore tbOk (m13.map eApiMeasure) rfl rfl rfl (by exact trivial) rfl (map_getD (f := eApiMeasure) g2.2 g2.1) rfl (by rw [← Option.some.inj hmm13]; exact (mapset (f := eApiMeasure) (x := (⟨(IntKind.i64.wrap (v7 - (1 : Int))), (m1.getD v2.toNat default).Kind, (m1.getD v2.toNat default).Prefix, (m1.getD v2.toNat default).Origins, (m1.getD v2.toNat default).Company, (m1.getD v2.toNat default).From, (m1.getD v2.toNat default).To, (m1.getD v2.toNat default).Registered, ((m1.getD v2.toNat default).Duty)⟩ : ApiMeasure)) (by rfl))) ?_
      refine WL.nil ?_
      refine WQ.blockNormal ?_
      exact WQ.cut [(1011, 17)] m13 ⟨(by exact ⟨rfl, trivial⟩), (by exact ⟨rfl, trivial⟩), rfl, rfl, rfl, rfl⟩ h
    · replace h := ite_f hc1 h
      refine WC.seq ?_
      refine WC.region ?_
      refine WL.run tbOk 2 (acc := []) rfl trivial ?_
      refine WL.nil ?_
      refine WQ.thenNormal ?_
      refine WC.cond rfl (fun hc2 => ?_) (fun hc2 => ?_)
      · replace h := ite_t hc2 h
        refine WC.region ?_
        refine WL.run tbOk 3 (acc := []) rfl trivial ?_
        obtain ⟨v8, hvv8, h⟩ := bnd h
        refine WL.call0 fn16 rfl rfl rfl rfl (by exact trivial) rfl (within_con hw hvv8) ?_
        refine WL.run tbOk 1 (acc := []) rfl trivial ?_
        obtain ⟨g3, h⟩ := grd h
        refine WL.q [17] rfl rfl rfl (q_ridx tbOk rfl (by exact trivial) rfl (by simpa only [List.length_map] using g3)) ?_
        refine WL.run tbOk 1 (acc := []) rfl trivial ?_
        obtain ⟨m14, hmm14, h⟩ := bnd h
        refine WL.rstore tbOk (m14.map eApiMeasure) rfl rfl rfl (by exact trivial) rfl (map_getD (f := eApiMeasure) g3.2 g3.1) rfl (by rw [← Option.some.inj hmm14]; exact (mapset (f := eApiMeasure) (x := (⟨(m1.getD v2.toNat default).ID, (IntKind.i64.wrap (v8 - (1 : Int))), (m1.getD v2.toNat default).Prefix, (m1.getD v2.toNat default).Origins, (m1.getD v2.toNat default).Company, (m1.getD v2.toNat default).From, (m1.getD v2.toNat default).To, (m1.getD v2.toNat default).Registered, ((m1.getD v2.toNat default).Duty)⟩ : ApiMeasure)) (by rfl))) ?_
        refine WL.nil ?_
        refine WQ.blockNormal ?_
        exact WQ.cut [(1011, 17)] m14 ⟨(by exact ⟨rfl, trivial⟩), (by exact ⟨rfl, trivial⟩), rfl, rfl, rfl, rfl⟩ h
      · replace h := ite_f hc2 h
        refine WC.seq ?_
        refine WC.region ?_
        refine WL.run tbOk 2 (acc := []) rfl trivial ?_
        refine WL.nil ?_
        refine WQ.thenNormal ?_
        refine WC.cond rfl (fun hc3 => ?_) (fun hc3 => ?_)
        · replace h := ite_t hc3 h
          refine WC.region ?_
          refine WL.run tbOk 4 (acc := []) rfl trivial ?_
          obtain ⟨g4, h⟩ := grd h
          refine WL.q [17] rfl rfl rfl (q_ridx tbOk rfl (by exact trivial) rfl (by simpa only [List.length_map] using g4)) ?_
          refine WL.run tbOk 1 (acc := []) rfl trivial ?_
          obtain ⟨m15, hmm15, h⟩ := bnd h
          refine WL.rstore tbOk (m15.map eApiMeasure) rfl rfl rfl (by exact trivial) rfl (map_getD (f := eApiMeasure) g4.2 g4.1) rfl (by rw [← Option.some.inj hmm15]; exact (mapset (f := eApiMeasure) (x := (⟨(m1.getD v2.toNat default).ID, (m1.getD v2.toNat default).Kind, raw.Prefix, (m1.getD v2.toNat default).Origins, (m1.getD v2.toNat default).Company, (m1.getD v2.toNat default).From, (m1.getD v2.toNat default).To, (m1.getD v2.toNat default).Registered, ((m1.getD v2.toNat default).Duty)⟩ : ApiMeasure)) (by rfl))) ?_
          refine WL.nil ?_
          refine WQ.blockNormal ?_
          exact WQ.cut [(1011, 17)] m15 ⟨(by exact ⟨rfl, trivial⟩), (by exact ⟨rfl, trivial⟩), rfl, rfl, rfl, rfl⟩ h
        · replace h := ite_f hc3 h
          refine WC.seq ?_
          refine WC.region ?_
          refine WL.run tbOk 2 (acc := []) rfl trivial ?_
          refine WL.nil ?_
          refine WQ.thenNormal ?_
          refine WC.cond rfl (fun hc4 => ?_) (fun hc4 => ?_)
          · replace h := ite_t hc4 h
            refine WC.region ?_
            refine WL.run tbOk 6 (acc := []) rfl trivial ?_
            refine WL.q [] rfl rfl rfl (q_ev tbOk (.v (.int .i64 (raw.Origins.length : Int))) rfl (by exact trivial) (by first | (simp only [List.length_map]; done) | (simp only [List.length_map]; rfl) | rfl)) ?_
            refine WL.run tbOk 1 (acc := []) rfl trivial ?_
            obtain ⟨g5, h⟩ := grd h
            refine WL.q [] rfl rfl rfl (q_ev tbOk (.v (.sl 1 (((raw.Origins.take (if (22 : Int) < (raw.Origins.length : Int) then (22 : Int) else (raw.Origins.length : Int)).toNat).drop (0 : Int).toNat).map eStr))) rfl (by repeat' (first | exact trivial | assumption | intro _ | apply And.intro | (refine not_i ?_; assumption) | (refine and_l ?_; assumption) | (refine and_i ?_ ?_) | decide | omega | (simp [vcs]; done) | (simp only [List.length_map]; omega))) (by first | (simp only [List.map_take, List.map_drop]; done) | (simp only [List.map_take, List.map_drop]; rfl) | rfl)) ?_
            obtain ⟨g6, h⟩ := grd h
            refine WL.q [17] rfl rfl rfl (q_ridx tbOk rfl (by exact trivial) rfl (by simpa only [List.length_map] using g6)) ?_
            refine WL.run tbOk 1 (acc := []) rfl trivial ?_
            obtain ⟨m16, hmm16, h⟩ := bnd h
            refine WL.rstore tbOk (m16.map eApiMeasure) rfl rfl rfl (by exact trivial) rfl (map_getD (f := eApiMeasure) g6.2 g6.1) rfl (by rw [← Option.some.inj hmm16]; exact (mapset (f := eApiMeasure) (x := (⟨(m1.getD v2.toNat default).ID, (m1.getD v2.toNat default).Kind, (m1.getD v2.toNat default).Prefix, ((raw.Origins.take (if (22 : Int) < (raw.Origins.length : Int) then (22 : Int) else (raw.Origins.length : Int)).toNat).drop (0 : Int).toNat), (m1.getD v2.toNat default).Company, (m1.getD v2.toNat default).From, (m1.getD v2.toNat default).To, (m1.getD v2.toNat default).Registered, ((m1.getD v2.toNat default).Duty)⟩ : ApiMeasure)) (by rfl))) ?_
            refine WL.nil ?_
            refine WQ.blockNormal ?_
            exact WQ.cut [(1011, 17)] m16 ⟨(by exact ⟨rfl, trivial⟩), (by exact ⟨rfl, trivial⟩), rfl, rfl, rfl, rfl⟩ h
          · replace h := ite_f hc4 h
            refine WC.seq ?_
            refine WC.region ?_
            refine WL.run tbOk 2 (acc := []) rfl trivial ?_
            refine WL.nil ?_
            refine WQ.thenNormal ?_
            refine WC.cond rfl (fun hc5 => ?_) (fun hc5 => ?_)
            · replace h := ite_t hc5 h
              refine WC.region ?_
              refine WL.run tbOk 3 (acc := []) rfl trivial ?_
              obtain ⟨g7, h⟩ := grd h
              refine WL.q [17] rfl rfl rfl (q_ridx tbOk rfl (by exact trivial) rfl (by simpa only [List.length_map] using g7)) ?_
              refine WL.run tbOk 1 (acc := []) rfl trivial ?_
              obtain ⟨m17, hmm17, h⟩ := bnd h
              refine WL.rstore tbOk (m17.map eApiMeasure) rfl rfl rfl (by exact trivial) rfl (map_getD (f := eApiMeasure) g7.2 g7.1) rfl (by rw [← Option.some.inj hmm17]; exact (mapset (f := eApiMeasure) (x := (⟨(m1.getD v2.toNat default).ID, (m1.getD v2.toNat default).Kind, (m1.getD v2.toNat default).Prefix, (m1.getD v2.toNat default).Origins, n1, (m1.getD v2.toNat default).From, (m1.getD v2.toNat default).To, (m1.getD v2.toNat default).Registered, ((m1.getD v2.toNat default).Duty)⟩ : ApiMeasure)) (by rfl))) ?_
              refine WL.nil ?_
              refine WQ.blockNormal ?_
              exact WQ.cut [(1011, 17)] m17 ⟨(by exact ⟨rfl, trivial⟩), (by exact ⟨rfl, trivial⟩), rfl, rfl, rfl, rfl⟩ h
            · replace h := ite_f hc5 h
              refine WC.seq ?_
              refine WC.region ?_
              refine WL.run tbOk 2 (acc := []) rfl trivial ?_
              refine WL.nil ?_
              refine WQ.thenNormal ?_
              refine WC.cond rfl (fun hc6 => ?_) (fun hc6 => ?_)
              · replace h := ite_t hc6 h
                refine WC.region ?_
                refine WL.run tbOk 3 (acc := []) rfl trivial ?_
                obtain ⟨v9, hvv9, h⟩ := bnd h
                refine WL.call0 fn16 rfl rfl rfl rfl (by exact trivial) rfl (within_con hw hvv9) ?_
                refine WL.run tbOk 1 (acc := []) rfl trivial ?_
                obtain ⟨g8, h⟩ := grd h
                refine WL.q [17] rfl rfl rfl (q_ridx tbOk rfl (by exact trivial) rfl (by simpa only [List.length_map] using g8)) ?_
                refine WL.run tbOk 1 (acc := []) rfl trivial ?_
                obtain ⟨m18, hmm18, h⟩ := bnd h
                refine WL.rstore tbOk (m18.map eApiMeasure) rfl rfl rfl (by exact trivial) rfl (map_getD (f := eApiMeasure) g8.2 g8.1) rfl (by rw [← Option.some.inj hmm18]; exact (mapset (f := eApiMeasure) (x := (⟨(m1.getD v2.toNat default).ID, (m1.getD v2.toNat default).Kind, (m1.getD v2.toNat default).Prefix, (m1.getD v2.toNat default).Origins, (m1.getD v2.toNat default).Company, (IntKind.i64.wrap (v9 - (1 : Int))), (m1.getD v2.toNat default).To, (m1.getD v2.toNat default).Registered, ((m1.getD v2.toNat default).Duty)⟩ : ApiMeasure)) (by rfl))) ?_
                refine WL.nil ?_
                refine WQ.blockNormal ?_
                exact WQ.cut [(1011, 17)] m18 ⟨(by exact ⟨rfl, trivial⟩), (by exact ⟨rfl, trivial⟩), rfl, rfl, rfl, rfl⟩ h
              · replace h := ite_f hc6 h
                refine WC.seq ?_
                refine WC.region ?_
                refine WL.run tbOk 2 (acc := []) rfl trivial ?_
                refine WL.nil ?_
                refine WQ.thenNormal ?_
                refine WC.cond rfl (fun hc7 => ?_) (fun hc7 => ?_)
                · replace h := ite_t hc7 h
                  refine WC.region ?_
                  refine WL.run tbOk 3 (acc := []) rfl trivial ?_
                  obtain ⟨g9, h⟩ := grd h
                  refine WL.q [17] rfl rfl rfl (q_ridx tbOk rfl (by exact trivial) rfl (by simpa only [List.length_map] using g9)) ?_
                  refine WL.run tbOk 1 (acc := []) rfl trivial ?_
                  obtain ⟨m19, hmm19, h⟩ := bnd h
                  refine WL.rstore tbOk (m19.map eApiMeasure) rfl rfl rfl (by exact trivial) rfl (map_getD (f := eApiMeasure) g9.2 g9.1) rfl (by rw [← Option.some.inj hmm19]; exact (mapset (f := eApiMeasure) (x := (⟨(m1.getD v2.toNat default).ID, (m1.getD v2.toNat default).Kind, (m1.getD v2.toNat default).Prefix, (m1.getD v2.toNat default).Origins, (m1.getD v2.toNat default).Company, (m1.getD v2.toNat default).From, n1, (m1.getD v2.toNat default).Registered, ((m1.getD v2.toNat default).Duty)⟩ : ApiMeasure)) (by rfl))) ?_
                  refine WL.nil ?_
                  refine WQ.blockNormal ?_
                  exact WQ.cut [(1011, 17)] m19 ⟨(by exact ⟨rfl, trivial⟩), (by exact ⟨rfl, trivial⟩), rfl, rfl, rfl, rfl⟩ h
                · replace h := ite_f hc7 h
                  refine WC.seq ?_
                  refine WC.region ?_
                  refine WL.run tbOk 2 (acc := []) rfl trivial ?_
                  refine WL.nil ?_
                  refine WQ.thenNormal ?_
                  refine WC.cond rfl (fun hc8 => ?_) (fun hc8 => ?_)
                  · replace h := ite_t hc8 h
                    refine WC.region ?_
                    refine WL.run tbOk 3 (acc := []) rfl trivial ?_
                    obtain ⟨v10, hvv10, h⟩ := bnd h
                    refine WL.call0 fn16 rfl rfl rfl rfl (by exact trivial) rfl (within_con hw hvv10) ?_
                    refine WL.run tbOk 1 (acc := []) rfl trivial ?_
                    obtain ⟨g10, h⟩ := grd h
                    refine WL.q [17] rfl rfl rfl (q_ridx tbOk rfl (by exact trivial) rfl (by simpa only [List.length_map] using g10)) ?_
                    refine WL.run tbOk 1 (acc := []) rfl trivial ?_
                    obtain ⟨m110, hmm110, h⟩ := bnd h
                    refine WL.rstore tbOk (m110.map eApiMeasure) rfl rfl rfl (by exact trivial) rfl (map_getD (f := eApiMeasure) g10.2 g10.1) rfl (by rw [← Option.some.inj hmm110]; exact (mapset (f := eApiMeasure) (x := (⟨(m1.getD v2.toNat default).ID, (m1.getD v2.toNat default).Kind, (m1.getD v2.toNat default).Prefix, (m1.getD v2.toNat default).Origins, (m1.getD v2.toNat default).Company, (m1.getD v2.toNat default).From, (m1.getD v2.toNat default).To, (IntKind.i64.wrap (v10 - (3 : Int))), ((m1.getD v2.toNat default).Duty)⟩ : ApiMeasure)) (by rfl))) ?_
                    refine WL.nil ?_
                    refine WQ.blockNormal ?_
                    exact WQ.cut [(1011, 17)] m110 ⟨(by exact ⟨rfl, trivial⟩), (by exact ⟨rfl, trivial⟩), rfl, rfl, rfl, rfl⟩ h
                  · replace h := ite_f hc8 h
                    refine WC.seq ?_
                    refine WC.region ?_
                    refine WL.run tbOk 2 (acc := []) rfl trivial ?_
                    refine WL.nil ?_
                    refine WQ.thenNormal ?_
                    refine WC.cond rfl (fun hc9 => ?_) (fun hc9 => ?_)
                    · replace h := ite_t hc9 h
                      refine WC.region ?_
                      refine WL.run tbOk 4 (acc := []) rfl trivial ?_
                      obtain ⟨g11, h⟩ := grd h
                      refine WL.q [17] rfl rfl rfl (q_ridx tbOk rfl (by exact trivial) rfl (by simpa only [List.length_map] using g11)) ?_
                      refine WL.run tbOk 1 (acc := []) rfl trivial ?_
                      obtain ⟨m111, hmm111, h⟩ := bnd h
                      refine WL.rstore tbOk (m111.map eApiMeasure) rfl rfl rfl (by exact trivial) rfl (map_getD (f := eApiMeasure) g11.2 g11.1) rfl (by rw [← Option.some.inj hmm111]; exact (mapset (f := eApiMeasure) (x := (⟨(m1.getD v2.toNat default).ID, (m1.getD v2.toNat default).Kind, (m1.getD v2.toNat default).Prefix, (m1.getD v2.toNat default).Origins, (m1.getD v2.toNat default).Company, (m1.getD v2.toNat default).From, (m1.getD v2.toNat default).To, (m1.getD v2.toNat default).Registered, raw.Duty⟩ : ApiMeasure)) (by rfl))) ?_
                      refine WL.nil ?_
                      refine WQ.blockNormal ?_
                      exact WQ.cut [(1011, 17)] m111 ⟨(by exact ⟨rfl, trivial⟩), (by exact ⟨rfl, trivial⟩), rfl, rfl, rfl, rfl⟩ h
                    · replace h := ite_f hc9 h
                      refine WC.publish 17 rfl rfl ?_
                      refine WC.order mixed ?_
                      refine WR.buildRow tbOk (([] : (List ApiMeasure)).map eApiMeasure) rfl rfl rfl rfl (by exact trivial) rfl rfl ?_
                      refine WR.run tbOk 2 (acc := []) rfl trivial ?_
                      obtain ⟨g12, h⟩ := grd h
                      refine WR.q [] rfl rfl rfl (q_ev tbOk (.v (.sl 15 (((m1.take v2.toNat).drop (0 : Int).toNat).map eApiMeasure))) rfl (by repeat' (first | exact trivial | assumption | intro _ | apply And.intro | (refine not_i ?_; assumption) | (refine and_l ?_; assumption) | (refine and_i ?_ ?_) | decide | omega | (simp [vcs]; done) | (simp only [List.length_map]; omega))) (by first | (simp only [List.map_take, List.map_drop]; done) | (simp only [List.map_take, List.map_drop]; rfl) | rfl)) ?_
                      obtain ⟨g13, h⟩ := grd h
                      obtain ⟨m112, hmm112, h⟩ := bnd h
                      refine WR.append tbOk (m112.map eApiMeasure) [28, 24] ap22 rfl rfl rfl rfl (fun _ e => by cases e; rfl) (by exact trivial) (map_cells (f := eApiMeasure) (xs := ((m1.take v2.toNat).drop (0 : Int).toNat)) fun _ => rfl) (by have := g13; simp only [List.length_map, List.length_nil, List.length_cons] at this ⊢; omega) rfl rfl (by rw [← Option.some.inj hmm112]; first | rfl | (simp only [List.map_append]; try rfl)) rfl rfl ?_
                      refine WR.run tbOk 2 (acc := []) rfl trivial ?_
                      obtain ⟨g14, h⟩ := grd h
                      obtain ⟨x, hxx, h⟩ := bnd h
                      refine WR.q [] rfl rfl rfl (q_idx tbOk rfl (by exact trivial) g14 (map_get (f := eApiMeasure) hxx)) ?_
                      refine WR.run tbOk 2 (acc := []) rfl trivial ?_
                      obtain ⟨g15, h⟩ := grd h
                      refine WR.append tbOk ((m112 ++ [x]).map eApiMeasure) [34, 28] ap22 rfl rfl rfl rfl (fun _ e => by cases e; rfl) (by exact trivial) (map_cells (f := eApiMeasure) (xs := [x]) fun _ => rfl) (by have := g15; simp only [List.length_map, List.length_nil, List.length_cons] at this ⊢; omega) rfl rfl (by simp only [List.map_append]; try rfl) rfl rfl ?_
                      refine WR.run tbOk 2 (acc := []) rfl trivial ?_
                      obtain ⟨g16, h⟩ := grd h
                      refine WR.q [] rfl rfl rfl (q_ev tbOk (.v (.sl 15 ((m1.drop v2.toNat).map eApiMeasure))) rfl (by repeat' (first | exact trivial | assumption | intro _ | apply And.intro | (refine not_i ?_; assumption) | (refine and_l ?_; assumption) | (refine and_i ?_ ?_) | decide | omega | (simp [vcs]; done) | (simp only [List.length_map]; omega))) (by first | (simp only [List.map_take, List.map_drop]; done) | (simp only [List.map_take, List.map_drop]; rfl) | rfl)) ?_
                      obtain ⟨g17, h⟩ := grd h
                      refine WR.append tbOk (((m112 ++ [x]) ++ (m1.drop v2.toNat)).map eApiMeasure) [38, 34] ap22 rfl rfl rfl rfl (fun _ e => by cases e; rfl) (by exact trivial) (map_cells (f := eApiMeasure) (xs := (m1.drop v2.toNat)) fun _ => rfl) (by have := g17; simp only [List.length_map, List.length_nil, List.length_cons] at this ⊢; omega) rfl rfl (by simp only [List.map_append]; try rfl) rfl rfl ?_
                      refine WR.run tbOk 1 (acc := []) rfl trivial ?_
                      refine WR.nil (by kernel_rfl) ?_
                      refine WQ.blockNormal ?_
                      exact WQ.cut [(1011, 38)] ((m112 ++ [x]) ++ (m1.drop v2.toNat)) ⟨(by exact ⟨rfl, trivial⟩), (by exact ⟨rfl, trivial⟩), rfl, rfl, rfl, rfl⟩ h
  · intro m12 h
    replace h : lawChanged_j1 m12 = some _ := h
    unfold lawChanged_j1 at h
    show WC _ _ _ ⟨[(11, .r 1011)], [(1011, .row 34 15 (m12.map eApiMeasure))]⟩ _ _
    refine WC.seq ?_
    refine WC.publish 1011 rfl rfl ?_
    refine WC.region ?_
    refine WL.run tbOk 1 (acc := []) rfl trivial ?_
    obtain ⟨v4, hvv4, h⟩ := bnd h
    refine WL.call0 fn12 rfl rfl rfl rfl (by exact trivial) rfl (meValidate_con hw hvv4) ?_
    refine WL.run tbOk 1 (acc := []) rfl trivial ?_
    obtain ⟨v5, hvv5, h⟩ := bnd h
    refine WL.call0 fn13 rfl rfl rfl rfl (by exact trivial) rfl (refMeasures_con hw hvv5) ?_
    refine WL.run tbOk 2 (acc := []) rfl trivial ?_
    obtain ⟨v6, hvv6, h⟩ := bnd h
    refine WL.gcall0 fn15 rfl rfl rfl rfl rfl (fun _ => (by repeat' (first | exact trivial | assumption | intro _ | apply And.intro | (refine not_i ?_; assumption) | (refine and_l ?_; assumption) | (refine and_i ?_ ?_) | decide | omega | (simp [vcs]; done) | (simp only [List.length_map]; omega)))) rfl (fun hg => (awake19_con hw (ite_t hg hvv6))) ?_
    refine WL.run tbOk 2 (acc := []) rfl (by repeat' (first | exact trivial | assumption | intro _ | apply And.intro | (refine not_i ?_; assumption) | (refine and_l ?_; assumption) | (refine and_i ?_ ?_) | decide | omega | (simp [vcs]; done) | (simp only [List.length_map]; omega))) ?_
    refine WL.nil ?_
    refine WQ.thenNormal ?_
    refine WC.ret ?_
    cases h
    exact WQ.rets tbOk hR [] (.inl rfl) rfl rfl (Le.refl _) (by exact trivial) rfl rfl rfl rfl

end Go.Proofs.YtbilobjddflpeaaGreatDoor
