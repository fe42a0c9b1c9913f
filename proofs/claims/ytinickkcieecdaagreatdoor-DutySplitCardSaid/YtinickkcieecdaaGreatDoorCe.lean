/- Contracts: the program's functions compute the plain ones; by program (gen.py). -/
import Derived.Test.YtinickkcieecdaaGreatDoorLib
import Derived.Test.YtinickkcieecdaaGreatDoorPe
import Derived.Test.YtinickkcieecdaaGreatDoorCa
import Derived.Test.YtinickkcieecdaaGreatDoorCb
import Derived.Test.YtinickkcieecdaaGreatDoorCc
import Derived.Test.YtinickkcieecdaaGreatDoorCd
set_option linter.unusedVariables false
set_option linter.unusedSimpArgs false
namespace Go.Proofs.YtinickkcieecdaaGreatDoor
open Go.V Go.C

theorem dutyPart_con {wg : World} (hw : WG wg) {rate : Int} {a1 : Int} {a2 : Int} {r : ExactWide} (h : dutyPart rate a1 a2 = some r) : Con Tryz.prog wg gl 38 [.v (.int .i64 rate), .p 1 0, .p 2 0] [(1, .blk 3 [.v (.int .i64 a1)]), (2, .blk 59 [.v (.int .u64 a2)])] (.v (.agg [.int .u64 r.Hi, .int .u64 r.Lo])) [(1, .blk 3 [.v (.int .i64 a1)]), (2, .blk 59 [.v (.int .u64 a2)])] := by
  unfold dutyPart at h
  refine con_of_WC (S := slotsOf 0 _) Tryz.func38 rfl Tryz.ntmps38 rfl (fun t x hx => (slotsOf_get hx).2) ?_
  intro F L w ρ0 R hR
  show WC _ _ _ ⟨[(0, .v (.int .i64 rate)), (1, .p 1 0), (2, .p 2 0)], [(1, .blk 3 [.v (.int .i64 a1)]), (2, .blk 59 [.v (.int .u64 a2)])]⟩ _ _
  refine WC.seq ?_
  refine WC.region ?_
  refine WL.run tbOk 1 (acc := []) rfl (by repeat' (first | exact trivial | assumption | intro _ | apply And.intro | (refine not_i ?_; assumption) | (refine and_l ?_; assumption) | (refine and_i ?_ ?_) | decide | omega | (simp [vcs]; done) | (simp only [List.length_map]; omega))) ?_
  refine WL.nil ?_
  refine WQ.thenNormal ?_
  refine WC.seq ?_
  refine WC.region ?_
  refine WL.run tbOk 6 (acc := []) rfl (by repeat' (first | exact trivial | assumption | intro _ | apply And.intro | (refine not_i ?_; assumption) | (refine and_l ?_; assumption) | (refine and_i ?_ ?_) | decide | omega | (simp [vcs]; done) | (simp only [List.length_map]; omega))) ?_
  obtain ⟨v, hvv, h⟩ := bnd h
  refine WL.call0 fn39 rfl rfl rfl rfl (by repeat' (first | exact trivial | assumption | intro _ | apply And.intro | (refine not_i ?_; assumption) | (refine and_l ?_; assumption) | (refine and_i ?_ ?_) | decide | omega | (simp [vcs]; done) | (simp only [List.length_map]; omega))) rfl (exactMul_con hw hvv) ?_
  refine WL.run tbOk 1 (acc := []) rfl (by repeat' (first | exact trivial | assumption | intro _ | apply And.intro | (refine not_i ?_; assumption) | (refine and_l ?_; assumption) | (refine and_i ?_ ?_) | decide | omega | (simp [vcs]; done) | (simp only [List.length_map]; omega))) ?_
  refine WL.nil ?_
  refine WQ.thenNormal ?_
  refine WC.ret ?_
  cases h
  exact WQ.rets tbOk hR [] (.inl rfl) rfl rfl (Le.refl _) (by repeat' (first | exact trivial | refine ⟨rfl, ?_⟩)) rfl rfl rfl rfl

theorem dutyEvaluate_con {wg : World} (hw : WG wg) {a0 : ApiDuty} {a1 : Int} {a2 : Int} {r : Int × Int} (h : dutyEvaluate a0 a1 a2 = some r) : Con Tryz.prog wg gl 20 [.v (.agg [.int .i64 a0.Rate, .int .i64 a0.Amount, .int .i64 a0.Per, .bool a0.HasMost, .int .i64 a0.Most, .bool a0.HasLeast, .int .i64 a0.Least]), .v (.int .i64 a1), .v (.int .i64 a2)] [] (.tup [.v (.int .i64 r.1), .v (.int .i64 r.2)]) [] := by
  unfold dutyEvaluate at h
  refine con_of_WC (S := slotsOf 0 _) Tryz.func20 rfl Tryz.ntmps20 rfl (fun t x hx => (slotsOf_get hx).2) ?_
  intro F L w ρ0 R hR
  show WC _ _ _ ⟨[(0, .v (.agg [.int .i64 a0.Rate, .int .i64 a0.Amount, .int .i64 a0.Per, .bool a0.HasMost, .int .i64 a0.Most, .bool a0.HasLeast, .int .i64 a0.Least])), (1, .v (.int .i64 a1)), (2, .v (.int .i64 a2))], []⟩ _ _
  refine WC.seq ?_
  refine WC.region ?_
  refine WL.run tbOk 4 (acc := []) rfl (by repeat' (first | exact trivial | assumption | intro _ | apply And.intro | (refine not_i ?_; assumption) | (refine and_l ?_; assumption) | (refine and_i ?_ ?_) | decide | omega | (simp [vcs]; done) | (simp only [List.length_map]; omega))) ?_
  refine WL.nil ?_
  refine WQ.thenNormal ?_
  refine WC.seq ?_
  refine WC.seq ?_
  refine WC.region ?_
  refine WL.run tbOk 1 (acc := []) rfl (by repeat' (first | exact trivial | assumption | intro _ | apply And.intro | (refine not_i ?_; assumption) | (refine and_l ?_; assumption) | (refine and_i ?_ ?_) | decide | omega | (simp [vcs]; done) | (simp only [List.length_map]; omega))) ?_
  obtain ⟨v, hvv, h⟩ := bnd h
  refine WL.call0 fn11 rfl rfl rfl rfl (by repeat' (first | exact trivial | assumption | intro _ | apply And.intro | (refine not_i ?_; assumption) | (refine and_l ?_; assumption) | (refine and_i ?_ ?_) | decide | omega | (simp [vcs]; done) | (simp only [List.length_map]; omega))) rfl (dutyValidate_con hw hvv) ?_
  refine WL.run tbOk 1 (acc := []) rfl (by repeat' (first | exact trivial | assumption | intro _ | apply And.intro | (refine not_i ?_; assumption) | (refine and_l ?_; assumption) | (refine and_i ?_ ?_) | decide | omega | (simp [vcs]; done) | (simp only [List.length_map]; omega))) ?_
  refine WL.nil ?_
  refine WQ.thenNormal ?_
  refine WC.seq ?_
  refine WC.region ?_
  refine WL.run tbOk 2 (acc := []) rfl (by repeat' (first | exact trivial | assumption | intro _ | apply And.intro | (refine not_i ?_; assumption) | (refine and_l ?_; assumption) | (refine and_i ?_ ?_) | decide | omega | (simp [vcs]; done) | (simp only [List.length_map]; omega))) ?_
  refine WL.nil ?_
  refine WQ.thenNormal ?_
  refine WC.cond rfl (fun hc1 => ?_) (fun hc1 => ?_)
  · replace h := ite_t hc1 h
    refine WC.seq ?_
    refine WC.region ?_
    refine WL.run tbOk 3 (acc := []) rfl (by repeat' (first | exact trivial | assumption | intro _ | apply And.intro | (refine not_i ?_; assumption) | (refine and_l ?_; assumption) | (refine and_i ?_ ?_) | decide | omega | (simp [vcs]; done) | (simp only [List.length_map]; omega))) ?_
    refine WL.nil ?_
    refine WQ.thenNormal ?_
    refine WC.ret ?_
    refine WQ.thenRet ?_
    cases h
    exact WQ.rets tbOk (r := .tup [.v (.int .i64 (0 : Int)), .v (.int .i64 v)]) hR [] (.inl rfl) rfl rfl (Le.tup (.cons (Le.refl _) (.cons (Le.refl _) .nil))) (by repeat' (first | exact trivial | refine ⟨rfl, ?_⟩)) rfl rfl rfl rfl
  · replace h := ite_f hc1 h
    refine WC.skip ?_
    refine WQ.thenNormal ?_
    refine WC.seq ?_
    refine WC.seq ?_
    refine WC.region ?_
    refine WL.run tbOk 14 (acc := []) rfl (by repeat' (first | exact trivial | assumption | intro _ | apply And.intro | (refine not_i ?_; assumption) | (refine and_l ?_; assumption) | (refine and_i ?_ ?_) | decide | omega | (simp [vcs]; done) | (simp only [List.length_map]; omega))) ?_
    refine WL.nil ?_
    refine WQ.thenNormal ?_
    refine WC.cond rfl (fun hc2 => ?_) (fun hc2 => ?_)
    · replace h := ite_t hc2 h
      refine WC.seq ?_
      refine WC.region ?_
      refine WL.run tbOk 2 (acc := []) rfl (by repeat' (first | exact trivial | assumption | intro _ | apply And.intro | (refine not_i ?_; assumption) | (refine and_l ?_; assumption) | (refine and_i ?_ ?_) | decide | omega | (simp [vcs]; done) | (simp only [List.length_map]; omega))) ?_
      refine WL.nil ?_
      refine WQ.thenNormal ?_
      refine WC.ret ?_
      refine WQ.thenRet ?_
      cases h
      exact WQ.rets tbOk (r := .tup [.v (.int .i64 (0 : Int)), .v (.int .i64 (2 : Int))]) hR [] (.inl rfl) rfl rfl (Le.tup (.cons (Le.refl _) (.cons (Le.refl _) .nil))) (by repeat' (first | exact trivial | refine ⟨rfl, ?_⟩)) rfl rfl rfl rfl
    · replace h := ite_f hc2 h
      refine WC.skip ?_
      refine WQ.thenNormal ?_
      refine WC.seq ?_
      refine WC.region ?_
      refine WL.run tbOk 6 (acc := []) rfl (by repeat' (first | exact trivial | assumption | intro _ | apply And.intro | (refine not_i ?_; assumption) | (refine and_l ?_; assumption) | (refine and_i ?_ ?_) | decide | omega | (simp [vcs]; done) | (simp only [List.length_map]; omega))) ?_
      refine WL.nil ?_
      refine WQ.thenNormal ?_
      refine WC.seq ?_
      refine WC.region ?_
      refine WL.run tbOk 2 (acc := []) rfl (by repeat' (first | exact trivial | assumption | intro _ | apply And.intro | (refine not_i ?_; assumption) | (refine and_l ?_; assumption) | (refine and_i ?_ ?_) | decide | omega | (simp [vcs]; done) | (simp only [List.length_map]; omega))) ?_
      refine WL.nil ?_
      refine WQ.thenNormal ?_
      refine WC.seq ?_
      refine WC.order mixed ?_
      refine WR.run tbOk 3 (acc := []) rfl (by repeat' (first | exact trivial | assumption | intro _ | apply And.intro | (refine not_i ?_; assumption) | (refine and_l ?_; assumption) | (refine and_i ?_ ?_) | decide | omega | (simp [vcs]; done) | (simp only [List.length_map]; omega))) ?_
      obtain ⟨v2, hvv2, h⟩ := bnd h
      refine WR.callO [(1, 4), (2, 9)] [(1, 4), (2, 9)] [4, 9] fn38 rfl rfl rfl rfl (by repeat' (first | exact trivial | assumption | intro _ | apply And.intro | (refine not_i ?_; assumption) | (refine and_l ?_; assumption) | (refine and_i ?_ ?_) | decide | omega | (simp [vcs]; done) | (simp only [List.length_map]; omega))) (dutyPart_con hw hvv2) rfl rfl (by repeat' (first | exact trivial | refine ⟨rfl, ?_⟩)) rfl rfl rfl rfl rfl rfl ?_
      refine WR.run tbOk 6 (acc := []) rfl (by repeat' (first | exact trivial | assumption | intro _ | apply And.intro | (refine not_i ?_; assumption) | (refine and_l ?_; assumption) | (refine and_i ?_ ?_) | decide | omega | (simp [vcs]; done) | (simp only [List.length_map]; omega))) ?_
      obtain ⟨v3, hvv3, h⟩ := bnd h
      refine WR.call0 fn39 rfl rfl rfl rfl (by repeat' (first | exact trivial | assumption | intro _ | apply And.intro | (refine not_i ?_; assumption) | (refine and_l ?_; assumption) | (refine and_i ?_ ?_) | decide | omega | (simp [vcs]; done) | (simp only [List.length_map]; omega))) rfl (exactMul_con hw hvv3) ?_
      obtain ⟨v4, hvv4, h⟩ := bnd h
      refine WR.call0 fn40 rfl rfl rfl rfl (by repeat' (first | exact trivial | assumption | intro _ | apply And.intro | (refine not_i ?_; assumption) | (refine and_l ?_; assumption) | (refine and_i ?_ ?_) | decide | omega | (simp [vcs]; done) | (simp only [List.length_map]; omega))) rfl (exactAdd_con hw hvv4) ?_
      refine WR.run tbOk 6 (acc := []) rfl (by repeat' (first | exact trivial | assumption | intro _ | apply And.intro | (refine not_i ?_; assumption) | (refine and_l ?_; assumption) | (refine and_i ?_ ?_) | decide | omega | (simp [vcs]; done) | (simp only [List.length_map]; omega))) ?_
      refine WR.nil (by kernel_rfl) ?_
      refine WQ.thenNormal ?_
      refine WC.seq ?_
      refine WC.seq ?_
      refine WC.region ?_
      refine WL.run tbOk 2 (acc := []) rfl (by repeat' (first | exact trivial | assumption | intro _ | apply And.intro | (refine not_i ?_; assumption) | (refine and_l ?_; assumption) | (refine and_i ?_ ?_) | decide | omega | (simp [vcs]; done) | (simp only [List.length_map]; omega))) ?_
      refine WL.nil ?_
      refine WQ.thenNormal ?_
      refine WC.cond rfl (fun hc3 => ?_) (fun hc3 => ?_)
      · replace h := ite_t hc3 h
        refine WC.seq ?_
        refine WC.region ?_
        refine WL.run tbOk 2 (acc := []) rfl (by repeat' (first | exact trivial | assumption | intro _ | apply And.intro | (refine not_i ?_; assumption) | (refine and_l ?_; assumption) | (refine and_i ?_ ?_) | decide | omega | (simp [vcs]; done) | (simp only [List.length_map]; omega))) ?_
        refine WL.nil ?_
        refine WQ.thenNormal ?_
        refine WC.ret ?_
        refine WQ.thenRet ?_
        cases h
        exact WQ.rets tbOk (r := .tup [.v (.int .i64 (0 : Int)), .v (.int .i64 (3 : Int))]) hR [] (.inl rfl) rfl rfl (Le.tup (.cons (Le.refl _) (.cons (Le.refl _) .nil))) (by repeat' (first | exact trivial | refine ⟨rfl, ?_⟩)) rfl rfl rfl rfl
      · replace h := ite_f hc3 h
        refine WC.skip ?_
        refine WQ.thenNormal ?_
        refine WC.seq ?_
        refine WC.seq ?_
        refine WC.order mixed ?_
        refine WR.run tbOk 7 (acc := []) rfl (by repeat' (first | exact trivial | assumption | intro _ | apply And.intro | (refine not_i ?_; assumption) | (refine and_l ?_; assumption) | (refine and_i ?_ ?_) | decide | omega | (simp [vcs]; done) | (simp only [List.length_map]; omega))) ?_
        obtain ⟨v5, hvv5, h⟩ := bnd h
        refine WR.gcallO [(1, 4), (2, 9)] [4, 9] fn38 rfl rfl rfl rfl rfl (fun _ => (by repeat' (first | exact trivial | assumption | intro _ | apply And.intro | (refine not_i ?_; assumption) | (refine and_l ?_; assumption) | (refine and_i ?_ ?_) | decide | omega | (simp [vcs]; done) | (simp only [List.length_map]; omega)))) (fun hg => (dutyPart_con hw (ite_t hg hvv5))) rfl rfl (by repeat' (first | exact trivial | refine ⟨rfl, ?_⟩)) rfl rfl rfl rfl rfl ?_
        obtain ⟨v6, hvv6, h⟩ := bnd h
        refine WR.gcall0 fn41 rfl rfl rfl rfl rfl (fun _ => (by repeat' (first | exact trivial | assumption | intro _ | apply And.intro | (refine not_i ?_; assumption) | (refine and_l ?_; assumption) | (refine and_i ?_ ?_) | decide | omega | (simp [vcs]; done) | (simp only [List.length_map]; omega)))) rfl (fun hg => (exactCmp_con hw (ite_t hg hvv6))) ?_
        refine WR.run tbOk 2 (acc := []) rfl (by repeat' (first | exact trivial | assumption | intro _ | apply And.intro | (refine not_i ?_; assumption) | (refine and_l ?_; assumption) | (refine and_i ?_ ?_) | decide | omega | (simp [vcs]; done) | (simp only [List.length_map]; omega))) ?_
        refine WR.nil (by kernel_rfl) ?_
        refine WQ.thenNormal ?_
        refine WC.cond rfl (fun hc4 => ?_) (fun hc4 => ?_)
        · replace h := ite_t hc4 h
          refine WC.region ?_
          refine WL.run tbOk 3 (acc := []) rfl (by repeat' (first | exact trivial | assumption | intro _ | apply And.intro | (refine not_i ?_; assumption) | (refine and_l ?_; assumption) | (refine and_i ?_ ?_) | decide | omega | (simp [vcs]; done) | (simp only [List.length_map]; omega))) ?_
          obtain ⟨v7, hvv7, h⟩ := bnd h
          refine WL.callO [(1, 4), (2, 9)] [(1, 4), (2, 9)] [4, 9] fn38 rfl rfl rfl rfl (by repeat' (first | exact trivial | assumption | intro _ | apply And.intro | (refine not_i ?_; assumption) | (refine and_l ?_; assumption) | (refine and_i ?_ ?_) | decide | omega | (simp [vcs]; done) | (simp only [List.length_map]; omega))) (dutyPart_con hw hvv7) rfl rfl (by repeat' (first | exact trivial | refine ⟨rfl, ?_⟩)) rfl rfl rfl rfl rfl rfl ?_
          refine WL.run tbOk 1 (acc := []) rfl (by repeat' (first | exact trivial | assumption | intro _ | apply And.intro | (refine not_i ?_; assumption) | (refine and_l ?_; assumption) | (refine and_i ?_ ?_) | decide | omega | (simp [vcs]; done) | (simp only [List.length_map]; omega))) ?_
          refine WL.nil ?_
          refine WQ.thenNormal ?_
          refine WC.seq ?_
          refine WC.seq ?_
          refine WC.order mixed ?_
          refine WR.run tbOk 7 (acc := []) rfl (by repeat' (first | exact trivial | assumption | intro _ | apply And.intro | (refine not_i ?_; assumption) | (refine and_l ?_; assumption) | (refine and_i ?_ ?_) | decide | omega | (simp [vcs]; done) | (simp only [List.length_map]; omega))) ?_
          obtain ⟨v8, hvv8, h⟩ := bnd h
          refine WR.gcallO [(1, 4), (2, 9)] [4, 9] fn38 rfl rfl rfl rfl rfl (fun _ => (by repeat' (first | exact trivial | assumption | intro _ | apply And.intro | (refine not_i ?_; assumption) | (refine and_l ?_; assumption) | (refine and_i ?_ ?_) | decide | omega | (simp [vcs]; done) | (simp only [List.length_map]; omega)))) (fun hg => (dutyPart_con hw (ite_t hg hvv8))) rfl rfl (by repeat' (first | exact trivial | refine ⟨rfl, ?_⟩)) rfl rfl rfl rfl rfl ?_
          obtain ⟨v9, hvv9, h⟩ := bnd h
          refine WR.gcall0 fn41 rfl rfl rfl rfl rfl (fun _ => (by repeat' (first | exact trivial | assumption | intro _ | apply And.intro | (refine not_i ?_; assumption) | (refine and_l ?_; assumption) | (refine and_i ?_ ?_) | decide | omega | (simp [vcs]; done) | (simp only [List.length_map]; omega)))) rfl (fun hg => (exactCmp_con hw (ite_t hg hvv9))) ?_
          refine WR.run tbOk 2 (acc := []) rfl (by repeat' (first | exact trivial | assumption | intro _ | apply And.intro | (refine not_i ?_; assumption) | (refine and_l ?_; assumption) | (refine and_i ?_ ?_) | decide | omega | (simp [vcs]; done) | (simp only [List.length_map]; omega))) ?_
          refine WR.nil (by kernel_rfl) ?_
          refine WQ.thenNormal ?_
          refine WC.cond rfl (fun hc5 => ?_) (fun hc5 => ?_)
          · replace h := ite_t hc5 h
            refine WC.region ?_
            refine WL.run tbOk 3 (acc := []) rfl (by repeat' (first | exact trivial | assumption | intro _ | apply And.intro | (refine not_i ?_; assumption) | (refine and_l ?_; assumption) | (refine and_i ?_ ?_) | decide | omega | (simp [vcs]; done) | (simp only [List.length_map]; omega))) ?_
            obtain ⟨v10, hvv10, h⟩ := bnd h
            refine WL.callO [(1, 4), (2, 9)] [(1, 4), (2, 9)] [4, 9] fn38 rfl rfl rfl rfl (by repeat' (first | exact trivial | assumption | intro _ | apply And.intro | (refine not_i ?_; assumption) | (refine and_l ?_; assumption) | (refine and_i ?_ ?_) | decide | omega | (simp [vcs]; done) | (simp only [List.length_map]; omega))) (dutyPart_con hw hvv10) rfl rfl (by repeat' (first | exact trivial | refine ⟨rfl, ?_⟩)) rfl rfl rfl rfl rfl rfl ?_
            refine WL.run tbOk 1 (acc := []) rfl (by repeat' (first | exact trivial | assumption | intro _ | apply And.intro | (refine not_i ?_; assumption) | (refine and_l ?_; assumption) | (refine and_i ?_ ?_) | decide | omega | (simp [vcs]; done) | (simp only [List.length_map]; omega))) ?_
            refine WL.nil ?_
            refine WQ.thenNormal ?_
            refine WC.seq ?_
            refine WC.region ?_
            refine WL.run tbOk 3 (acc := []) rfl (by repeat' (first | exact trivial | assumption | intro _ | apply And.intro | (refine not_i ?_; assumption) | (refine and_l ?_; assumption) | (refine and_i ?_ ?_) | decide | omega | (simp [vcs]; done) | (simp only [List.length_map]; omega))) ?_
            obtain ⟨v11, hvv11, h⟩ := bnd h
            refine WL.call0 fn42 rfl rfl rfl rfl (by repeat' (first | exact trivial | assumption | intro _ | apply And.intro | (refine not_i ?_; assumption) | (refine and_l ?_; assumption) | (refine and_i ?_ ?_) | decide | omega | (simp [vcs]; done) | (simp only [List.length_map]; omega))) rfl (exactDiv_con hw hvv11) ?_
            refine WL.run tbOk 5 (acc := []) rfl (by repeat' (first | exact trivial | assumption | intro _ | apply And.intro | (refine not_i ?_; assumption) | (refine and_l ?_; assumption) | (refine and_i ?_ ?_) | decide | omega | (simp [vcs]; done) | (simp only [List.length_map]; omega))) ?_
            refine WL.nil ?_
            refine WQ.thenNormal ?_
            refine WC.seq ?_
            refine WC.seq ?_
            refine WC.region ?_
            refine WL.run tbOk 6 (acc := []) rfl (by repeat' (first | exact trivial | assumption | intro _ | apply And.intro | (refine not_i ?_; assumption) | (refine and_l ?_; assumption) | (refine and_i ?_ ?_) | decide | omega | (simp [vcs]; done) | (simp only [List.length_map]; omega))) ?_
            refine WL.nil ?_
            refine WQ.thenNormal ?_
            refine WC.cond rfl (fun hc6 => ?_) (fun hc6 => ?_)
            · replace h := ite_t hc6 h
              refine WC.seq ?_
              refine WC.region ?_
              refine WL.run tbOk 2 (acc := []) rfl (by repeat' (first | exact trivial | assumption | intro _ | apply And.intro | (refine not_i ?_; assumption) | (refine and_l ?_; assumption) | (refine and_i ?_ ?_) | decide | omega | (simp [vcs]; done) | (simp only [List.length_map]; omega))) ?_
              refine WL.nil ?_
              refine WQ.thenNormal ?_
              refine WC.ret ?_
              refine WQ.thenRet ?_
              cases h
              exact WQ.rets tbOk (r := .tup [.v (.int .i64 (0 : Int)), .v (.int .i64 (3 : Int))]) hR [] (.inl rfl) rfl rfl (Le.tup (.cons (Le.refl _) (.cons (Le.refl _) .nil))) (by repeat' (first | exact trivial | refine ⟨rfl, ?_⟩)) rfl rfl rfl rfl
            · replace h := ite_f hc6 h
              refine WC.skip ?_
              refine WQ.thenNormal ?_
              refine WC.seq ?_
              refine WC.region ?_
              refine WL.run tbOk 4 (acc := []) rfl (by repeat' (first | exact trivial | assumption | intro _ | apply And.intro | (refine not_i ?_; assumption) | (refine and_l ?_; assumption) | (refine and_i ?_ ?_) | decide | omega | (simp [vcs]; done) | (simp only [List.length_map]; omega))) ?_
              refine WL.nil ?_
              refine WQ.thenNormal ?_
              refine WC.ret ?_
              cases h
              exact WQ.rets tbOk (r := .tup [.v (.int .i64 (IntKind.i64.wrap v11.1)), .v (.int .i64 (0 : Int))]) hR [] (.inl rfl) rfl rfl (Le.tup (.cons (Le.refl _) (.cons (Le.refl _) .nil))) (by repeat' (first | exact trivial | refine ⟨rfl, ?_⟩)) rfl rfl rfl rfl
          · replace h := ite_f hc5 h
            refine WC.skip ?_
            refine WQ.thenNormal ?_
            refine WC.seq ?_
            refine WC.region ?_
            refine WL.run tbOk 3 (acc := []) rfl (by repeat' (first | exact trivial | assumption | intro _ | apply And.intro | (refine not_i ?_; assumption) | (refine and_l ?_; assumption) | (refine and_i ?_ ?_) | decide | omega | (simp [vcs]; done) | (simp only [List.length_map]; omega))) ?_
            obtain ⟨v12, hvv12, h⟩ := bnd h
            refine WL.call0 fn42 rfl rfl rfl rfl (by repeat' (first | exact trivial | assumption | intro _ | apply And.intro | (refine not_i ?_; assumption) | (refine and_l ?_; assumption) | (refine and_i ?_ ?_) | decide | omega | (simp [vcs]; done) | (simp only [List.length_map]; omega))) rfl (exactDiv_con hw hvv12) ?_
            refine WL.run tbOk 5 (acc := []) rfl (by repeat' (first | exact trivial | assumption | intro _ | apply And.intro | (refine not_i ?_; assumption) | (refine and_l ?_; assumption) | (refine and_i ?_ ?_) | decide | omega | (simp [vcs]; done) | (simp only [List.length_map]; omega))) ?_
            refine WL.nil ?_
            refine WQ.thenNormal ?_
            refine WC.seq ?_
            refine WC.seq ?_
            refine WC.region ?_
            refine WL.run tbOk 6 (acc := []) rfl (by repeat' (first | exact trivial | assumption | intro _ | apply And.intro | (refine not_i ?_; assumption) | (refine and_l ?_; assumption) | (refine and_i ?_ ?_) | decide | omega | (simp [vcs]; done) | (simp only [List.length_map]; omega))) ?_
            refine WL.nil ?_
            refine WQ.thenNormal ?_
            refine WC.cond rfl (fun hc7 => ?_) (fun hc7 => ?_)
            · replace h := ite_t hc7 h
              refine WC.seq ?_
              refine WC.region ?_
              refine WL.run tbOk 2 (acc := []) rfl (by repeat' (first | exact trivial | assumption | intro _ | apply And.intro | (refine not_i ?_; assumption) | (refine and_l ?_; assumption) | (refine and_i ?_ ?_) | decide | omega | (simp [vcs]; done) | (simp only [List.length_map]; omega))) ?_
              refine WL.nil ?_
              refine WQ.thenNormal ?_
              refine WC.ret ?_
              refine WQ.thenRet ?_
              cases h
              exact WQ.rets tbOk (r := .tup [.v (.int .i64 (0 : Int)), .v (.int .i64 (3 : Int))]) hR [] (.inl rfl) rfl rfl (Le.tup (.cons (Le.refl _) (.cons (Le.refl _) .nil))) (by repeat' (first | exact trivial | refine ⟨rfl, ?_⟩)) rfl rfl rfl rfl
            · replace h := ite_f hc7 h
              refine WC.skip ?_
              refine WQ.thenNormal ?_
              refine WC.seq ?_
              refine WC.region ?_
              refine WL.run tbOk 4 (acc := []) rfl (by repeat' (first | exact trivial | assumption | intro _ | apply And.intro | (refine not_i ?_; assumption) | (refine and_l ?_; assumption) | (refine and_i ?_ ?_) | decide | omega | (simp [vcs]; done) | (simp only [List.length_map]; omega))) ?_
              refine WL.nil ?_
              refine WQ.thenNormal ?_
              refine WC.ret ?_
              cases h
              exact WQ.rets tbOk (r := .tup [.v (.int .i64 (IntKind.i64.wrap v12.1)), .v (.int .i64 (0 : Int))]) hR [] (.inl rfl) rfl rfl (Le.tup (.cons (Le.refl _) (.cons (Le.refl _) .nil))) (by repeat' (first | exact trivial | refine ⟨rfl, ?_⟩)) rfl rfl rfl rfl
        · replace h := ite_f hc4 h
          refine WC.skip ?_
          refine WQ.thenNormal ?_
          refine WC.seq ?_
          refine WC.seq ?_
          refine WC.order mixed ?_
          refine WR.run tbOk 7 (acc := []) rfl (by repeat' (first | exact trivial | assumption | intro _ | apply And.intro | (refine not_i ?_; assumption) | (refine and_l ?_; assumption) | (refine and_i ?_ ?_) | decide | omega | (simp [vcs]; done) | (simp only [List.length_map]; omega))) ?_
          obtain ⟨v13, hvv13, h⟩ := bnd h
          refine WR.gcallO [(1, 4), (2, 9)] [4, 9] fn38 rfl rfl rfl rfl rfl (fun _ => (by repeat' (first | exact trivial | assumption | intro _ | apply And.intro | (refine not_i ?_; assumption) | (refine and_l ?_; assumption) | (refine and_i ?_ ?_) | decide | omega | (simp [vcs]; done) | (simp only [List.length_map]; omega)))) (fun hg => (dutyPart_con hw (ite_t hg hvv13))) rfl rfl (by repeat' (first | exact trivial | refine ⟨rfl, ?_⟩)) rfl rfl rfl rfl rfl ?_
          obtain ⟨v14, hvv14, h⟩ := bnd h
          refine WR.gcall0 fn41 rfl rfl rfl rfl rfl (fun _ => (by repeat' (first | exact trivial | assumption | intro _ | apply And.intro | (refine not_i ?_; assumption) | (refine and_l ?_; assumption) | (refine and_i ?_ ?_) | decide | omega | (simp [vcs]; done) | (simp only [List.length_map]; omega)))) rfl (fun hg => (exactCmp_con hw (ite_t hg hvv14))) ?_
          refine WR.run tbOk 2 (acc := []) rfl (by repeat' (first | exact trivial | assumption | intro _ | apply And.intro | (refine not_i ?_; assumption) | (refine and_l ?_; assumption) | (refine and_i ?_ ?_) | decide | omega | (simp [vcs]; done) | (simp only [List.length_map]; omega))) ?_
          refine WR.nil (by kernel_rfl) ?_
          refine WQ.thenNormal ?_
          refine WC.cond rfl (fun hc8 => ?_) (fun hc8 => ?_)
          · replace h := ite_t hc8 h
            refine WC.region ?_
            refine WL.run tbOk 3 (acc := []) rfl (by repeat' (first | exact trivial | assumption | intro _ | apply And.intro | (refine not_i ?_; assumption) | (refine and_l ?_; assumption) | (refine and_i ?_ ?_) | decide | omega | (simp [vcs]; done) | (simp only [List.length_map]; omega))) ?_
            obtain ⟨v15, hvv15, h⟩ := bnd h
            refine WL.callO [(1, 4), (2, 9)] [(1, 4), (2, 9)] [4, 9] fn38 rfl rfl rfl rfl (by repeat' (first | exact trivial | assumption | intro _ | apply And.intro | (refine not_i ?_; assumption) | (refine and_l ?_; assumption) | (refine and_i ?_ ?_) | decide | omega | (simp [vcs]; done) | (simp only [List.length_map]; omega))) (dutyPart_con hw hvv15) rfl rfl (by repeat' (first | exact trivial | refine ⟨rfl, ?_⟩)) rfl rfl rfl rfl rfl rfl ?_
            refine WL.run tbOk 1 (acc := []) rfl (by repeat' (first | exact trivial | assumption | intro _ | apply And.intro | (refine not_i ?_; assumption) | (refine and_l ?_; assumption) | (refine and_i ?_ ?_) | decide | omega | (simp [vcs]; done) | (simp only [List.length_map]; omega))) ?_
            refine WL.nil ?_
            refine WQ.thenNormal ?_
            refine WC.seq ?_
            refine WC.region ?_
            refine WL.run tbOk 3 (acc := []) rfl (by repeat' (first | exact trivial | assumption | intro _ | apply And.intro | (refine not_i ?_; assumption) | (refine and_l ?_; assumption) | (refine and_i ?_ ?_) | decide | omega | (simp [vcs]; done) | (simp only [List.length_map]; omega))) ?_
            obtain ⟨v16, hvv16, h⟩ := bnd h
            refine WL.call0 fn42 rfl rfl rfl rfl (by repeat' (first | exact trivial | assumption | intro _ | apply And.intro | (refine not_i ?_; assumption) | (refine and_l ?_; assumption) | (refine and_i ?_ ?_) | decide | omega | (simp [vcs]; done) | (simp only [List.length_map]; omega))) rfl (exactDiv_con hw hvv16) ?_
            refine WL.run tbOk 5 (acc := []) rfl (by repeat' (first | exact trivial | assumption | intro _ | apply And.intro | (refine not_i ?_; assumption) | (refine and_l ?_; assumption) | (refine and_i ?_ ?_) | decide | omega | (simp [vcs]; done) | (simp only [List.length_map]; omega))) ?_
            refine WL.nil ?_
            refine WQ.thenNormal ?_
            refine WC.seq ?_
            refine WC.seq ?_
            refine WC.region ?_
            refine WL.run tbOk 6 (acc := []) rfl (by repeat' (first | exact trivial | assumption | intro _ | apply And.intro | (refine not_i ?_; assumption) | (refine and_l ?_; assumption) | (refine and_i ?_ ?_) | decide | omega | (simp [vcs]; done) | (simp only [List.length_map]; omega))) ?_
            refine WL.nil ?_
            refine WQ.thenNormal ?_
            refine WC.cond rfl (fun hc9 => ?_) (fun hc9 => ?_)
            · replace h := ite_t hc9 h
              refine WC.seq ?_
              refine WC.region ?_
              refine WL.run tbOk 2 (acc := []) rfl (by repeat' (first | exact trivial | assumption | intro _ | apply And.intro | (refine not_i ?_; assumption) | (refine and_l ?_; assumption) | (refine and_i ?_ ?_) | decide | omega | (simp [vcs]; done) | (simp only [List.length_map]; omega))) ?_
              refine WL.nil ?_
              refine WQ.thenNormal ?_
              refine WC.ret ?_
              refine WQ.thenRet ?_
              cases h
              exact WQ.rets tbOk (r := .tup [.v (.int .i64 (0 : Int)), .v (.int .i64 (3 : Int))]) hR [] (.inl rfl) rfl rfl (Le.tup (.cons (Le.refl _) (.cons (Le.refl _) .nil))) (by repeat' (first | exact trivial | refine ⟨rfl, ?_⟩)) rfl rfl rfl rfl
            · replace h := ite_f hc9 h
              refine WC.skip ?_
              refine WQ.thenNormal ?_
              refine WC.seq ?_
              refine WC.region ?_
              refine WL.run tbOk 4 (acc := []) rfl (by repeat' (first | exact trivial | assumption | intro _ | apply And.intro | (refine not_i ?_; assumption) | (refine and_l ?_; assumption) | (refine and_i ?_ ?_) | decide | omega | (simp [vcs]; done) | (simp only [List.length_map]; omega))) ?_
              refine WL.nil ?_
              refine WQ.thenNormal ?_
              refine WC.ret ?_
              cases h
              exact WQ.rets tbOk (r := .tup [.v (.int .i64 (IntKind.i64.wrap v16.1)), .v (.int .i64 (0 : Int))]) hR [] (.inl rfl) rfl rfl (Le.tup (.cons (Le.refl _) (.cons (Le.refl _) .nil))) (by repeat' (first | exact trivial | refine ⟨rfl, ?_⟩)) rfl rfl rfl rfl
          · replace h := ite_f hc8 h
            refine WC.skip ?_
            refine WQ.thenNormal ?_
            refine WC.seq ?_
            refine WC.region ?_
            refine WL.run tbOk 3 (acc := []) rfl (by repeat' (first | exact trivial | assumption | intro _ | apply And.intro | (refine not_i ?_; assumption) | (refine and_l ?_; assumption) | (refine and_i ?_ ?_) | decide | omega | (simp [vcs]; done) | (simp only [List.length_map]; omega))) ?_
            obtain ⟨v17, hvv17, h⟩ := bnd h
            refine WL.call0 fn42 rfl rfl rfl rfl (by repeat' (first | exact trivial | assumption | intro _ | apply And.intro | (refine not_i ?_; assumption) | (refine and_l ?_; assumption) | (refine and_i ?_ ?_) | decide | omega | (simp [vcs]; done) | (simp only [List.length_map]; omega))) rfl (exactDiv_con hw hvv17) ?_
            refine WL.run tbOk 5 (acc := []) rfl (by repeat' (first | exact trivial | assumption | intro _ | apply And.intro | (refine not_i ?_; assumption) | (refine and_l ?_; assumption) | (refine and_i ?_ ?_) | decide | omega | (simp [vcs]; done) | (simp only [List.length_map]; omega))) ?_
            refine WL.nil ?_
            refine WQ.thenNormal ?_
            refine WC.seq ?_
            refine WC.seq ?_
            refine WC.region ?_
            refine WL.run tbOk 6 (acc := []) rfl (by repeat' (first | exact trivial | assumption | intro _ | apply And.intro | (refine not_i ?_; assumption) | (refine and_l ?_; assumption) | (refine and_i ?_ ?_) | decide | omega | (simp [vcs]; done) | (simp only [List.length_map]; omega))) ?_
            refine WL.nil ?_
            refine WQ.thenNormal ?_
            refine WC.cond rfl (fun hc10 => ?_) (fun hc10 => ?_)
            · replace h := ite_t hc10 h
              refine WC.seq ?_
              refine WC.region ?_
              refine WL.run tbOk 2 (acc := []) rfl (by repeat' (first | exact trivial | assumption | intro _ | apply And.intro | (refine not_i ?_; assumption) | (refine and_l ?_; assumption) | (refine and_i ?_ ?_) | decide | omega | (simp [vcs]; done) | (simp only [List.length_map]; omega))) ?_
              refine WL.nil ?_
              refine WQ.thenNormal ?_
              refine WC.ret ?_
              refine WQ.thenRet ?_
              cases h
              exact WQ.rets tbOk (r := .tup [.v (.int .i64 (0 : Int)), .v (.int .i64 (3 : Int))]) hR [] (.inl rfl) rfl rfl (Le.tup (.cons (Le.refl _) (.cons (Le.refl _) .nil))) (by repeat' (first | exact trivial | refine ⟨rfl, ?_⟩)) rfl rfl rfl rfl
            · replace h := ite_f hc10 h
              refine WC.skip ?_
              refine WQ.thenNormal ?_
              refine WC.seq ?_
              refine WC.region ?_
              refine WL.run tbOk 4 (acc := []) rfl (by repeat' (first | exact trivial | assumption | intro _ | apply And.intro | (refine not_i ?_; assumption) | (refine and_l ?_; assumption) | (refine and_i ?_ ?_) | decide | omega | (simp [vcs]; done) | (simp only [List.length_map]; omega))) ?_
              refine WL.nil ?_
              refine WQ.thenNormal ?_
              refine WC.ret ?_
              cases h
              exact WQ.rets tbOk (r := .tup [.v (.int .i64 (IntKind.i64.wrap v17.1)), .v (.int .i64 (0 : Int))]) hR [] (.inl rfl) rfl rfl (Le.tup (.cons (Le.refl _) (.cons (Le.refl _) .nil))) (by repeat' (first | exact trivial | refine ⟨rfl, ?_⟩)) rfl rfl rfl rfl

theorem refEvaluate_con {wg : World} (hw : WG wg) {a0 : ApiDuty} {a1 : Int} {a2 : Int} {r : Int × Int} (h : refEvaluate a0 a1 a2 = some r) : Con Tryz.prog wg gl 21 [.v (.agg [.int .i64 a0.Rate, .int .i64 a0.Amount, .int .i64 a0.Per, .bool a0.HasMost, .int .i64 a0.Most, .bool a0.HasLeast, .int .i64 a0.Least]), .v (.int .i64 a1), .v (.int .i64 a2)] [] (.tup [.v (.int .i64 r.1), .v (.int .i64 r.2)]) [] := by
  unfold refEvaluate at h
  refine con_of_WC (S := slotsOf 0 _) Tryz.func21 rfl Tryz.ntmps21 rfl (fun t x hx => (slotsOf_get hx).2) ?_
  intro F L w ρ0 R hR
  show WC _ _ _ ⟨[(0, .v (.agg [.int .i64 a0.Rate, .int .i64 a0.Amount, .int .i64 a0.Per, .bool a0.HasMost, .int .i64 a0.Most, .bool a0.HasLeast, .int .i64 a0.Least])), (1, .v (.int .i64 a1)), (2, .v (.int .i64 a2))], []⟩ _ _
  refine WC.seq ?_
  refine WC.region ?_
  refine WL.run tbOk 3 (acc := []) rfl (by repeat' (first | exact trivial | assumption | intro _ | apply And.intro | (refine not_i ?_; assumption) | (refine and_l ?_; assumption) | (refine and_i ?_ ?_) | decide | omega | (simp [vcs]; done) | (simp only [List.length_map]; omega))) ?_
  refine WL.nil ?_
  refine WQ.thenNormal ?_
  refine WC.seq ?_
  refine WC.seq ?_
  refine WC.region ?_
  refine WL.run tbOk 1 (acc := []) rfl (by repeat' (first | exact trivial | assumption | intro _ | apply And.intro | (refine not_i ?_; assumption) | (refine and_l ?_; assumption) | (refine and_i ?_ ?_) | decide | omega | (simp [vcs]; done) | (simp only [List.length_map]; omega))) ?_
  obtain ⟨v, hvv, h⟩ := bnd h
  refine WL.call0 fn12 rfl rfl rfl rfl (by repeat' (first | exact trivial | assumption | intro _ | apply And.intro | (refine not_i ?_; assumption) | (refine and_l ?_; assumption) | (refine and_i ?_ ?_) | decide | omega | (simp [vcs]; done) | (simp only [List.length_map]; omega))) rfl (refDuty_con hw hvv) ?_
  refine WL.run tbOk 1 (acc := []) rfl (by repeat' (first | exact trivial | assumption | intro _ | apply And.intro | (refine not_i ?_; assumption) | (refine and_l ?_; assumption) | (refine and_i ?_ ?_) | decide | omega | (simp [vcs]; done) | (simp only [List.length_map]; omega))) ?_
  refine WL.nil ?_
  refine WQ.thenNormal ?_
  refine WC.seq ?_
  refine WC.region ?_
  refine WL.run tbOk 2 (acc := []) rfl (by repeat' (first | exact trivial | assumption | intro _ | apply And.intro | (refine not_i ?_; assumption) | (refine and_l ?_; assumption) | (refine and_i ?_ ?_) | decide | omega | (simp [vcs]; done) | (simp only [List.length_map]; omega))) ?_
  refine WL.nil ?_
  refine WQ.thenNormal ?_
  refine WC.cond rfl (fun hc1 => ?_) (fun hc1 => ?_)
  · replace h := ite_t hc1 h
    refine WC.seq ?_
    refine WC.region ?_
    refine WL.run tbOk 3 (acc := []) rfl (by repeat' (first | exact trivial | assumption | intro _ | apply And.intro | (refine not_i ?_; assumption) | (refine and_l ?_; assumption) | (refine and_i ?_ ?_) | decide | omega | (simp [vcs]; done) | (simp only [List.length_map]; omega))) ?_
    refine WL.nil ?_
    refine WQ.thenNormal ?_
    refine WC.ret ?_
    refine WQ.thenRet ?_
    cases h
    exact WQ.rets tbOk (r := .tup [.v (.int .i64 (0 : Int)), .v (.int .i64 v)]) hR [] (.inl rfl) rfl rfl (Le.tup (.cons (Le.refl _) (.cons (Le.refl _) .nil))) (by repeat' (first | exact trivial | refine ⟨rfl, ?_⟩)) rfl rfl rfl rfl
  · replace h := ite_f hc1 h
    refine WC.skip ?_
    refine WQ.thenNormal ?_
    refine WC.seq ?_
    refine WC.seq ?_
    refine WC.region ?_
    refine WL.run tbOk 1 (acc := []) rfl (by repeat' (first | exact trivial | assumption | intro _ | apply And.intro | (refine not_i ?_; assumption) | (refine and_l ?_; assumption) | (refine and_i ?_ ?_) | decide | omega | (simp [vcs]; done) | (simp only [List.length_map]; omega))) ?_
    obtain ⟨v2, hvv2, h⟩ := bnd h
    refine WL.call0 fn24 rfl rfl rfl rfl (by repeat' (first | exact trivial | assumption | intro _ | apply And.intro | (refine not_i ?_; assumption) | (refine and_l ?_; assumption) | (refine and_i ?_ ?_) | decide | omega | (simp [vcs]; done) | (simp only [List.length_map]; omega))) rfl (refIn_con hw hvv2) ?_
    refine WL.run tbOk 3 (acc := []) rfl (by repeat' (first | exact trivial | assumption | intro _ | apply And.intro | (refine not_i ?_; assumption) | (refine and_l ?_; assumption) | (refine and_i ?_ ?_) | decide | omega | (simp [vcs]; done) | (simp only [List.length_map]; omega))) ?_
    obtain ⟨v3, hvv3, h⟩ := bnd h
    refine WL.gcall0 fn24 rfl rfl rfl rfl rfl (fun _ => (by repeat' (first | exact trivial | assumption | intro _ | apply And.intro | (refine not_i ?_; assumption) | (refine and_l ?_; assumption) | (refine and_i ?_ ?_) | decide | omega | (simp [vcs]; done) | (simp only [List.length_map]; omega)))) rfl (fun hg => (refIn_con hw (ite_t hg hvv3))) ?_
    refine WL.run tbOk 2 (acc := []) rfl (by repeat' (first | exact trivial | assumption | intro _ | apply And.intro | (refine not_i ?_; assumption) | (refine and_l ?_; assumption) | (refine and_i ?_ ?_) | decide | omega | (simp [vcs]; done) | (simp only [List.length_map]; omega))) ?_
    refine WL.nil ?_
    refine WQ.thenNormal ?_
    refine WC.cond rfl (fun hc2 => ?_) (fun hc2 => ?_)
    · replace h := ite_t hc2 h
      refine WC.seq ?_
      refine WC.region ?_
      refine WL.run tbOk 2 (acc := []) rfl (by repeat' (first | exact trivial | assumption | intro _ | apply And.intro | (refine not_i ?_; assumption) | (refine and_l ?_; assumption) | (refine and_i ?_ ?_) | decide | omega | (simp [vcs]; done) | (simp only [List.length_map]; omega))) ?_
      refine WL.nil ?_
      refine WQ.thenNormal ?_
      refine WC.ret ?_
      refine WQ.thenRet ?_
      cases h
      exact WQ.rets tbOk (r := .tup [.v (.int .i64 (0 : Int)), .v (.int .i64 (2 : Int))]) hR [] (.inl rfl) rfl rfl (Le.tup (.cons (Le.refl _) (.cons (Le.refl _) .nil))) (by repeat' (first | exact trivial | refine ⟨rfl, ?_⟩)) rfl rfl rfl rfl
    · replace h := ite_f hc2 h
      refine WC.skip ?_
      refine WQ.thenNormal ?_
      refine WC.seq ?_
      refine WC.region ?_
      refine WL.run tbOk 4 (acc := []) rfl (by repeat' (first | exact trivial | assumption | intro _ | apply And.intro | (refine not_i ?_; assumption) | (refine and_l ?_; assumption) | (refine and_i ?_ ?_) | decide | omega | (simp [vcs]; done) | (simp only [List.length_map]; omega))) ?_
      refine WL.nil ?_
      refine WQ.thenNormal ?_
      refine WC.seq ?_
      refine WC.order mixed ?_
      refine WR.run tbOk 4 (acc := []) rfl (by repeat' (first | exact trivial | assumption | intro _ | apply And.intro | (refine not_i ?_; assumption) | (refine and_l ?_; assumption) | (refine and_i ?_ ?_) | decide | omega | (simp [vcs]; done) | (simp only [List.length_map]; omega))) ?_
      obtain ⟨v4, hvv4, h⟩ := bnd h
      refine WR.call0 fn44 rfl rfl rfl rfl (by repeat' (first | exact trivial | assumption | intro _ | apply And.intro | (refine not_i ?_; assumption) | (refine and_l ?_; assumption) | (refine and_i ?_ ?_) | decide | omega | (simp [vcs]; done) | (simp only [List.length_map]; omega))) rfl (refScaled_con hw hvv4) ?_
      refine WR.run tbOk 6 (acc := []) rfl (by repeat' (first | exact trivial | assumption | intro _ | apply And.intro | (refine not_i ?_; assumption) | (refine and_l ?_; assumption) | (refine and_i ?_ ?_) | decide | omega | (simp [vcs]; done) | (simp only [List.length_map]; omega))) ?_
      obtain ⟨v5, hvv5, h⟩ := bnd h
      refine WR.call0 fn45 rfl rfl rfl rfl (by repeat' (first | exact trivial | assumption | intro _ | apply And.intro | (refine not_i ?_; assumption) | (refine and_l ?_; assumption) | (refine and_i ?_ ?_) | decide | omega | (simp [vcs]; done) | (simp only [List.length_map]; omega))) rfl (r01Mul_con hw hvv5) ?_
      obtain ⟨v6, hvv6, h⟩ := bnd h
      refine WR.call0 fn43 rfl rfl rfl rfl (by repeat' (first | exact trivial | assumption | intro _ | apply And.intro | (refine not_i ?_; assumption) | (refine and_l ?_; assumption) | (refine and_i ?_ ?_) | decide | omega | (simp [vcs]; done) | (simp only [List.length_map]; omega))) rfl (r01Add_con hw hvv6) ?_
      refine WR.run tbOk 6 (acc := []) rfl (by repeat' (first | exact trivial | assumption | intro _ | apply And.intro | (refine not_i ?_; assumption) | (refine and_l ?_; assumption) | (refine and_i ?_ ?_) | decide | omega | (simp [vcs]; done) | (simp only [List.length_map]; omega))) ?_
      refine WR.nil (by kernel_rfl) ?_
      refine WQ.thenNormal ?_
      refine WC.seq ?_
      refine WC.seq ?_
      refine WC.order mixed ?_
      refine WR.run tbOk 7 (acc := []) rfl (by repeat' (first | exact trivial | assumption | intro _ | apply And.intro | (refine not_i ?_; assumption) | (refine and_l ?_; assumption) | (refine and_i ?_ ?_) | decide | omega | (simp [vcs]; done) | (simp only [List.length_map]; omega))) ?_
      obtain ⟨v7, hvv7, h⟩ := bnd h
      refine WR.gcall0 fn44 rfl rfl rfl rfl rfl (fun _ => (by repeat' (first | exact trivial | assumption | intro _ | apply And.intro | (refine not_i ?_; assumption) | (refine and_l ?_; assumption) | (refine and_i ?_ ?_) | decide | omega | (simp [vcs]; done) | (simp only [List.length_map]; omega)))) rfl (fun hg => (refScaled_con hw (ite_t hg hvv7))) ?_
      refine WR.run tbOk 1 (acc := []) rfl (by repeat' (first | exact trivial | assumption | intro _ | apply And.intro | (refine not_i ?_; assumption) | (refine and_l ?_; assumption) | (refine and_i ?_ ?_) | decide | omega | (simp [vcs]; done) | (simp only [List.length_map]; omega))) ?_
      obtain ⟨v8, hvv8, h⟩ := bnd h
      refine WR.gcall0 fn46 rfl rfl rfl rfl rfl (fun _ => (by repeat' (first | exact trivial | assumption | intro _ | apply And.intro | (refine not_i ?_; assumption) | (refine and_l ?_; assumption) | (refine and_i ?_ ?_) | decide | omega | (simp [vcs]; done) | (simp only [List.length_map]; omega)))) rfl (fun hg => (r01Less_con hw (ite_t hg hvv8))) ?_
      refine WR.run tbOk 1 (acc := []) rfl (by repeat' (first | exact trivial | assumption | intro _ | apply And.intro | (refine not_i ?_; assumption) | (refine and_l ?_; assumption) | (refine and_i ?_ ?_) | decide | omega | (simp [vcs]; done) | (simp only [List.length_map]; omega))) ?_
      refine WR.nil (by kernel_rfl) ?_
      refine WQ.thenNormal ?_
      refine WC.cond rfl (fun hc3 => ?_) (fun hc3 => ?_)
      · replace h := ite_t hc3 h
        refine WC.region ?_
        refine WL.run tbOk 4 (acc := []) rfl (by repeat' (first | exact trivial | assumption | intro _ | apply And.intro | (refine not_i ?_; assumption) | (refine and_l ?_; assumption) | (refine and_i ?_ ?_) | decide | omega | (simp [vcs]; done) | (simp only [List.length_map]; omega))) ?_
        obtain ⟨v9, hvv9, h⟩ := bnd h
        refine WL.call0 fn44 rfl rfl rfl rfl (by repeat' (first | exact trivial | assumption | intro _ | apply And.intro | (refine not_i ?_; assumption) | (refine and_l ?_; assumption) | (refine and_i ?_ ?_) | decide | omega | (simp [vcs]; done) | (simp only [List.length_map]; omega))) rfl (refScaled_con hw hvv9) ?_
        refine WL.run tbOk 1 (acc := []) rfl (by repeat' (first | exact trivial | assumption | intro _ | apply And.intro | (refine not_i ?_; assumption) | (refine and_l ?_; assumption) | (refine and_i ?_ ?_) | decide | omega | (simp [vcs]; done) | (simp only [List.length_map]; omega))) ?_
        refine WL.nil ?_
        refine WQ.thenNormal ?_
        refine WC.seq ?_
        refine WC.seq ?_
        refine WC.order mixed ?_
        refine WR.run tbOk 8 (acc := []) rfl (by repeat' (first | exact trivial | assumption | intro _ | apply And.intro | (refine not_i ?_; assumption) | (refine and_l ?_; assumption) | (refine and_i ?_ ?_) | decide | omega | (simp [vcs]; done) | (simp only [List.length_map]; omega))) ?_
        obtain ⟨v10, hvv10, h⟩ := bnd h
        refine WR.gcall0 fn44 rfl rfl rfl rfl rfl (fun _ => (by repeat' (first | exact trivial | assumption | intro _ | apply And.intro | (refine not_i ?_; assumption) | (refine and_l ?_; assumption) | (refine and_i ?_ ?_) | decide | omega | (simp [vcs]; done) | (simp only [List.length_map]; omega)))) rfl (fun hg => (refScaled_con hw (ite_t hg hvv10))) ?_
        obtain ⟨v11, hvv11, h⟩ := bnd h
        refine WR.gcall0 fn46 rfl rfl rfl rfl rfl (fun _ => (by repeat' (first | exact trivial | assumption | intro _ | apply And.intro | (refine not_i ?_; assumption) | (refine and_l ?_; assumption) | (refine and_i ?_ ?_) | decide | omega | (simp [vcs]; done) | (simp only [List.length_map]; omega)))) rfl (fun hg => (r01Less_con hw (ite_t hg hvv11))) ?_
        refine WR.run tbOk 1 (acc := []) rfl (by repeat' (first | exact trivial | assumption | intro _ | apply And.intro | (refine not_i ?_; assumption) | (refine and_l ?_; assumption) | (refine and_i ?_ ?_) | decide | omega | (simp [vcs]; done) | (simp only [List.length_map]; omega))) ?_
        refine WR.nil (by kernel_rfl) ?_
        refine WQ.thenNormal ?_
        refine WC.cond rfl (fun hc4 => ?_) (fun hc4 => ?_)
        · replace h := ite_t hc4 h
          refine WC.region ?_
          refine WL.run tbOk 4 (acc := []) rfl (by repeat' (first | exact trivial | assumption | intro _ | apply And.intro | (refine not_i ?_; assumption) | (refine and_l ?_; assumption) | (refine and_i ?_ ?_) | decide | omega | (simp [vcs]; done) | (simp only [List.length_map]; omega))) ?_
          obtain ⟨v12, hvv12, h⟩ := bnd h
          refine WL.call0 fn44 rfl rfl rfl rfl (by repeat' (first | exact trivial | assumption | intro _ | apply And.intro | (refine not_i ?_; assumption) | (refine and_l ?_; assumption) | (refine and_i ?_ ?_) | decide | omega | (simp [vcs]; done) | (simp only [List.length_map]; omega))) rfl (refScaled_con hw hvv12) ?_
          refine WL.run tbOk 1 (acc := []) rfl (by repeat' (first | exact trivial | assumption | intro _ | apply And.intro | (refine not_i ?_; assumption) | (refine and_l ?_; assumption) | (refine and_i ?_ ?_) | decide | omega | (simp [vcs]; done) | (simp only [List.length_map]; omega))) ?_
          refine WL.nil ?_
          refine WQ.thenNormal ?_
          refine WC.seq ?_
          refine WC.region ?_
          refine WL.run tbOk 4 (acc := []) rfl (by repeat' (first | exact trivial | assumption | intro _ | apply And.intro | (refine not_i ?_; assumption) | (refine and_l ?_; assumption) | (refine and_i ?_ ?_) | decide | omega | (simp [vcs]; done) | (simp only [List.length_map]; omega))) ?_
          obtain ⟨v13, hvv13, h⟩ := bnd h
          refine WL.call0 fn47 rfl rfl rfl rfl (by repeat' (first | exact trivial | assumption | intro _ | apply And.intro | (refine not_i ?_; assumption) | (refine and_l ?_; assumption) | (refine and_i ?_ ?_) | decide | omega | (simp [vcs]; done) | (simp only [List.length_map]; omega))) rfl (r01Div_con hw hvv13) ?_
          refine WL.run tbOk 5 (acc := []) rfl (by repeat' (first | exact trivial | assumption | intro _ | apply And.intro | (refine not_i ?_; assumption) | (refine and_l ?_; assumption) | (refine and_i ?_ ?_) | decide | omega | (simp [vcs]; done) | (simp only [List.length_map]; omega))) ?_
          refine WL.nil ?_
          refine WQ.thenNormal ?_
          refine WC.seq ?_
          refine WC.seq ?_
          refine WC.region ?_
          refine WL.run tbOk 6 (acc := []) rfl (by repeat' (first | exact trivial | assumption | intro _ | apply And.intro | (refine not_i ?_; assumption) | (refine and_l ?_; assumption) | (refine and_i ?_ ?_) | decide | omega | (simp [vcs]; done) | (simp only [List.length_map]; omega))) ?_
          refine WL.nil ?_
          refine WQ.thenNormal ?_
          refine WC.cond rfl (fun hc5 => ?_) (fun hc5 => ?_)
          · replace h := ite_t hc5 h
            refine WC.seq ?_
            refine WC.region ?_
            refine WL.run tbOk 2 (acc := []) rfl (by repeat' (first | exact trivial | assumption | intro _ | apply And.intro | (refine not_i ?_; assumption) | (refine and_l ?_; assumption) | (refine and_i ?_ ?_) | decide | omega | (simp [vcs]; done) | (simp only [List.length_map]; omega))) ?_
            refine WL.nil ?_
            refine WQ.thenNormal ?_
            refine WC.ret ?_
            refine WQ.thenRet ?_
            cases h
            exact WQ.rets tbOk (r := .tup [.v (.int .i64 (0 : Int)), .v (.int .i64 (3 : Int))]) hR [] (.inl rfl) rfl rfl (Le.tup (.cons (Le.refl _) (.cons (Le.refl _) .nil))) (by repeat' (first | exact trivial | refine ⟨rfl, ?_⟩)) rfl rfl rfl rfl
          · replace h := ite_f hc5 h
            refine WC.skip ?_
            refine WQ.thenNormal ?_
            refine WC.seq ?_
            refine WC.region ?_
            refine WL.run tbOk 4 (acc := []) rfl (by repeat' (first | exact trivial | assumption | intro _ | apply And.intro | (refine not_i ?_; assumption) | (refine and_l ?_; assumption) | (refine and_i ?_ ?_) | decide | omega | (simp [vcs]; done) | (simp only [List.length_map]; omega))) ?_
            refine WL.nil ?_
            refine WQ.thenNormal ?_
            refine WC.ret ?_
            cases h
            exact WQ.rets tbOk (r := .tup [.v (.int .i64 (IntKind.i64.wrap v13.1)), .v (.int .i64 (0 : Int))]) hR [] (.inl rfl) rfl rfl (Le.tup (.cons (Le.refl _) (.cons (Le.refl _) .nil))) (by repeat' (first | exact trivial | refine ⟨rfl, ?_⟩)) rfl rfl rfl rfl
        · replace h := ite_f hc4 h
          refine WC.skip ?_
          refine WQ.thenNormal ?_
          refine WC.seq ?_
          refine WC.region ?_
          refine WL.run tbOk 4 (acc := []) rfl (by repeat' (first | exact trivial | assumption | intro _ | apply And.intro | (refine not_i ?_; assumption) | (refine and_l ?_; assumption) | (refine and_i ?_ ?_) | decide | omega | (simp [vcs]; done) | (simp only [List.length_map]; omega))) ?_
          obtain ⟨v14, hvv14, h⟩ := bnd h
          refine WL.call0 fn47 rfl rfl rfl rfl (by repeat' (first | exact trivial | assumption | intro _ | apply And.intro | (refine not_i ?_; assumption) | (refine and_l ?_; assumption) | (refine and_i ?_ ?_) | decide | omega | (simp [vcs]; done) | (simp only [List.length_map]; omega))) rfl (r01Div_con hw hvv14) ?_
          refine WL.run tbOk 5 (acc := []) rfl (by repeat' (first | exact trivial | assumption | intro _ | apply And.intro | (refine not_i ?_; assumption) | (refine and_l ?_; assumption) | (refine and_i ?_ ?_) | decide | omega | (simp [vcs]; done) | (simp only [List.length_map]; omega))) ?_
          refine WL.nil ?_
          refine WQ.thenNormal ?_
          refine WC.seq ?_
          refine WC.seq ?_
          refine WC.region ?_
          refine WL.run tbOk 6 (acc := []) rfl (by repeat' (first | exact trivial | assumption | intro _ | apply And.intro | (refine not_i ?_; assumption) | (refine and_l ?_; assumption) | (refine and_i ?_ ?_) | decide | omega | (simp [vcs]; done) | (simp only [List.length_map]; omega))) ?_
          refine WL.nil ?_
          refine WQ.thenNormal ?_
          refine WC.cond rfl (fun hc6 => ?_) (fun hc6 => ?_)
          · replace h := ite_t hc6 h
            refine WC.seq ?_
            refine WC.region ?_
            refine WL.run tbOk 2 (acc := []) rfl (by repeat' (first | exact trivial | assumption | intro _ | apply And.intro | (refine not_i ?_; assumption) | (refine and_l ?_; assumption) | (refine and_i ?_ ?_) | decide | omega | (simp [vcs]; done) | (simp only [List.length_map]; omega))) ?_
            refine WL.nil ?_
            refine WQ.thenNormal ?_
            refine WC.ret ?_
            refine WQ.thenRet ?_
            cases h
            exact WQ.rets tbOk (r := .tup [.v (.int .i64 (0 : Int)), .v (.int .i64 (3 : Int))]) hR [] (.inl rfl) rfl rfl (Le.tup (.cons (Le.refl _) (.cons (Le.refl _) .nil))) (by repeat' (first | exact trivial | refine ⟨rfl, ?_⟩)) rfl rfl rfl rfl
          · replace h := ite_f hc6 h
            refine WC.skip ?_
            refine WQ.thenNormal ?_
            refine WC.seq ?_
            refine WC.region ?_
            refine WL.run tbOk 4 (acc := []) rfl (by repeat' (first | exact trivial | assumption | intro _ | apply And.intro | (refine not_i ?_; assumption) | (refine and_l ?_; assumption) | (refine and_i ?_ ?_) | decide | omega | (simp [vcs]; done) | (simp only [List.length_map]; omega))) ?_
            refine WL.nil ?_
            refine WQ.thenNormal ?_
            refine WC.ret ?_
            cases h
            exact WQ.rets tbOk (r := .tup [.v (.int .i64 (IntKind.i64.wrap v14.1)), .v (.int .i64 (0 : Int))]) hR [] (.inl rfl) rfl rfl (Le.tup (.cons (Le.refl _) (.cons (Le.refl _) .nil))) (by repeat' (first | exact trivial | refine ⟨rfl, ?_⟩)) rfl rfl rfl rfl
      · replace h := ite_f hc3 h
        refine WC.skip ?_
        refine WQ.thenNormal ?_
        refine WC.seq ?_
        refine WC.seq ?_
        refine WC.order mixed ?_
        refine WR.run tbOk 8 (acc := []) rfl (by repeat' (first | exact trivial | assumption | intro _ | apply And.intro | (refine not_i ?_; assumption) | (refine and_l ?_; assumption) | (refine and_i ?_ ?_) | decide | omega | (simp [vcs]; done) | (simp only [List.length_map]; omega))) ?_
        obtain ⟨v15, hvv15, h⟩ := bnd h
        refine WR.gcall0 fn44 rfl rfl rfl rfl rfl (fun _ => (by repeat' (first | exact trivial | assumption | intro _ | apply And.intro | (refine not_i ?_; assumption) | (refine and_l ?_; assumption) | (refine and_i ?_ ?_) | decide | omega | (simp [vcs]; done) | (simp only [List.length_map]; omega)))) rfl (fun hg => (refScaled_con hw (ite_t hg hvv15))) ?_
        obtain ⟨v16, hvv16, h⟩ := bnd h
        refine WR.gcall0 fn46 rfl rfl rfl rfl rfl (fun _ => (by repeat' (first | exact trivial | assumption | intro _ | apply And.intro | (refine not_i ?_; assumption) | (refine and_l ?_; assumption) | (refine and_i ?_ ?_) | decide | omega | (simp [vcs]; done) | (simp only [List.length_map]; omega)))) rfl (fun hg => (r01Less_con hw (ite_t hg hvv16))) ?_
        refine WR.run tbOk 1 (acc := []) rfl (by repeat' (first | exact trivial | assumption | intro _ | apply And.intro | (refine not_i ?_; assumption) | (refine and_l ?_; assumption) | (refine and_i ?_ ?_) | decide | omega | (simp [vcs]; done) | (simp only [List.length_map]; omega))) ?_
        refine WR.nil (by kernel_rfl) ?_
        refine WQ.thenNormal ?_
        refine WC.cond rfl (fun hc7 => ?_) (fun hc7 => ?_)
        · replace h := ite_t hc7 h
          refine WC.region ?_
          refine WL.run tbOk 4 (acc := []) rfl (by repeat' (first | exact trivial | assumption | intro _ | apply And.intro | (refine not_i ?_; assumption) | (refine and_l ?_; assumption) | (refine and_i ?_ ?_) | decide | omega | (simp [vcs]; done) | (simp only [List.length_map]; omega))) ?_
          obtain ⟨v17, hvv17, h⟩ := bnd h
          refine WL.call0 fn44 rfl rfl rfl rfl (by repeat' (first | exact trivial | assumption | intro _ | apply And.intro | (refine not_i ?_; assumption) | (refine and_l ?_; assumption) | (refine and_i ?_ ?_) | decide | omega | (simp [vcs]; done) | (simp only [List.length_map]; omega))) rfl (refScaled_con hw hvv17) ?_
          refine WL.run tbOk 1 (acc := []) rfl (by repeat' (first | exact trivial | assumption | intro _ | apply And.intro | (refine not_i ?_; assumption) | (refine and_l ?_; assumption) | (refine and_i ?_ ?_) | decide | omega | (simp [vcs]; done) | (simp only [List.length_map]; omega))) ?_
          refine WL.nil ?_
          refine WQ.thenNormal ?_
          refine WC.seq ?_
          refine WC.region ?_
          refine WL.run tbOk 4 (acc := []) rfl (by repeat' (first | exact trivial | assumption | intro _ | apply And.intro | (refine not_i ?_; assumption) | (refine and_l ?_; assumption) | (refine and_i ?_ ?_) | decide | omega | (simp [vcs]; done) | (simp only [List.length_map]; omega))) ?_
          obtain ⟨v18, hvv18, h⟩ := bnd h
          refine WL.call0 fn47 rfl rfl rfl rfl (by repeat' (first | exact trivial | assumption | intro _ | apply And.intro | (refine not_i ?_; assumption) | (refine and_l ?_; assumption) | (refine and_i ?_ ?_) | decide | omega | (simp [vcs]; done) | (simp only [List.length_map]; omega))) rfl (r01Div_con hw hvv18) ?_
          refine WL.run tbOk 5 (acc := []) rfl (by repeat' (first | exact trivial | assumption | intro _ | apply And.intro | (refine not_i ?_; assumption) | (refine and_l ?_; assumption) | (refine and_i ?_ ?_) | decide | omega | (simp [vcs]; done) | (simp only [List.length_map]; omega))) ?_
          refine WL.nil ?_
          refine WQ.thenNormal ?_
          refine WC.seq ?_
          refine WC.seq ?_
          refine WC.region ?_
          refine WL.run tbOk 6 (acc := []) rfl (by repeat' (first | exact trivial | assumption | intro _ | apply And.intro | (refine not_i ?_; assumption) | (refine and_l ?_; assumption) | (refine and_i ?_ ?_) | decide | omega | (simp [vcs]; done) | (simp only [List.length_map]; omega))) ?_
          refine WL.nil ?_
          refine WQ.thenNormal ?_
          refine WC.cond rfl (fun hc8 => ?_) (fun hc8 => ?_)
          · replace h := ite_t hc8 h
            refine WC.seq ?_
            refine WC.region ?_
            refine WL.run tbOk 2 (acc := []) rfl (by repeat' (first | exact trivial | assumption | intro _ | apply And.intro | (refine not_i ?_; assumption) | (refine and_l ?_; assumption) | (refine and_i ?_ ?_) | decide | omega | (simp [vcs]; done) | (simp only [List.length_map]; omega))) ?_
            refine WL.nil ?_
            refine WQ.thenNormal ?_
            refine WC.ret ?_
            refine WQ.thenRet ?_
            cases h
            exact WQ.rets tbOk (r := .tup [.v (.int .i64 (0 : Int)), .v (.int .i64 (3 : Int))]) hR [] (.inl rfl) rfl rfl (Le.tup (.cons (Le.refl _) (.cons (Le.refl _) .nil))) (by repeat' (first | exact trivial | refine ⟨rfl, ?_⟩)) rfl rfl rfl rfl
          · replace h := ite_f hc8 h
            refine WC.skip ?_
            refine WQ.thenNormal ?_
            refine WC.seq ?_
            refine WC.region ?_
            refine WL.run tbOk 4 (acc := []) rfl (by repeat' (first | exact trivial | assumption | intro _ | apply And.intro | (refine not_i ?_; assumption) | (refine and_l ?_; assumption) | (refine and_i ?_ ?_) | decide | omega | (simp [vcs]; done) | (simp only [List.length_map]; omega))) ?_
            refine WL.nil ?_
            refine WQ.thenNormal ?_
            refine WC.ret ?_
            cases h
            exact WQ.rets tbOk (r := .tup [.v (.int .i64 (IntKind.i64.wrap v18.1)), .v (.int .i64 (0 : Int))]) hR [] (.inl rfl) rfl rfl (Le.tup (.cons (Le.refl _) (.cons (Le.refl _) .nil))) (by repeat' (first | exact trivial | refine ⟨rfl, ?_⟩)) rfl rfl rfl rfl
        · replace h := ite_f hc7 h
          refine WC.skip ?_
          refine WQ.thenNormal ?_
          refine WC.seq ?_
          refine WC.region ?_
          refine WL.run tbOk 4 (acc := []) rfl (by repeat' (first | exact trivial | assumption | intro _ | apply And.intro | (refine not_i ?_; assumption) | (refine and_l ?_; assumption) | (refine and_i ?_ ?_) | decide | omega | (simp [vcs]; done) | (simp only [List.length_map]; omega))) ?_
          obtain ⟨v19, hvv19, h⟩ := bnd h
          refine WL.call0 fn47 rfl rfl rfl rfl (by repeat' (first | exact trivial | assumption | intro _ | apply And.intro | (refine not_i ?_; assumption) | (refine and_l ?_; assumption) | (refine and_i ?_ ?_) | decide | omega | (simp [vcs]; done) | (simp only [List.length_map]; omega))) rfl (r01Div_con hw hvv19) ?_
          refine WL.run tbOk 5 (acc := []) rfl (by repeat' (first | exact trivial | assumption | intro _ | apply And.intro | (refine not_i ?_; assumption) | (refine and_l ?_; assumption) | (refine and_i ?_ ?_) | decide | omega | (simp [vcs]; done) | (simp only [List.length_map]; omega))) ?_
          refine WL.nil ?_
          refine WQ.thenNormal ?_
          refine WC.seq ?_
          refine WC.seq ?_
          refine WC.region ?_
          refine WL.run tbOk 6 (acc := []) rfl (by repeat' (first | exact trivial | assumption | intro _ | apply And.intro | (refine not_i ?_; assumption) | (refine and_l ?_; assumption) | (refine and_i ?_ ?_) | decide | omega | (simp [vcs]; done) | (simp only [List.length_map]; omega))) ?_
          refine WL.nil ?_
          refine WQ.thenNormal ?_
          refine WC.cond rfl (fun hc9 => ?_) (fun hc9 => ?_)
          · replace h := ite_t hc9 h
            refine WC.seq ?_
            refine WC.region ?_
            refine WL.run tbOk 2 (acc := []) rfl (by repeat' (first | exact trivial | assumption | intro _ | apply And.intro | (refine not_i ?_; assumption) | (refine and_l ?_; assumption) | (refine and_i ?_ ?_) | decide | omega | (simp [vcs]; done) | (simp only [List.length_map]; omega))) ?_
            refine WL.nil ?_
            refine WQ.thenNormal ?_
            refine WC.ret ?_
            refine WQ.thenRet ?_
            cases h
            exact WQ.rets tbOk (r := .tup [.v (.int .i64 (0 : Int)), .v (.int .i64 (3 : Int))]) hR [] (.inl rfl) rfl rfl (Le.tup (.cons (Le.refl _) (.cons (Le.refl _) .nil))) (by repeat' (first | exact trivial | refine ⟨rfl, ?_⟩)) rfl rfl rfl rfl
          · replace h := ite_f hc9 h
            refine WC.skip ?_
            refine WQ.thenNormal ?_
            refine WC.seq ?_
            refine WC.region ?_
            refine WL.run tbOk 4 (acc := []) rfl (by repeat' (first | exact trivial | assumption | intro _ | apply And.intro | (refine not_i ?_; assumption) | (refine and_l ?_; assumption) | (refine and_i ?_ ?_) | decide | omega | (simp [vcs]; done) | (simp only [List.length_map]; omega))) ?_
            refine WL.nil ?_
            refine WQ.thenNormal ?_
            refine WC.ret ?_
            cases h
            exact WQ.rets tbOk (r := .tup [.v (.int .i64 (IntKind.i64.wrap v19.1)), .v (.int .i64 (0 : Int))]) hR [] (.inl rfl) rfl rfl (Le.tup (.cons (Le.refl _) (.cons (Le.refl _) .nil))) (by repeat' (first | exact trivial | refine ⟨rfl, ?_⟩)) rfl rfl rfl rfl

end Go.Proofs.YtinickkcieecdaaGreatDoor
