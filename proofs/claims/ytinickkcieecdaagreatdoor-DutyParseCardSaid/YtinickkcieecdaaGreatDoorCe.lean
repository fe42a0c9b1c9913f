/- Contracts: the program's functions compute the plain ones; by program (gen.py). -/
import Derived.Test.YtinickkcieecdaaGreatDoorLib
import Derived.Test.YtinickkcieecdaaGreatDoorPe
import Derived.Test.YtinickkcieecdaaGreatDoorCa
import Derived.Test.YtinickkcieecdaaGreatDoorCb
import Derived.Test.YtinickkcieecdaaGreatDoorCc
import Derived.Test.YtinickkcieecdaaGreatDoorCd
set_option linter.unusedVariables false
set_option linter.unusedSimpArgs false
set_option maxHeartbeats 4000000
set_option maxRecDepth 20000
namespace Go.Proofs.YtinickkcieecdaaGreatDoor
open Go.V Go.C

theorem dutyPart_con {wg : World} (hw : WG wg) {rate : Int} {a1 : Int} {a2 : Int} {r : ExactWide} (h : dutyPart rate a1 a2 = some r) : Con Tryz.prog wg gl 38 [.v (.int .i64 rate), .p 1 0, .p 2 0] [(1, .blk 3 [.v (.int .i64 a1)]), (2, .blk 59 [.v (.int .u64 a2)])] (.v (.agg [.int .u64 r.Hi, .int .u64 r.Lo])) [(1, .blk 3 [.v (.int .i64 a1)]), (2, .blk 59 [.v (.int .u64 a2)])] := by
 unfold dutyPart at h
 refine con_of_WC (S := slotsOf 0 _) Tryz.func38 rfl Tryz.ntmps38 rfl (fun t x hx => (slotsOf_get hx).2) ?_
 intro F L w ρ0 R hR
 show WC _ _ _ ⟨[(0, .v (.int .i64 rate)), (1, .p 1 0), (2, .p 2 0)], [(1, .blk 3 [.v (.int .i64 a1)]), (2, .blk 59 [.v (.int .u64 a2)])]⟩ _ _
 refine WC.seq (WC.region ?_)
 refine lr 1 rfl trivial ?_
 refine WL.nil (WQ.thenNormal (WC.seq (WC.region ?_)))
 refine lr 6 rfl trivial ?_
 replace h := bnd h; obtain ⟨v, hvv, h⟩ := h
 refine WL.call0 fn39 rfl rfl rfl rfl (by exact trivial) rfl (exactMul_con hw hvv) ?_
 refine lr 1 rfl trivial ?_
 refine WL.nil (WQ.thenNormal (WC.ret ?_))
 cases h
 exact WQ.rets tbOk hR [] (.inl rfl) rfl rfl (Le.refl _) (by exact ⟨rfl, rfl, trivial⟩) rfl rfl rfl rfl

theorem dutyEvaluate_con {wg : World} (hw : WG wg) {d : ApiDuty} {value : Int} {quantity : Int} {r : Int × Int} (h : dutyEvaluate d value quantity = some r) : Con Tryz.prog wg gl 20 [.v (.agg [.int .i64 d.Rate, .int .i64 d.Amount, .int .i64 d.Per, .bool d.HasMost, .int .i64 d.Most, .bool d.HasLeast, .int .i64 d.Least]), .v (.int .i64 value), .v (.int .i64 quantity)] [] (.tup [.v (.int .i64 r.1), .v (.int .i64 r.2)]) [] := by
 unfold dutyEvaluate at h
 refine con_of_WC (S := slotsOf 0 _) Tryz.func20 rfl Tryz.ntmps20 rfl (fun t x hx => (slotsOf_get hx).2) ?_
 intro F L w ρ0 R hR
 show WC _ _ _ ⟨[(0, .v (.agg [.int .i64 d.Rate, .int .i64 d.Amount, .int .i64 d.Per, .bool d.HasMost, .int .i64 d.Most, .bool d.HasLeast, .int .i64 d.Least])), (1, .v (.int .i64 value)), (2, .v (.int .i64 quantity))], []⟩ _ _
 refine WC.seq (WC.region ?_)
 refine lr 4 rfl trivial ?_
 refine WL.nil (WQ.thenNormal (WC.seq (WC.seq (WC.region ?_))))
 refine lr 1 rfl trivial ?_
 replace h := bnd h; obtain ⟨v, hvv, h⟩ := h
 refine WL.call0 fn11 rfl rfl rfl rfl (by exact trivial) rfl (dutyValidate_con hw hvv) ?_
 refine lr 1 rfl trivial ?_
 refine WL.nil (WQ.thenNormal (WC.seq (WC.region ?_)))
 refine lr 2 rfl trivial ?_
 refine WL.nil (WQ.thenNormal ?_)
 refine WC.cond rfl (fun hc1 => ?_) (fun hc1 => ?_)
 ·replace h := ite_t hc1 h
  refine WC.seq (WC.region ?_)
  refine lr 3 rfl trivial ?_
  refine WL.nil (WQ.thenNormal (WC.ret (WQ.thenRet ?_)))
  cases h
  exact WQ.rets tbOk (r := .tup [.v (.int .i64 (0 : Int)), .v (.int .i64 v)]) hR [] (.inl rfl) rfl rfl (Le.tup (.cons (Le.refl _) (.cons (Le.refl _) .nil))) (by exact trivial) rfl rfl rfl rfl
 ·replace h := ite_f hc1 h
  refine WC.skip (WQ.thenNormal (WC.seq (WC.seq (WC.region ?_))))
  refine lr 14 rfl (by exact sideR) ?_
  refine WL.nil (WQ.thenNormal ?_)
  refine WC.cond rfl (fun hc2 => ?_) (fun hc2 => ?_)
  ·replace h := ite_t hc2 h
   refine WC.seq (WC.region ?_)
   refine lr 2 rfl trivial ?_
   refine WL.nil (WQ.thenNormal (WC.ret (WQ.thenRet ?_)))
   cases h
   exact WQ.rets tbOk (r := .tup [.v (.int .i64 (0 : Int)), .v (.int .i64 (2 : Int))]) hR [] (.inl rfl) rfl rfl (Le.tup (.cons (Le.refl _) (.cons (Le.refl _) .nil))) (by exact trivial) rfl rfl rfl rfl
  ·replace h := ite_f hc2 h
   refine WC.skip (WQ.thenNormal (WC.seq (WC.region ?_)))
   refine lr 6 rfl trivial ?_
   refine WL.nil (WQ.thenNormal (WC.seq (WC.region ?_)))
   refine lr 2 rfl trivial ?_
   refine WL.nil (WQ.thenNormal (WC.seq (WC.order mixed ?_)))
   refine wr 3 rfl trivial ?_
   replace h := bnd h; obtain ⟨v2, hvv2, h⟩ := h
   refine WR.callO [(1, 4), (2, 9)] [(1, 4), (2, 9)] [4, 9] fn38 rfl rfl rfl rfl (by exact trivial) (dutyPart_con hw hvv2) rfl rfl (by exact ⟨rfl, rfl, trivial⟩) rfl rfl rfl rfl rfl rfl ?_
   refine wr 6 rfl trivial ?_
   replace h := bnd h; obtain ⟨v3, hvv3, h⟩ := h
   refine WR.call0 fn39 rfl rfl rfl rfl (by exact trivial) rfl (exactMul_con hw hvv3) ?_
   replace h := bnd h; obtain ⟨v4, hvv4, h⟩ := h
   refine WR.call0 fn40 rfl rfl rfl rfl (by exact trivial) rfl (exactAdd_con hw hvv4) ?_
   refine wr 6 rfl trivial ?_
   refine WR.nil (by kernel_rfl) (WQ.thenNormal (WC.seq (WC.seq (WC.region ?_))))
   refine lr 2 rfl trivial ?_
   refine WL.nil (WQ.thenNormal ?_)
   refine WC.cond rfl (fun hc3 => ?_) (fun hc3 => ?_)
   ·replace h := ite_t hc3 h
    refine WC.seq (WC.region ?_)
    refine lr 2 rfl trivial ?_
    refine WL.nil (WQ.thenNormal (WC.ret (WQ.thenRet ?_)))
    cases h
    exact WQ.rets tbOk (r := .tup [.v (.int .i64 (0 : Int)), .v (.int .i64 (3 : Int))]) hR [] (.inl rfl) rfl rfl (Le.tup (.cons (Le.refl _) (.cons (Le.refl _) .nil))) (by exact trivial) rfl rfl rfl rfl
   ·replace h := ite_f hc3 h
    refine WC.skip (WQ.thenNormal (WC.seq (WC.seq (WC.order mixed ?_))))
    refine wr 7 rfl (by exact sideR) ?_
    replace h := bnd h; obtain ⟨v5, hvv5, h⟩ := h
    refine WR.gcallO [(1, 4), (2, 9)] [4, 9] fn38 rfl rfl rfl rfl rfl (fun _ => (by exact sideR)) (fun hg => (dutyPart_con hw (ite_t hg hvv5))) rfl rfl (by exact ⟨rfl, rfl, trivial⟩) rfl rfl rfl rfl rfl ?_
    replace h := bnd h; obtain ⟨v6, hvv6, h⟩ := h
    refine WR.gcall0 fn41 rfl rfl rfl rfl rfl (fun _ => (by exact sideR)) rfl (fun hg => (exactCmp_con hw (ite_t hg hvv6))) ?_
    refine wr 2 rfl (by exact sideR) ?_
    refine WR.nil (by kernel_rfl) (WQ.thenNormal ?_)
    refine WC.thenCut (X := Int × Int) (fun gG => ⟨[(11, .p 11 0), (10, .fn 38 [.p 4 0, .p 9 0]), (9, .p 9 0), (3, .p 3 0)], [(3, .blk 23 [.v (.int .i64 d.Rate), .v (.int .i64 d.Amount), .v (.int .i64 d.Per), .v (.bool d.HasMost), .v (.int .i64 d.Most), .v (.bool d.HasLeast), .v (.int .i64 d.Least)]), (9, .blk 59 [.v (.int .u64 (IntKind.u64.wrap (if (1 : Int) > d.Per then (1 : Int) else d.Per)))]), (11, .blk 61 [.v (.int .u64 gG.1), .v (.int .u64 gG.2)]), (4, .blk 3 [.v (.int .i64 value)])]⟩) (fun gG => dutyEvaluate_j1 d value gG.1 gG.2 = some r) ?_ ?_
    ·refine WC.cond rfl (fun hc6 => ?_) (fun hc6 => ?_)
     ·replace h := ite_t hc6 h
      refine WC.region ?_
      refine lr 3 rfl trivial ?_
      replace h := bnd h; obtain ⟨v11, hvv11, h⟩ := h
      refine WL.callO [(1, 4), (2, 9)] [(1, 4), (2, 9)] [4, 9] fn38 rfl rfl rfl rfl (by exact trivial) (dutyPart_con hw hvv11) rfl rfl (by exact ⟨rfl, rfl, trivial⟩) rfl rfl rfl rfl rfl rfl ?_
      refine lr 1 rfl trivial ?_
      refine WL.nil ?_
      exact WQ.cut [] (v11.Hi, v11.Lo) ⟨(by exact ⟨rfl, rfl, rfl, rfl, trivial⟩), (by exact ⟨rfl, rfl, rfl, rfl, trivial⟩), rfl, rfl, rfl, rfl⟩ h
     ·replace h := ite_f hc6 h
      refine WC.skip ?_
      exact WQ.cut [] (v4.1.Hi, v4.1.Lo) ⟨(by exact ⟨rfl, rfl, rfl, rfl, trivial⟩), (by exact ⟨rfl, rfl, rfl, rfl, trivial⟩), rfl, rfl, rfl, rfl⟩ h
    ·rintro ⟨c11_0, c11_1⟩ h
     replace h : dutyEvaluate_j1 d value c11_0 c11_1 = some _ := h
     unfold dutyEvaluate_j1 at h
     show WC _ _ _ ⟨[(11, .p 11 0), (10, .fn 38 [.p 4 0, .p 9 0]), (9, .p 9 0), (3, .p 3 0)], [(3, .blk 23 [.v (.int .i64 d.Rate), .v (.int .i64 d.Amount), .v (.int .i64 d.Per), .v (.bool d.HasMost), .v (.int .i64 d.Most), .v (.bool d.HasLeast), .v (.int .i64 d.Least)]), (9, .blk 59 [.v (.int .u64 (IntKind.u64.wrap (if (1 : Int) > d.Per then (1 : Int) else d.Per)))]), (11, .blk 61 [.v (.int .u64 c11_0), .v (.int .u64 c11_1)]), (4, .blk 3 [.v (.int .i64 value)])]⟩ _ _
     refine WC.seq (WC.seq (WC.order mixed ?_))
     refine wr 7 rfl (by exact sideR) ?_
     replace h := bnd h; obtain ⟨v7, hvv7, h⟩ := h
     refine WR.gcallO [(1, 4), (2, 9)] [4, 9] fn38 rfl rfl rfl rfl rfl (fun _ => (by exact sideR)) (fun hg => (dutyPart_con hw (ite_t hg hvv7))) rfl rfl (by exact ⟨rfl, rfl, trivial⟩) rfl rfl rfl rfl rfl ?_
     replace h := bnd h; obtain ⟨v8, hvv8, h⟩ := h
     refine WR.gcall0 fn41 rfl rfl rfl rfl rfl (fun _ => (by exact sideR)) rfl (fun hg => (exactCmp_con hw (ite_t hg hvv8))) ?_
     refine wr 2 rfl (by exact sideR) ?_
     refine WR.nil (by kernel_rfl) (WQ.thenNormal ?_)
     refine WC.thenCut (X := Int × Int) (fun gG => ⟨[(11, .p 11 0), (9, .p 9 0)], [(9, .blk 59 [.v (.int .u64 (IntKind.u64.wrap (if (1 : Int) > d.Per then (1 : Int) else d.Per)))]), (11, .blk 61 [.v (.int .u64 gG.1), .v (.int .u64 gG.2)])]⟩) (fun gG => dutyEvaluate_j2 d gG.1 gG.2 = some r) ?_ ?_
     ·refine WC.cond rfl (fun hc5 => ?_) (fun hc5 => ?_)
      ·replace h := ite_t hc5 h
       refine WC.region ?_
       refine lr 3 rfl trivial ?_
       replace h := bnd h; obtain ⟨v10, hvv10, h⟩ := h
       refine WL.callO [(1, 4), (2, 9)] [(1, 4), (2, 9)] [4, 9] fn38 rfl rfl rfl rfl (by exact trivial) (dutyPart_con hw hvv10) rfl rfl (by exact ⟨rfl, rfl, trivial⟩) rfl rfl rfl rfl rfl rfl ?_
       refine lr 1 rfl trivial ?_
       refine WL.nil ?_
       exact WQ.cut [] (v10.Hi, v10.Lo) ⟨(by exact ⟨rfl, rfl, trivial⟩), (by exact ⟨rfl, rfl, trivial⟩), rfl, rfl, rfl, rfl⟩ h
      ·replace h := ite_f hc5 h
       refine WC.skip ?_
       exact WQ.cut [] (c11_0, c11_1) ⟨(by exact ⟨rfl, rfl, trivial⟩), (by exact ⟨rfl, rfl, trivial⟩), rfl, rfl, rfl, rfl⟩ h
     ·rintro ⟨c11_02, c11_12⟩ h
      replace h : dutyEvaluate_j2 d c11_02 c11_12 = some _ := h
      unfold dutyEvaluate_j2 at h
      show WC _ _ _ ⟨[(11, .p 11 0), (9, .p 9 0)], [(9, .blk 59 [.v (.int .u64 (IntKind.u64.wrap (if (1 : Int) > d.Per then (1 : Int) else d.Per)))]), (11, .blk 61 [.v (.int .u64 c11_02), .v (.int .u64 c11_12)])]⟩ _ _
      refine WC.seq (WC.region ?_)
      refine lr 3 rfl trivial ?_
      replace h := bnd h; obtain ⟨v9, hvv9, h⟩ := h
      refine WL.call0 fn42 rfl rfl rfl rfl (by exact trivial) rfl (exactDiv_con hw hvv9) ?_
      refine lr 5 rfl trivial ?_
      refine WL.nil (WQ.thenNormal (WC.seq (WC.seq (WC.region ?_))))
      refine lr 6 rfl (by exact sideR) ?_
      refine WL.nil (WQ.thenNormal ?_)
      refine WC.cond rfl (fun hc4 => ?_) (fun hc4 => ?_)
      ·replace h := ite_t hc4 h
       refine WC.seq (WC.region ?_)
       refine lr 2 rfl trivial ?_
       refine WL.nil (WQ.thenNormal (WC.ret (WQ.thenRet ?_)))
       cases h
       exact WQ.rets tbOk (r := .tup [.v (.int .i64 (0 : Int)), .v (.int .i64 (3 : Int))]) hR [] (.inl rfl) rfl rfl (Le.tup (.cons (Le.refl _) (.cons (Le.refl _) .nil))) (by exact trivial) rfl rfl rfl rfl
      ·replace h := ite_f hc4 h
       refine WC.skip (WQ.thenNormal (WC.seq (WC.region ?_)))
       refine lr 4 rfl trivial ?_
       refine WL.nil (WQ.thenNormal (WC.ret ?_))
       cases h
       exact WQ.rets tbOk (r := .tup [.v (.int .i64 (IntKind.i64.wrap v9.1)), .v (.int .i64 (0 : Int))]) hR [] (.inl rfl) rfl rfl (Le.tup (.cons (Le.refl _) (.cons (Le.refl _) .nil))) (by exact trivial) rfl rfl rfl rfl

theorem refEvaluate_con {wg : World} (hw : WG wg) {d : ApiDuty} {value : Int} {quantity : Int} {r : Int × Int} (h : refEvaluate d value quantity = some r) : Con Tryz.prog wg gl 21 [.v (.agg [.int .i64 d.Rate, .int .i64 d.Amount, .int .i64 d.Per, .bool d.HasMost, .int .i64 d.Most, .bool d.HasLeast, .int .i64 d.Least]), .v (.int .i64 value), .v (.int .i64 quantity)] [] (.tup [.v (.int .i64 r.1), .v (.int .i64 r.2)]) [] := by
 unfold refEvaluate at h
 refine con_of_WC (S := slotsOf 0 _) Tryz.func21 rfl Tryz.ntmps21 rfl (fun t x hx => (slotsOf_get hx).2) ?_
 intro F L w ρ0 R hR
 show WC _ _ _ ⟨[(0, .v (.agg [.int .i64 d.Rate, .int .i64 d.Amount, .int .i64 d.Per, .bool d.HasMost, .int .i64 d.Most, .bool d.HasLeast, .int .i64 d.Least])), (1, .v (.int .i64 value)), (2, .v (.int .i64 quantity))], []⟩ _ _
 refine WC.seq (WC.region ?_)
 refine lr 3 rfl trivial ?_
 refine WL.nil (WQ.thenNormal (WC.seq (WC.seq (WC.region ?_))))
 refine lr 1 rfl trivial ?_
 replace h := bnd h; obtain ⟨v, hvv, h⟩ := h
 refine WL.call0 fn12 rfl rfl rfl rfl (by exact trivial) rfl (refDuty_con hw hvv) ?_
 refine lr 1 rfl trivial ?_
 refine WL.nil (WQ.thenNormal (WC.seq (WC.region ?_)))
 refine lr 2 rfl trivial ?_
 refine WL.nil (WQ.thenNormal ?_)
 refine WC.cond rfl (fun hc1 => ?_) (fun hc1 => ?_)
 ·replace h := ite_t hc1 h
  refine WC.seq (WC.region ?_)
  refine lr 3 rfl trivial ?_
  refine WL.nil (WQ.thenNormal (WC.ret (WQ.thenRet ?_)))
  cases h
  exact WQ.rets tbOk (r := .tup [.v (.int .i64 (0 : Int)), .v (.int .i64 v)]) hR [] (.inl rfl) rfl rfl (Le.tup (.cons (Le.refl _) (.cons (Le.refl _) .nil))) (by exact trivial) rfl rfl rfl rfl
 ·replace h := ite_f hc1 h
  refine WC.skip (WQ.thenNormal (WC.seq (WC.seq (WC.region ?_))))
  refine lr 1 rfl trivial ?_
  replace h := bnd h; obtain ⟨v2, hvv2, h⟩ := h
  refine WL.call0 fn24 rfl rfl rfl rfl (by exact trivial) rfl (refIn_con hw hvv2) ?_
  refine lr 3 rfl (by exact sideR) ?_
  replace h := bnd h; obtain ⟨v3, hvv3, h⟩ := h
  refine WL.gcall0 fn24 rfl rfl rfl rfl rfl (fun _ => (by exact sideR)) rfl (fun hg => (refIn_con hw (ite_t hg hvv3))) ?_
  refine lr 2 rfl (by exact sideR) ?_
  refine WL.nil (WQ.thenNormal ?_)
  refine WC.cond rfl (fun hc2 => ?_) (fun hc2 => ?_)
  ·replace h := ite_t hc2 h
   refine WC.seq (WC.region ?_)
   refine lr 2 rfl trivial ?_
   refine WL.nil (WQ.thenNormal (WC.ret (WQ.thenRet ?_)))
   cases h
   exact WQ.rets tbOk (r := .tup [.v (.int .i64 (0 : Int)), .v (.int .i64 (2 : Int))]) hR [] (.inl rfl) rfl rfl (Le.tup (.cons (Le.refl _) (.cons (Le.refl _) .nil))) (by exact trivial) rfl rfl rfl rfl
  ·replace h := ite_f hc2 h
   refine WC.skip (WQ.thenNormal (WC.seq (WC.region ?_)))
   refine lr 4 rfl trivial ?_
   refine WL.nil (WQ.thenNormal (WC.seq (WC.order mixed ?_)))
   refine wr 4 rfl trivial ?_
   replace h := bnd h; obtain ⟨v4, hvv4, h⟩ := h
   refine WR.call0 fn44 rfl rfl rfl rfl (by exact trivial) rfl (refScaled_con hw hvv4) ?_
   refine wr 6 rfl trivial ?_
   replace h := bnd h; obtain ⟨v5, hvv5, h⟩ := h
   refine WR.call0 fn45 rfl rfl rfl rfl (by exact trivial) rfl (r01Mul_con hw hvv5) ?_
   replace h := bnd h; obtain ⟨v6, hvv6, h⟩ := h
   refine WR.call0 fn43 rfl rfl rfl rfl (by exact trivial) rfl (r01Add_con hw hvv6) ?_
   refine wr 6 rfl trivial ?_
   refine WR.nil (by kernel_rfl) (WQ.thenNormal (WC.seq (WC.seq (WC.order mixed ?_))))
   refine wr 7 rfl (by exact sideR) ?_
   replace h := bnd h; obtain ⟨v7, hvv7, h⟩ := h
   refine WR.gcall0 fn44 rfl rfl rfl rfl rfl (fun _ => (by exact sideR)) rfl (fun hg => (refScaled_con hw (ite_t hg hvv7))) ?_
   refine wr 1 rfl (by exact sideR) ?_
   replace h := bnd h; obtain ⟨v8, hvv8, h⟩ := h
   refine WR.gcall0 fn46 rfl rfl rfl rfl rfl (fun _ => (by exact sideR)) rfl (fun hg => (r01Less_con hw (ite_t hg hvv8))) ?_
   refine wr 1 rfl (by exact sideR) ?_
   refine WR.nil (by kernel_rfl) (WQ.thenNormal ?_)
   refine WC.thenCut (X := Int × Int) (fun gG => ⟨[(10, .p 10 0), (9, .v (.int .i64 (if (1 : Int) > d.Per then (1 : Int) else d.Per))), (3, .p 3 0), (1, .v (.int .i64 value))], [(10, .blk 70 [.v (.int .u64 gG.1), .v (.int .u64 gG.2)]), (3, .blk 23 [.v (.int .i64 d.Rate), .v (.int .i64 d.Amount), .v (.int .i64 d.Per), .v (.bool d.HasMost), .v (.int .i64 d.Most), .v (.bool d.HasLeast), .v (.int .i64 d.Least)])]⟩) (fun gG => refEvaluate_j1 d value gG.1 gG.2 = some r) ?_ ?_
   ·refine WC.cond rfl (fun hc5 => ?_) (fun hc5 => ?_)
    ·replace h := ite_t hc5 h
     refine WC.region ?_
     refine lr 4 rfl trivial ?_
     replace h := bnd h; obtain ⟨v13, hvv13, h⟩ := h
     refine WL.call0 fn44 rfl rfl rfl rfl (by exact trivial) rfl (refScaled_con hw hvv13) ?_
     refine lr 1 rfl trivial ?_
     refine WL.nil ?_
     exact WQ.cut [] (v13.Hi, v13.Lo) ⟨(by exact ⟨rfl, rfl, rfl, rfl, trivial⟩), (by exact ⟨rfl, rfl, trivial⟩), rfl, rfl, rfl, rfl⟩ h
    ·replace h := ite_f hc5 h
     refine WC.skip ?_
     exact WQ.cut [] (v6.1.Hi, v6.1.Lo) ⟨(by exact ⟨rfl, rfl, rfl, rfl, trivial⟩), (by exact ⟨rfl, rfl, trivial⟩), rfl, rfl, rfl, rfl⟩ h
   ·rintro ⟨c10_0, c10_1⟩ h
    replace h : refEvaluate_j1 d value c10_0 c10_1 = some _ := h
    unfold refEvaluate_j1 at h
    show WC _ _ _ ⟨[(10, .p 10 0), (9, .v (.int .i64 (if (1 : Int) > d.Per then (1 : Int) else d.Per))), (3, .p 3 0), (1, .v (.int .i64 value))], [(10, .blk 70 [.v (.int .u64 c10_0), .v (.int .u64 c10_1)]), (3, .blk 23 [.v (.int .i64 d.Rate), .v (.int .i64 d.Amount), .v (.int .i64 d.Per), .v (.bool d.HasMost), .v (.int .i64 d.Most), .v (.bool d.HasLeast), .v (.int .i64 d.Least)])]⟩ _ _
    refine WC.seq (WC.seq (WC.order mixed ?_))
    refine wr 8 rfl (by exact sideR) ?_
    replace h := bnd h; obtain ⟨v9, hvv9, h⟩ := h
    refine WR.gcall0 fn44 rfl rfl rfl rfl rfl (fun _ => (by exact sideR)) rfl (fun hg => (refScaled_con hw (ite_t hg hvv9))) ?_
    replace h := bnd h; obtain ⟨v10, hvv10, h⟩ := h
    refine WR.gcall0 fn46 rfl rfl rfl rfl rfl (fun _ => (by exact sideR)) rfl (fun hg => (r01Less_con hw (ite_t hg hvv10))) ?_
    refine wr 1 rfl (by exact sideR) ?_
    refine WR.nil (by kernel_rfl) (WQ.thenNormal ?_)
    refine WC.thenCut (X := Int × Int) (fun gG => ⟨[(10, .p 10 0), (9, .v (.int .i64 (if (1 : Int) > d.Per then (1 : Int) else d.Per)))], [(10, .blk 70 [.v (.int .u64 gG.1), .v (.int .u64 gG.2)])]⟩) (fun gG => refEvaluate_j2 d gG.1 gG.2 = some r) ?_ ?_
    ·refine WC.cond rfl (fun hc4 => ?_) (fun hc4 => ?_)
     ·replace h := ite_t hc4 h
      refine WC.region ?_
      refine lr 4 rfl trivial ?_
      replace h := bnd h; obtain ⟨v12, hvv12, h⟩ := h
      refine WL.call0 fn44 rfl rfl rfl rfl (by exact trivial) rfl (refScaled_con hw hvv12) ?_
      refine lr 1 rfl trivial ?_
      refine WL.nil ?_
      exact WQ.cut [] (v12.Hi, v12.Lo) ⟨(by exact ⟨rfl, rfl, trivial⟩), (by exact ⟨rfl, trivial⟩), rfl, rfl, rfl, rfl⟩ h
     ·replace h := ite_f hc4 h
      refine WC.skip ?_
      exact WQ.cut [] (c10_0, c10_1) ⟨(by exact ⟨rfl, rfl, trivial⟩), (by exact ⟨rfl, trivial⟩), rfl, rfl, rfl, rfl⟩ h
    ·rintro ⟨c10_02, c10_12⟩ h
     replace h : refEvaluate_j2 d c10_02 c10_12 = some _ := h
     unfold refEvaluate_j2 at h
     show WC _ _ _ ⟨[(10, .p 10 0), (9, .v (.int .i64 (if (1 : Int) > d.Per then (1 : Int) else d.Per)))], [(10, .blk 70 [.v (.int .u64 c10_02), .v (.int .u64 c10_12)])]⟩ _ _
     refine WC.seq (WC.region ?_)
     refine lr 4 rfl trivial ?_
     replace h := bnd h; obtain ⟨v11, hvv11, h⟩ := h
     refine WL.call0 fn47 rfl rfl rfl rfl (by exact trivial) rfl (r01Div_con hw hvv11) ?_
     refine lr 5 rfl trivial ?_
     refine WL.nil (WQ.thenNormal (WC.seq (WC.seq (WC.region ?_))))
     refine lr 6 rfl (by exact sideR) ?_
     refine WL.nil (WQ.thenNormal ?_)
     refine WC.cond rfl (fun hc3 => ?_) (fun hc3 => ?_)
     ·replace h := ite_t hc3 h
      refine WC.seq (WC.region ?_)
      refine lr 2 rfl trivial ?_
      refine WL.nil (WQ.thenNormal (WC.ret (WQ.thenRet ?_)))
      cases h
      exact WQ.rets tbOk (r := .tup [.v (.int .i64 (0 : Int)), .v (.int .i64 (3 : Int))]) hR [] (.inl rfl) rfl rfl (Le.tup (.cons (Le.refl _) (.cons (Le.refl _) .nil))) (by exact trivial) rfl rfl rfl rfl
     ·replace h := ite_f hc3 h
      refine WC.skip (WQ.thenNormal (WC.seq (WC.region ?_)))
      refine lr 4 rfl trivial ?_
      refine WL.nil (WQ.thenNormal (WC.ret ?_))
      cases h
      exact WQ.rets tbOk (r := .tup [.v (.int .i64 (IntKind.i64.wrap v11.1)), .v (.int .i64 (0 : Int))]) hR [] (.inl rfl) rfl rfl (Le.tup (.cons (Le.refl _) (.cons (Le.refl _) .nil))) (by exact trivial) rfl rfl rfl rfl

end Go.Proofs.YtinickkcieecdaaGreatDoor
