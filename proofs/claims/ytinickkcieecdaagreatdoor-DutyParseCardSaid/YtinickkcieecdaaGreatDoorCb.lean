/- Contracts: the program's functions compute the plain ones; by program (gen.py). -/
import Derived.Test.YtinickkcieecdaaGreatDoorLib
import Derived.Test.YtinickkcieecdaaGreatDoorPb
import Derived.Test.YtinickkcieecdaaGreatDoorCa
set_option linter.unusedVariables false
set_option linter.unusedSimpArgs false
set_option maxHeartbeats 4000000
set_option maxRecDepth 20000
namespace Go.Proofs.YtinickkcieecdaaGreatDoor
open Go.V Go.C

theorem leadingZeros64_con {wg : World} (hw : WG wg) {x : Int} {r : Int} (h : leadingZeros64 x = some r) : Con Tryz.prog wg gl 80 [.v (.int .u64 x)] [] (.v (.int .i64 r)) [] := by
 unfold leadingZeros64 at h
 refine con_of_WC (S := slotsOf 0 _) Tryz.func80 rfl Tryz.ntmps80 rfl (fun t x hx => (slotsOf_get hx).2) ?_
 intro F L w ρ0 R hR
 show WC _ _ _ ⟨[(0, .v (.int .u64 x))], []⟩ _ _
 refine WC.seq (WC.region ?_)
 refine lr 1 rfl trivial ?_
 refine WL.nil (WQ.thenNormal (WC.seq (WC.region ?_)))
 refine lr 1 rfl trivial ?_
 replace h := bnd h; obtain ⟨v, hvv, h⟩ := h
 refine WL.call0 fn98 rfl rfl rfl rfl (by exact trivial) rfl (len64_con hw hvv) ?_
 refine lr 2 rfl trivial ?_
 refine WL.nil (WQ.thenNormal (WC.ret ?_))
 cases h
 exact WQ.rets tbOk hR [] (.inl rfl) rfl rfl (Le.refl _) (by exact trivial) rfl rfl rfl rfl

theorem div64_con {wg : World} (hw : WG wg) {hi : Int} {lo : Int} {y : Int} {r : Int × Int} (h : div64 hi lo y = some r) : Con Tryz.prog wg gl 62 [.v (.int .u64 hi), .v (.int .u64 lo), .v (.int .u64 y)] [] (.tup [.v (.int .u64 r.1), .v (.int .u64 r.2)]) [] := by
 unfold div64 at h
 refine con_of_WC (S := slotsOf 0 _) Tryz.func62 rfl Tryz.ntmps62 rfl (fun t x hx => (slotsOf_get hx).2) ?_
 intro F L w ρ0 R hR
 show WC _ _ _ ⟨[(0, .v (.int .u64 hi)), (1, .v (.int .u64 lo)), (2, .v (.int .u64 y))], []⟩ _ _
 refine WC.seq (WC.region ?_)
 refine lr 2 rfl trivial ?_
 refine WL.nil (WQ.thenNormal (WC.seq (WC.seq (WC.region ?_))))
 refine lr 2 rfl trivial ?_
 refine WL.nil (WQ.thenNormal ?_)
 refine WC.cond rfl (fun hc1 => ?_) (fun hc1 => ?_)
 ·replace h := ite_t hc1 h
  cases h
 ·replace h := ite_f hc1 h
  refine WC.skip (WQ.thenNormal (WC.seq (WC.seq (WC.region ?_))))
  refine lr 3 rfl trivial ?_
  refine WL.nil (WQ.thenNormal ?_)
  refine WC.cond rfl (fun hc2 => ?_) (fun hc2 => ?_)
  ·replace h := ite_t hc2 h
   cases h
  ·replace h := ite_f hc2 h
   refine WC.skip (WQ.thenNormal (WC.seq (WC.seq (WC.region ?_))))
   refine lr 2 rfl trivial ?_
   refine WL.nil (WQ.thenNormal ?_)
   refine WC.cond rfl (fun hc3 => ?_) (fun hc3 => ?_)
   ·replace h := ite_t hc3 h
    refine WC.seq (WC.order mixed ?_)
    obtain ⟨g1, h⟩ := grd h
    obtain ⟨g2, h⟩ := grd h
    refine wr 8 rfl (by repeat' (first | exact trivial | assumption | intro _ | exact g1 (by assumption) | exact g2 (by assumption) | apply And.intro | exact sideT | (refine and_i ?_ ?_))) ?_
    refine WR.nil (by kernel_rfl) (WQ.thenNormal (WC.ret (WQ.thenRet ?_)))
    cases h
    exact WQ.rets tbOk (r := .tup [.v (.int .u64 (IntKind.u64.wrap (lo.tdiv y))), .v (.int .u64 (lo.tmod y))]) hR [] (.inl rfl) rfl rfl (Le.tup (.cons (Le.refl _) (.cons (Le.refl _) .nil))) (by exact trivial) rfl rfl rfl rfl
   ·replace h := ite_f hc3 h
    refine WC.skip (WQ.thenNormal (WC.seq (WC.region ?_)))
    refine lr 1 rfl trivial ?_
    replace h := bnd h; obtain ⟨v, hvv, h⟩ := h
    refine WL.call0 fn80 rfl rfl rfl rfl (by exact trivial) rfl (leadingZeros64_con hw hvv) ?_
    refine lr 2 rfl trivial ?_
    refine WL.nil (WQ.thenNormal (WC.seq (WC.region ?_)))
    obtain ⟨g3, h⟩ := grd h
    refine lr 4 rfl (by repeat' (first | exact trivial | assumption | intro _ | exact g3 (by assumption) | apply And.intro | exact sideT | (refine and_i ?_ ?_))) ?_
    refine WL.nil (WQ.thenNormal (WC.seq (WC.region ?_)))
    refine lr 3 rfl (by exact sideR) ?_
    refine WL.nil (WQ.thenNormal (WC.seq (WC.region ?_)))
    refine lr 3 rfl trivial ?_
    refine WL.nil (WQ.thenNormal (WC.seq (WC.region ?_)))
    obtain ⟨g4, h⟩ := grd h
    obtain ⟨g5, h⟩ := grd h
    refine lr 9 rfl (by repeat' (first | exact trivial | assumption | intro _ | exact g4 (by assumption) | exact g5 (by assumption) | apply And.intro | exact sideT | (refine and_i ?_ ?_))) ?_
    refine WL.nil (WQ.thenNormal (WC.seq (WC.region ?_)))
    obtain ⟨g6, h⟩ := grd h
    refine lr 4 rfl (by repeat' (first | exact trivial | assumption | intro _ | exact g6 (by assumption) | apply And.intro | exact sideT | (refine and_i ?_ ?_))) ?_
    refine WL.nil (WQ.thenNormal (WC.seq (WC.region ?_)))
    refine lr 3 rfl (by exact sideR) ?_
    refine WL.nil (WQ.thenNormal (WC.seq (WC.region ?_)))
    refine lr 3 rfl trivial ?_
    refine WL.nil (WQ.thenNormal (WC.seq (WC.region ?_)))
    obtain ⟨g7, h⟩ := grd h
    refine lr 4 rfl (by repeat' (first | exact trivial | assumption | intro _ | exact g7 (by assumption) | apply And.intro | exact sideT | (refine and_i ?_ ?_))) ?_
    refine WL.nil (WQ.thenNormal (WC.seq (WC.region ?_)))
    refine lr 6 rfl trivial ?_
    refine WL.nil (WQ.thenNormal (WC.seq ?_))
    refine WC.thenCut (X := Int) (fun gG => ⟨[(15, .v (.int .u64 gG)), (14, .v (.int .u64 (IntKind.u64.wrap ((BitVec.ofInt (IntKind.u64).bits (IntKind.u64.wrap (lo * 2 ^ (min (IntKind.u64.wrap v).toNat (IntKind.u64).bits))) &&& BitVec.ofInt (IntKind.u64).bits (4294967295 : Int)).toNat : Int)))), (13, .v (.int .u64 ((IntKind.u64.wrap (lo * 2 ^ (min (IntKind.u64.wrap v).toNat (IntKind.u64).bits))).fdiv (2 ^ (min (32 : Int).toNat (IntKind.u64).bits))))), (11, .v (.int .u64 (IntKind.u64.wrap ((BitVec.ofInt (IntKind.u64).bits (IntKind.u64.wrap (hi * 2 ^ (min (IntKind.u64.wrap v).toNat (IntKind.u64).bits))) ||| BitVec.ofInt (IntKind.u64).bits (lo.fdiv (2 ^ (min (IntKind.u64.wrap ((64 : Int) - (IntKind.u64.wrap v))).toNat (IntKind.u64).bits)))).toNat : Int)))), (10, .v (.int .u64 (IntKind.u64.wrap ((BitVec.ofInt (IntKind.u64).bits (IntKind.u64.wrap (y * 2 ^ (min (IntKind.u64.wrap v).toNat (IntKind.u64).bits))) &&& BitVec.ofInt (IntKind.u64).bits (4294967295 : Int)).toNat : Int)))), (9, .v (.int .u64 ((IntKind.u64.wrap (y * 2 ^ (min (IntKind.u64.wrap v).toNat (IntKind.u64).bits))).fdiv (2 ^ (min (32 : Int).toNat (IntKind.u64).bits))))), (2, .v (.int .u64 (IntKind.u64.wrap (y * 2 ^ (min (IntKind.u64.wrap v).toNat (IntKind.u64).bits))))), (8, .v (.int .u64 (IntKind.u64.wrap v)))], []⟩) (fun gG => div64_j1 hi lo y v gG = some r) ?_ ?_
    ·refine WC.block ?_
     obtain ⟨eQ2, hl2, hk2⟩ := bnd h
     clear h
     refine WC.loop (σ := Int × Int) (τ := (Int)) (fun sS => ⟨[(16, .v (.int .u64 sS.1)), (15, .v (.int .u64 sS.2)), (14, .v (.int .u64 (IntKind.u64.wrap ((BitVec.ofInt (IntKind.u64).bits (IntKind.u64.wrap (lo * 2 ^ (min (IntKind.u64.wrap v).toNat (IntKind.u64).bits))) &&& BitVec.ofInt (IntKind.u64).bits (4294967295 : Int)).toNat : Int)))), (13, .v (.int .u64 ((IntKind.u64.wrap (lo * 2 ^ (min (IntKind.u64.wrap v).toNat (IntKind.u64).bits))).fdiv (2 ^ (min (32 : Int).toNat (IntKind.u64).bits))))), (11, .v (.int .u64 (IntKind.u64.wrap ((BitVec.ofInt (IntKind.u64).bits (IntKind.u64.wrap (hi * 2 ^ (min (IntKind.u64.wrap v).toNat (IntKind.u64).bits))) ||| BitVec.ofInt (IntKind.u64).bits (lo.fdiv (2 ^ (min (IntKind.u64.wrap ((64 : Int) - (IntKind.u64.wrap v))).toNat (IntKind.u64).bits)))).toNat : Int)))), (10, .v (.int .u64 (IntKind.u64.wrap ((BitVec.ofInt (IntKind.u64).bits (IntKind.u64.wrap (y * 2 ^ (min (IntKind.u64.wrap v).toNat (IntKind.u64).bits))) &&& BitVec.ofInt (IntKind.u64).bits (4294967295 : Int)).toNat : Int)))), (9, .v (.int .u64 ((IntKind.u64.wrap (y * 2 ^ (min (IntKind.u64.wrap v).toNat (IntKind.u64).bits))).fdiv (2 ^ (min (32 : Int).toNat (IntKind.u64).bits))))), (2, .v (.int .u64 (IntKind.u64.wrap (y * 2 ^ (min (IntKind.u64.wrap v).toNat (IntKind.u64).bits))))), (8, .v (.int .u64 (IntKind.u64.wrap v)))], []⟩) (div64_b2 hi lo y v) [] ((IntKind.u64.wrap ((IntKind.u64.wrap ((BitVec.ofInt (IntKind.u64).bits (IntKind.u64.wrap (hi * 2 ^ (min (IntKind.u64.wrap v).toNat (IntKind.u64).bits))) ||| BitVec.ofInt (IntKind.u64).bits (lo.fdiv (2 ^ (min (IntKind.u64.wrap ((64 : Int) - (IntKind.u64.wrap v))).toNat (IntKind.u64).bits)))).toNat : Int)) - (IntKind.u64.wrap ((IntKind.u64.wrap ((IntKind.u64.wrap ((BitVec.ofInt (IntKind.u64).bits (IntKind.u64.wrap (hi * 2 ^ (min (IntKind.u64.wrap v).toNat (IntKind.u64).bits))) ||| BitVec.ofInt (IntKind.u64).bits (lo.fdiv (2 ^ (min (IntKind.u64.wrap ((64 : Int) - (IntKind.u64.wrap v))).toNat (IntKind.u64).bits)))).toNat : Int)).tdiv ((IntKind.u64.wrap (y * 2 ^ (min (IntKind.u64.wrap v).toNat (IntKind.u64).bits))).fdiv (2 ^ (min (32 : Int).toNat (IntKind.u64).bits))))) * ((IntKind.u64.wrap (y * 2 ^ (min (IntKind.u64.wrap v).toNat (IntKind.u64).bits))).fdiv (2 ^ (min (32 : Int).toNat (IntKind.u64).bits))))))), (IntKind.u64.wrap ((IntKind.u64.wrap ((BitVec.ofInt (IntKind.u64).bits (IntKind.u64.wrap (hi * 2 ^ (min (IntKind.u64.wrap v).toNat (IntKind.u64).bits))) ||| BitVec.ofInt (IntKind.u64).bits (lo.fdiv (2 ^ (min (IntKind.u64.wrap ((64 : Int) - (IntKind.u64.wrap v))).toNat (IntKind.u64).bits)))).toNat : Int)).tdiv ((IntKind.u64.wrap (y * 2 ^ (min (IntKind.u64.wrap v).toNat (IntKind.u64).bits))).fdiv (2 ^ (min (32 : Int).toNat (IntKind.u64).bits)))))) hl2 ⟨(by exact ⟨rfl, rfl, rfl, rfl, rfl, rfl, rfl, rfl, rfl, trivial⟩), (by exact trivial), rfl, rfl, rfl, rfl⟩ ?_
     rintro ⟨rhat3, q12⟩ m hn2 he2 hx2
     obtain ⟨o2, hf2⟩ := some_of hx2
     have h := hf2
     unfold div64_b2 at h
     show WC _ _ _ ⟨[(16, .v (.int .u64 rhat3)), (15, .v (.int .u64 q12)), (14, .v (.int .u64 (IntKind.u64.wrap ((BitVec.ofInt (IntKind.u64).bits (IntKind.u64.wrap (lo * 2 ^ (min (IntKind.u64.wrap v).toNat (IntKind.u64).bits))) &&& BitVec.ofInt (IntKind.u64).bits (4294967295 : Int)).toNat : Int)))), (13, .v (.int .u64 ((IntKind.u64.wrap (lo * 2 ^ (min (IntKind.u64.wrap v).toNat (IntKind.u64).bits))).fdiv (2 ^ (min (32 : Int).toNat (IntKind.u64).bits))))), (11, .v (.int .u64 (IntKind.u64.wrap ((BitVec.ofInt (IntKind.u64).bits (IntKind.u64.wrap (hi * 2 ^ (min (IntKind.u64.wrap v).toNat (IntKind.u64).bits))) ||| BitVec.ofInt (IntKind.u64).bits (lo.fdiv (2 ^ (min (IntKind.u64.wrap ((64 : Int) - (IntKind.u64.wrap v))).toNat (IntKind.u64).bits)))).toNat : Int)))), (10, .v (.int .u64 (IntKind.u64.wrap ((BitVec.ofInt (IntKind.u64).bits (IntKind.u64.wrap (y * 2 ^ (min (IntKind.u64.wrap v).toNat (IntKind.u64).bits))) &&& BitVec.ofInt (IntKind.u64).bits (4294967295 : Int)).toNat : Int)))), (9, .v (.int .u64 ((IntKind.u64.wrap (y * 2 ^ (min (IntKind.u64.wrap v).toNat (IntKind.u64).bits))).fdiv (2 ^ (min (32 : Int).toNat (IntKind.u64).bits))))), (2, .v (.int .u64 (IntKind.u64.wrap (y * 2 ^ (min (IntKind.u64.wrap v).toNat (IntKind.u64).bits))))), (8, .v (.int .u64 (IntKind.u64.wrap v)))], []⟩ _ _
     refine WC.seq (WC.seq (WC.region ?_))
     refine lr 12 rfl (by exact sideR) ?_
     refine WL.nil (WQ.thenNormal ?_)
     refine WC.cond rfl (fun hc6 => ?_) (fun hc6 => ?_)
     ·replace h := ite_t hc6 h
      refine WC.skip (WQ.thenNormal (WC.block (WC.seq (WC.region ?_))))
      refine lr 3 rfl trivial ?_
      refine WL.nil (WQ.thenNormal (WC.seq (WC.region ?_)))
      refine lr 4 rfl trivial ?_
      refine WL.nil (WQ.thenNormal (WC.seq (WC.region ?_)))
      refine lr 2 rfl trivial ?_
      refine WL.nil (WQ.thenNormal ?_)
      refine WC.cond rfl (fun hc7 => ?_) (fun hc7 => ?_)
      ·replace h := ite_t hc7 h
       refine WC.exit ?_
       refine WQ.blockPass rfl ?_
       cases h
       have he := he2 _ hf2
       subst he
       replace h := hk2
       try dsimp only at h
       refine WQ.thenExit (WQ.blockExit ?_)
       exact WQ.cut [] (IntKind.u64.wrap (q12 - (1 : Int))) ⟨(by exact ⟨rfl, rfl, rfl, rfl, rfl, rfl, rfl, rfl, trivial⟩), (by exact trivial), rfl, rfl, rfl, rfl⟩ h
      ·replace h := ite_f hc7 h
       refine WC.skip (WQ.blockNormal ?_)
       cases h
       exact WQ.next [] ((IntKind.u64.wrap (rhat3 + ((IntKind.u64.wrap (y * 2 ^ (min (IntKind.u64.wrap v).toNat (IntKind.u64).bits))).fdiv (2 ^ (min (32 : Int).toNat (IntKind.u64).bits))))), (IntKind.u64.wrap (q12 - (1 : Int)))) ⟨(by exact ⟨rfl, rfl, rfl, rfl, rfl, rfl, rfl, rfl, rfl, trivial⟩), (by exact trivial), rfl, rfl, rfl, rfl⟩ (hn2 _ hf2)
     ·replace h := ite_f hc6 h
      refine WC.exit (WQ.thenExit ?_)
      cases h
      have he := he2 _ hf2
      subst he
      replace h := hk2
      try dsimp only at h
      refine WQ.thenExit (WQ.blockExit ?_)
      exact WQ.cut [] q12 ⟨(by exact ⟨rfl, rfl, rfl, rfl, rfl, rfl, rfl, rfl, trivial⟩), (by exact trivial), rfl, rfl, rfl, rfl⟩ h
    ·intro q1 h
     replace h : div64_j1 hi lo y v q1 = some _ := h
     unfold div64_j1 at h
     show WC _ _ _ ⟨[(15, .v (.int .u64 q1)), (14, .v (.int .u64 (IntKind.u64.wrap ((BitVec.ofInt (IntKind.u64).bits (IntKind.u64.wrap (lo * 2 ^ (min (IntKind.u64.wrap v).toNat (IntKind.u64).bits))) &&& BitVec.ofInt (IntKind.u64).bits (4294967295 : Int)).toNat : Int)))), (13, .v (.int .u64 ((IntKind.u64.wrap (lo * 2 ^ (min (IntKind.u64.wrap v).toNat (IntKind.u64).bits))).fdiv (2 ^ (min (32 : Int).toNat (IntKind.u64).bits))))), (11, .v (.int .u64 (IntKind.u64.wrap ((BitVec.ofInt (IntKind.u64).bits (IntKind.u64.wrap (hi * 2 ^ (min (IntKind.u64.wrap v).toNat (IntKind.u64).bits))) ||| BitVec.ofInt (IntKind.u64).bits (lo.fdiv (2 ^ (min (IntKind.u64.wrap ((64 : Int) - (IntKind.u64.wrap v))).toNat (IntKind.u64).bits)))).toNat : Int)))), (10, .v (.int .u64 (IntKind.u64.wrap ((BitVec.ofInt (IntKind.u64).bits (IntKind.u64.wrap (y * 2 ^ (min (IntKind.u64.wrap v).toNat (IntKind.u64).bits))) &&& BitVec.ofInt (IntKind.u64).bits (4294967295 : Int)).toNat : Int)))), (9, .v (.int .u64 ((IntKind.u64.wrap (y * 2 ^ (min (IntKind.u64.wrap v).toNat (IntKind.u64).bits))).fdiv (2 ^ (min (32 : Int).toNat (IntKind.u64).bits))))), (2, .v (.int .u64 (IntKind.u64.wrap (y * 2 ^ (min (IntKind.u64.wrap v).toNat (IntKind.u64).bits))))), (8, .v (.int .u64 (IntKind.u64.wrap v)))], []⟩ _ _
     refine WC.seq (WC.region ?_)
     refine lr 9 rfl trivial ?_
     refine WL.nil (WQ.thenNormal (WC.seq (WC.region ?_)))
     obtain ⟨g8, h⟩ := grd h
     refine lr 4 rfl (by repeat' (first | exact trivial | assumption | intro _ | exact g8 (by assumption) | apply And.intro | exact sideT | (refine and_i ?_ ?_))) ?_
     refine WL.nil (WQ.thenNormal (WC.seq (WC.region ?_)))
     refine lr 6 rfl trivial ?_
     refine WL.nil (WQ.thenNormal (WC.seq ?_))
     refine WC.thenCut (X := Int) (fun gG => ⟨[(18, .v (.int .u64 gG)), (17, .v (.int .u64 (IntKind.u64.wrap ((IntKind.u64.wrap ((IntKind.u64.wrap ((IntKind.u64.wrap ((BitVec.ofInt (IntKind.u64).bits (IntKind.u64.wrap (hi * 2 ^ (min (IntKind.u64.wrap v).toNat (IntKind.u64).bits))) ||| BitVec.ofInt (IntKind.u64).bits (lo.fdiv (2 ^ (min (IntKind.u64.wrap ((64 : Int) - (IntKind.u64.wrap v))).toNat (IntKind.u64).bits)))).toNat : Int)) * (4294967296 : Int))) + ((IntKind.u64.wrap (lo * 2 ^ (min (IntKind.u64.wrap v).toNat (IntKind.u64).bits))).fdiv (2 ^ (min (32 : Int).toNat (IntKind.u64).bits))))) - (IntKind.u64.wrap (q1 * (IntKind.u64.wrap (y * 2 ^ (min (IntKind.u64.wrap v).toNat (IntKind.u64).bits))))))))), (15, .v (.int .u64 q1)), (14, .v (.int .u64 (IntKind.u64.wrap ((BitVec.ofInt (IntKind.u64).bits (IntKind.u64.wrap (lo * 2 ^ (min (IntKind.u64.wrap v).toNat (IntKind.u64).bits))) &&& BitVec.ofInt (IntKind.u64).bits (4294967295 : Int)).toNat : Int)))), (2, .v (.int .u64 (IntKind.u64.wrap (y * 2 ^ (min (IntKind.u64.wrap v).toNat (IntKind.u64).bits))))), (8, .v (.int .u64 (IntKind.u64.wrap v)))], []⟩) (fun gG => div64_j2 hi lo y v q1 gG = some r) ?_ ?_
     ·refine WC.block ?_
      obtain ⟨eQ1, hl1, hk1⟩ := bnd h
      clear h
      refine WC.loop (σ := Int × Int) (τ := (Int)) (fun sS => ⟨[(16, .v (.int .u64 sS.1)), (18, .v (.int .u64 sS.2)), (17, .v (.int .u64 (IntKind.u64.wrap ((IntKind.u64.wrap ((IntKind.u64.wrap ((IntKind.u64.wrap ((BitVec.ofInt (IntKind.u64).bits (IntKind.u64.wrap (hi * 2 ^ (min (IntKind.u64.wrap v).toNat (IntKind.u64).bits))) ||| BitVec.ofInt (IntKind.u64).bits (lo.fdiv (2 ^ (min (IntKind.u64.wrap ((64 : Int) - (IntKind.u64.wrap v))).toNat (IntKind.u64).bits)))).toNat : Int)) * (4294967296 : Int))) + ((IntKind.u64.wrap (lo * 2 ^ (min (IntKind.u64.wrap v).toNat (IntKind.u64).bits))).fdiv (2 ^ (min (32 : Int).toNat (IntKind.u64).bits))))) - (IntKind.u64.wrap (q1 * (IntKind.u64.wrap (y * 2 ^ (min (IntKind.u64.wrap v).toNat (IntKind.u64).bits))))))))), (15, .v (.int .u64 q1)), (14, .v (.int .u64 (IntKind.u64.wrap ((BitVec.ofInt (IntKind.u64).bits (IntKind.u64.wrap (lo * 2 ^ (min (IntKind.u64.wrap v).toNat (IntKind.u64).bits))) &&& BitVec.ofInt (IntKind.u64).bits (4294967295 : Int)).toNat : Int)))), (10, .v (.int .u64 (IntKind.u64.wrap ((BitVec.ofInt (IntKind.u64).bits (IntKind.u64.wrap (y * 2 ^ (min (IntKind.u64.wrap v).toNat (IntKind.u64).bits))) &&& BitVec.ofInt (IntKind.u64).bits (4294967295 : Int)).toNat : Int)))), (9, .v (.int .u64 ((IntKind.u64.wrap (y * 2 ^ (min (IntKind.u64.wrap v).toNat (IntKind.u64).bits))).fdiv (2 ^ (min (32 : Int).toNat (IntKind.u64).bits))))), (2, .v (.int .u64 (IntKind.u64.wrap (y * 2 ^ (min (IntKind.u64.wrap v).toNat (IntKind.u64).bits))))), (8, .v (.int .u64 (IntKind.u64.wrap v)))], []⟩) (div64_b1 hi lo y v q1) [] ((IntKind.u64.wrap ((IntKind.u64.wrap ((IntKind.u64.wrap ((IntKind.u64.wrap ((IntKind.u64.wrap ((BitVec.ofInt (IntKind.u64).bits (IntKind.u64.wrap (hi * 2 ^ (min (IntKind.u64.wrap v).toNat (IntKind.u64).bits))) ||| BitVec.ofInt (IntKind.u64).bits (lo.fdiv (2 ^ (min (IntKind.u64.wrap ((64 : Int) - (IntKind.u64.wrap v))).toNat (IntKind.u64).bits)))).toNat : Int)) * (4294967296 : Int))) + ((IntKind.u64.wrap (lo * 2 ^ (min (IntKind.u64.wrap v).toNat (IntKind.u64).bits))).fdiv (2 ^ (min (32 : Int).toNat (IntKind.u64).bits))))) - (IntKind.u64.wrap (q1 * (IntKind.u64.wrap (y * 2 ^ (min (IntKind.u64.wrap v).toNat (IntKind.u64).bits))))))) - (IntKind.u64.wrap ((IntKind.u64.wrap ((IntKind.u64.wrap ((IntKind.u64.wrap ((IntKind.u64.wrap ((IntKind.u64.wrap ((BitVec.ofInt (IntKind.u64).bits (IntKind.u64.wrap (hi * 2 ^ (min (IntKind.u64.wrap v).toNat (IntKind.u64).bits))) ||| BitVec.ofInt (IntKind.u64).bits (lo.fdiv (2 ^ (min (IntKind.u64.wrap ((64 : Int) - (IntKind.u64.wrap v))).toNat (IntKind.u64).bits)))).toNat : Int)) * (4294967296 : Int))) + ((IntKind.u64.wrap (lo * 2 ^ (min (IntKind.u64.wrap v).toNat (IntKind.u64).bits))).fdiv (2 ^ (min (32 : Int).toNat (IntKind.u64).bits))))) - (IntKind.u64.wrap (q1 * (IntKind.u64.wrap (y * 2 ^ (min (IntKind.u64.wrap v).toNat (IntKind.u64).bits))))))).tdiv ((IntKind.u64.wrap (y * 2 ^ (min (IntKind.u64.wrap v).toNat (IntKind.u64).bits))).fdiv (2 ^ (min (32 : Int).toNat (IntKind.u64).bits))))) * ((IntKind.u64.wrap (y * 2 ^ (min (IntKind.u64.wrap v).toNat (IntKind.u64).bits))).fdiv (2 ^ (min (32 : Int).toNat (IntKind.u64).bits))))))), (IntKind.u64.wrap ((IntKind.u64.wrap ((IntKind.u64.wrap ((IntKind.u64.wrap ((IntKind.u64.wrap ((BitVec.ofInt (IntKind.u64).bits (IntKind.u64.wrap (hi * 2 ^ (min (IntKind.u64.wrap v).toNat (IntKind.u64).bits))) ||| BitVec.ofInt (IntKind.u64).bits (lo.fdiv (2 ^ (min (IntKind.u64.wrap ((64 : Int) - (IntKind.u64.wrap v))).toNat (IntKind.u64).bits)))).toNat : Int)) * (4294967296 : Int))) + ((IntKind.u64.wrap (lo * 2 ^ (min (IntKind.u64.wrap v).toNat (IntKind.u64).bits))).fdiv (2 ^ (min (32 : Int).toNat (IntKind.u64).bits))))) - (IntKind.u64.wrap (q1 * (IntKind.u64.wrap (y * 2 ^ (min (IntKind.u64.wrap v).toNat (IntKind.u64).bits))))))).tdiv ((IntKind.u64.wrap (y * 2 ^ (min (IntKind.u64.wrap v).toNat (IntKind.u64).bits))).fdiv (2 ^ (min (32 : Int).toNat (IntKind.u64).bits)))))) hl1 ⟨(by exact ⟨rfl, rfl, rfl, rfl, rfl, rfl, rfl, rfl, rfl, trivial⟩), (by exact trivial), rfl, rfl, rfl, rfl⟩ ?_
      rintro ⟨rhat, q02⟩ m hn1 he1 hx1
      obtain ⟨o1, hf1⟩ := some_of hx1
      have h := hf1
      unfold div64_b1 at h
      show WC _ _ _ ⟨[(16, .v (.int .u64 rhat)), (18, .v (.int .u64 q02)), (17, .v (.int .u64 (IntKind.u64.wrap ((IntKind.u64.wrap ((IntKind.u64.wrap ((IntKind.u64.wrap ((BitVec.ofInt (IntKind.u64).bits (IntKind.u64.wrap (hi * 2 ^ (min (IntKind.u64.wrap v).toNat (IntKind.u64).bits))) ||| BitVec.ofInt (IntKind.u64).bits (lo.fdiv (2 ^ (min (IntKind.u64.wrap ((64 : Int) - (IntKind.u64.wrap v))).toNat (IntKind.u64).bits)))).toNat : Int)) * (4294967296 : Int))) + ((IntKind.u64.wrap (lo * 2 ^ (min (IntKind.u64.wrap v).toNat (IntKind.u64).bits))).fdiv (2 ^ (min (32 : Int).toNat (IntKind.u64).bits))))) - (IntKind.u64.wrap (q1 * (IntKind.u64.wrap (y * 2 ^ (min (IntKind.u64.wrap v).toNat (IntKind.u64).bits))))))))), (15, .v (.int .u64 q1)), (14, .v (.int .u64 (IntKind.u64.wrap ((BitVec.ofInt (IntKind.u64).bits (IntKind.u64.wrap (lo * 2 ^ (min (IntKind.u64.wrap v).toNat (IntKind.u64).bits))) &&& BitVec.ofInt (IntKind.u64).bits (4294967295 : Int)).toNat : Int)))), (10, .v (.int .u64 (IntKind.u64.wrap ((BitVec.ofInt (IntKind.u64).bits (IntKind.u64.wrap (y * 2 ^ (min (IntKind.u64.wrap v).toNat (IntKind.u64).bits))) &&& BitVec.ofInt (IntKind.u64).bits (4294967295 : Int)).toNat : Int)))), (9, .v (.int .u64 ((IntKind.u64.wrap (y * 2 ^ (min (IntKind.u64.wrap v).toNat (IntKind.u64).bits))).fdiv (2 ^ (min (32 : Int).toNat (IntKind.u64).bits))))), (2, .v (.int .u64 (IntKind.u64.wrap (y * 2 ^ (min (IntKind.u64.wrap v).toNat (IntKind.u64).bits))))), (8, .v (.int .u64 (IntKind.u64.wrap v)))], []⟩ _ _
      refine WC.seq (WC.seq (WC.region ?_))
      refine lr 12 rfl (by exact sideR) ?_
      refine WL.nil (WQ.thenNormal ?_)
      refine WC.cond rfl (fun hc4 => ?_) (fun hc4 => ?_)
      ·replace h := ite_t hc4 h
       refine WC.skip (WQ.thenNormal (WC.block (WC.seq (WC.region ?_))))
       refine lr 3 rfl trivial ?_
       refine WL.nil (WQ.thenNormal (WC.seq (WC.region ?_)))
       refine lr 4 rfl trivial ?_
       refine WL.nil (WQ.thenNormal (WC.seq (WC.region ?_)))
       refine lr 2 rfl trivial ?_
       refine WL.nil (WQ.thenNormal ?_)
       refine WC.cond rfl (fun hc5 => ?_) (fun hc5 => ?_)
       ·replace h := ite_t hc5 h
        refine WC.exit ?_
        refine WQ.blockPass rfl ?_
        cases h
        have he := he1 _ hf1
        subst he
        replace h := hk1
        try dsimp only at h
        refine WQ.thenExit (WQ.blockExit ?_)
        exact WQ.cut [] (IntKind.u64.wrap (q02 - (1 : Int))) ⟨(by exact ⟨rfl, rfl, rfl, rfl, rfl, rfl, trivial⟩), (by exact trivial), rfl, rfl, rfl, rfl⟩ h
       ·replace h := ite_f hc5 h
        refine WC.skip (WQ.blockNormal ?_)
        cases h
        exact WQ.next [] ((IntKind.u64.wrap (rhat + ((IntKind.u64.wrap (y * 2 ^ (min (IntKind.u64.wrap v).toNat (IntKind.u64).bits))).fdiv (2 ^ (min (32 : Int).toNat (IntKind.u64).bits))))), (IntKind.u64.wrap (q02 - (1 : Int)))) ⟨(by exact ⟨rfl, rfl, rfl, rfl, rfl, rfl, rfl, rfl, rfl, trivial⟩), (by exact trivial), rfl, rfl, rfl, rfl⟩ (hn1 _ hf1)
      ·replace h := ite_f hc4 h
       refine WC.exit (WQ.thenExit ?_)
       cases h
       have he := he1 _ hf1
       subst he
       replace h := hk1
       try dsimp only at h
       refine WQ.thenExit (WQ.blockExit ?_)
       exact WQ.cut [] q02 ⟨(by exact ⟨rfl, rfl, rfl, rfl, rfl, rfl, trivial⟩), (by exact trivial), rfl, rfl, rfl, rfl⟩ h
     ·intro q0 h
      replace h : div64_j2 hi lo y v q1 q0 = some _ := h
      unfold div64_j2 at h
      show WC _ _ _ ⟨[(18, .v (.int .u64 q0)), (17, .v (.int .u64 (IntKind.u64.wrap ((IntKind.u64.wrap ((IntKind.u64.wrap ((IntKind.u64.wrap ((BitVec.ofInt (IntKind.u64).bits (IntKind.u64.wrap (hi * 2 ^ (min (IntKind.u64.wrap v).toNat (IntKind.u64).bits))) ||| BitVec.ofInt (IntKind.u64).bits (lo.fdiv (2 ^ (min (IntKind.u64.wrap ((64 : Int) - (IntKind.u64.wrap v))).toNat (IntKind.u64).bits)))).toNat : Int)) * (4294967296 : Int))) + ((IntKind.u64.wrap (lo * 2 ^ (min (IntKind.u64.wrap v).toNat (IntKind.u64).bits))).fdiv (2 ^ (min (32 : Int).toNat (IntKind.u64).bits))))) - (IntKind.u64.wrap (q1 * (IntKind.u64.wrap (y * 2 ^ (min (IntKind.u64.wrap v).toNat (IntKind.u64).bits))))))))), (15, .v (.int .u64 q1)), (14, .v (.int .u64 (IntKind.u64.wrap ((BitVec.ofInt (IntKind.u64).bits (IntKind.u64.wrap (lo * 2 ^ (min (IntKind.u64.wrap v).toNat (IntKind.u64).bits))) &&& BitVec.ofInt (IntKind.u64).bits (4294967295 : Int)).toNat : Int)))), (2, .v (.int .u64 (IntKind.u64.wrap (y * 2 ^ (min (IntKind.u64.wrap v).toNat (IntKind.u64).bits))))), (8, .v (.int .u64 (IntKind.u64.wrap v)))], []⟩ _ _
      refine WC.seq (WC.region ?_)
      obtain ⟨g9, h⟩ := grd h
      refine lr 16 rfl (by repeat' (first | exact trivial | assumption | intro _ | exact g9 (by assumption) | apply And.intro | exact sideT | (refine and_i ?_ ?_))) ?_
      refine WL.nil (WQ.thenNormal (WC.ret ?_))
      cases h
      exact WQ.rets tbOk (r := .tup [.v (.int .u64 (IntKind.u64.wrap ((IntKind.u64.wrap (q1 * (4294967296 : Int))) + q0))), .v (.int .u64 ((IntKind.u64.wrap ((IntKind.u64.wrap ((IntKind.u64.wrap ((IntKind.u64.wrap ((IntKind.u64.wrap ((IntKind.u64.wrap ((IntKind.u64.wrap ((BitVec.ofInt (IntKind.u64).bits (IntKind.u64.wrap (hi * 2 ^ (min (IntKind.u64.wrap v).toNat (IntKind.u64).bits))) ||| BitVec.ofInt (IntKind.u64).bits (lo.fdiv (2 ^ (min (IntKind.u64.wrap ((64 : Int) - (IntKind.u64.wrap v))).toNat (IntKind.u64).bits)))).toNat : Int)) * (4294967296 : Int))) + ((IntKind.u64.wrap (lo * 2 ^ (min (IntKind.u64.wrap v).toNat (IntKind.u64).bits))).fdiv (2 ^ (min (32 : Int).toNat (IntKind.u64).bits))))) - (IntKind.u64.wrap (q1 * (IntKind.u64.wrap (y * 2 ^ (min (IntKind.u64.wrap v).toNat (IntKind.u64).bits))))))) * (4294967296 : Int))) + (IntKind.u64.wrap ((BitVec.ofInt (IntKind.u64).bits (IntKind.u64.wrap (lo * 2 ^ (min (IntKind.u64.wrap v).toNat (IntKind.u64).bits))) &&& BitVec.ofInt (IntKind.u64).bits (4294967295 : Int)).toNat : Int)))) - (IntKind.u64.wrap (q0 * (IntKind.u64.wrap (y * 2 ^ (min (IntKind.u64.wrap v).toNat (IntKind.u64).bits))))))).fdiv (2 ^ (min (IntKind.u64.wrap v).toNat (IntKind.u64).bits))))]) hR [] (.inl rfl) rfl rfl (Le.tup (.cons (Le.refl _) (.cons (Le.refl _) .nil))) (by exact trivial) rfl rfl rfl rfl

theorem exactMul_con {wg : World} (hw : WG wg) {a : Int} {b : Int} {r : ExactWide} (h : exactMul a b = some r) : Con Tryz.prog wg gl 39 [.v (.int .u64 a), .v (.int .u64 b)] [] (.v (.agg [.int .u64 r.Hi, .int .u64 r.Lo])) [] := by
 unfold exactMul at h
 refine con_of_WC (S := slotsOf 0 _) Tryz.func39 rfl Tryz.ntmps39 rfl (fun t x hx => (slotsOf_get hx).2) ?_
 intro F L w ρ0 R hR
 show WC _ _ _ ⟨[(0, .v (.int .u64 a)), (1, .v (.int .u64 b))], []⟩ _ _
 refine WC.seq (WC.region ?_)
 refine lr 1 rfl trivial ?_
 refine WL.nil (WQ.thenNormal (WC.seq (WC.region ?_)))
 refine lr 2 rfl trivial ?_
 replace h := bnd h; obtain ⟨v, hvv, h⟩ := h
 refine WL.call0 fn60 rfl rfl rfl rfl (by exact trivial) rfl (mul64_con hw hvv) ?_
 refine lr 5 rfl trivial ?_
 refine WL.nil (WQ.thenNormal (WC.seq (WC.region ?_)))
 refine lr 4 rfl trivial ?_
 refine WL.nil (WQ.thenNormal (WC.ret ?_))
 cases h
 exact WQ.rets tbOk hR [] (.inl rfl) rfl rfl (Le.refl _) (by exact trivial) rfl rfl rfl rfl

theorem exactAdd_con {wg : World} (hw : WG wg) {a : ExactWide} {b : ExactWide} {r : ExactWide × Int} (h : exactAdd a b = some r) : Con Tryz.prog wg gl 40 [.v (.agg [.int .u64 a.Hi, .int .u64 a.Lo]), .v (.agg [.int .u64 b.Hi, .int .u64 b.Lo])] [] (.tup [.v (.agg [.int .u64 r.1.Hi, .int .u64 r.1.Lo]), .v (.int .i64 r.2)]) [] := by
 unfold exactAdd at h
 refine con_of_WC (S := slotsOf 0 _) Tryz.func40 rfl Tryz.ntmps40 rfl (fun t x hx => (slotsOf_get hx).2) ?_
 intro F L w ρ0 R hR
 show WC _ _ _ ⟨[(0, .v (.agg [.int .u64 a.Hi, .int .u64 a.Lo])), (1, .v (.agg [.int .u64 b.Hi, .int .u64 b.Lo]))], []⟩ _ _
 refine WC.seq (WC.region ?_)
 refine lr 4 rfl trivial ?_
 refine WL.nil (WQ.thenNormal (WC.seq (WC.region ?_)))
 refine lr 4 rfl trivial ?_
 replace h := bnd h; obtain ⟨v, hvv, h⟩ := h
 refine WL.q [] rfl rfl rfl (q_fun rfl rfl (by exact trivial) (add64_law hvv)) ?_
 refine lr 5 rfl trivial ?_
 refine WL.nil (WQ.thenNormal (WC.seq (WC.region ?_)))
 refine lr 5 rfl trivial ?_
 replace h := bnd h; obtain ⟨v2, hvv2, h⟩ := h
 refine WL.q [] rfl rfl rfl (q_fun rfl rfl (by exact trivial) (add64_law hvv2)) ?_
 refine lr 5 rfl trivial ?_
 refine WL.nil (WQ.thenNormal (WC.seq (WC.seq (WC.region ?_))))
 refine lr 2 rfl trivial ?_
 refine WL.nil (WQ.thenNormal ?_)
 refine WC.cond rfl (fun hc1 => ?_) (fun hc1 => ?_)
 ·replace h := ite_t hc1 h
  refine WC.seq (WC.region ?_)
  refine lr 3 rfl trivial ?_
  refine WL.nil (WQ.thenNormal (WC.ret (WQ.thenRet ?_)))
  cases h
  exact WQ.rets tbOk (r := .tup [.v (.agg [.int .u64 ((⟨0, 0⟩ : ExactWide).Hi), .int .u64 ((⟨0, 0⟩ : ExactWide).Lo)]), .v (.int .i64 (3 : Int))]) hR [] (.inl rfl) rfl rfl (Le.tup (.cons (Le.refl _) (.cons (Le.refl _) .nil))) (by exact trivial) rfl rfl rfl rfl
 ·replace h := ite_f hc1 h
  refine WC.skip (WQ.thenNormal (WC.seq (WC.region ?_)))
  refine lr 5 rfl trivial ?_
  refine WL.nil (WQ.thenNormal (WC.ret ?_))
  cases h
  exact WQ.rets tbOk (r := .tup [.v (.agg [.int .u64 ((⟨v2.1, v.1⟩ : ExactWide).Hi), .int .u64 ((⟨v2.1, v.1⟩ : ExactWide).Lo)]), .v (.int .i64 (0 : Int))]) hR [] (.inl rfl) rfl rfl (Le.tup (.cons (Le.refl _) (.cons (Le.refl _) .nil))) (by exact trivial) rfl rfl rfl rfl

theorem exactCmp_con {wg : World} (hw : WG wg) {a : ExactWide} {b : ExactWide} {r : Int} (h : exactCmp a b = some r) : Con Tryz.prog wg gl 41 [.v (.agg [.int .u64 a.Hi, .int .u64 a.Lo]), .v (.agg [.int .u64 b.Hi, .int .u64 b.Lo])] [] (.v (.int .i64 r)) [] := by
 unfold exactCmp at h
 refine con_of_WC (S := slotsOf 0 _) Tryz.func41 rfl Tryz.ntmps41 rfl (fun t x hx => (slotsOf_get hx).2) ?_
 intro F L w ρ0 R hR
 show WC _ _ _ ⟨[(0, .v (.agg [.int .u64 a.Hi, .int .u64 a.Lo])), (1, .v (.agg [.int .u64 b.Hi, .int .u64 b.Lo]))], []⟩ _ _
 refine WC.seq (WC.region ?_)
 refine lr 3 rfl trivial ?_
 refine WL.nil (WQ.thenNormal (WC.seq (WC.block (WC.seq (WC.region ?_)))))
 refine lr 20 rfl (by exact sideR) ?_
 refine WL.nil (WQ.thenNormal ?_)
 refine WC.cond rfl (fun hc1 => ?_) (fun hc1 => ?_)
 ·replace h := ite_t hc1 h
  refine WC.seq (WC.region ?_)
  refine lr 1 rfl trivial ?_
  refine WL.nil (WQ.thenNormal (WC.ret (WQ.blockRet (WQ.thenRet ?_))))
  cases h
  exact WQ.rets tbOk hR [] (.inl rfl) rfl rfl (Le.refl _) (by exact trivial) rfl rfl rfl rfl
 ·replace h := ite_f hc1 h
  refine WC.seq (WC.region ?_)
  refine lr 2 rfl trivial ?_
  refine WL.q [] rfl rfl rfl (q_eq rfl (by exact trivial) eg61 eqT61) ?_
  refine lr 1 rfl trivial ?_
  refine WL.nil (WQ.thenNormal ?_)
  refine WC.cond rfl (fun hc2 => ?_) (fun hc2 => ?_)
  ·replace h := ite_t hc2 h
   refine WC.seq (WC.region ?_)
   refine lr 1 rfl trivial ?_
   refine WL.nil (WQ.thenNormal (WC.ret (WQ.blockRet (WQ.thenRet ?_))))
   cases h
   exact WQ.rets tbOk hR [] (.inl rfl) rfl rfl (Le.refl _) (by exact trivial) rfl rfl rfl rfl
  ·replace h := ite_f hc2 h
   refine WC.skip (WQ.blockNormal (WQ.thenNormal (WC.seq (WC.region ?_))))
   refine lr 1 rfl trivial ?_
   refine WL.nil (WQ.thenNormal (WC.ret ?_))
   cases h
   exact WQ.rets tbOk hR [] (.inl rfl) rfl rfl (Le.refl _) (by exact trivial) rfl rfl rfl rfl

theorem exactRaised_con {wg : World} (hw : WG wg) {q : Int} {rest : Int} {c : Int} {m1 : Int} {r : Bool} (h : exactRaised q rest c m1 = some r) : Con Tryz.prog wg gl 63 [.v (.int .u64 q), .v (.int .u64 rest), .v (.int .u64 c), .v (.int .i64 m1)] [] (.v (.bool r)) [] := by
 unfold exactRaised at h
 refine con_of_WC (S := slotsOf 0 _) Tryz.func63 rfl Tryz.ntmps63 rfl (fun t x hx => (slotsOf_get hx).2) ?_
 intro F L w ρ0 R hR
 show WC _ _ _ ⟨[(0, .v (.int .u64 q)), (1, .v (.int .u64 rest)), (2, .v (.int .u64 c)), (3, .v (.int .i64 m1))], []⟩ _ _
 refine WC.seq (WC.region ?_)
 refine lr 1 rfl trivial ?_
 refine WL.nil (WQ.thenNormal (WC.seq (WC.region ?_)))
 refine lr 4 rfl trivial ?_
 refine WL.nil (WQ.thenNormal (WC.seq (WC.seq (WC.region ?_))))
 refine lr 1 rfl trivial ?_
 refine WL.nil (WQ.thenNormal (WC.block (WC.seq (WC.region ?_))))
 refine lr 2 rfl trivial ?_
 refine WL.nil (WQ.thenNormal ?_)
 refine WC.cond rfl (fun hc1 => ?_) (fun hc1 => ?_)
 ·replace h := ite_t hc1 h
  refine WC.seq (WC.region ?_)
  refine lr 3 rfl trivial ?_
  refine WL.nil (WQ.thenNormal (WC.ret (WQ.blockRet (WQ.thenRet ?_))))
  cases h
  exact WQ.rets tbOk hR [] (.inl rfl) rfl rfl (Le.refl _) (by exact trivial) rfl rfl rfl rfl
 ·replace h := ite_f hc1 h
  refine WC.seq (WC.region ?_)
  refine lr 2 rfl trivial ?_
  refine WL.nil (WQ.thenNormal ?_)
  refine WC.cond rfl (fun hc2 => ?_) (fun hc2 => ?_)
  ·replace h := ite_t hc2 h
   refine WC.seq (WC.region ?_)
   refine lr 4 rfl trivial ?_
   refine WL.nil (WQ.thenNormal (WC.ret (WQ.blockRet (WQ.thenRet ?_))))
   cases h
   exact WQ.rets tbOk hR [] (.inl rfl) rfl rfl (Le.refl _) (by exact trivial) rfl rfl rfl rfl
  ·replace h := ite_f hc2 h
   refine WC.seq (WC.region ?_)
   refine lr 2 rfl trivial ?_
   refine WL.nil (WQ.thenNormal ?_)
   refine WC.cond rfl (fun hc3 => ?_) (fun hc3 => ?_)
   ·replace h := ite_t hc3 h
    refine WC.seq (WC.region ?_)
    refine lr 14 rfl (by exact sideR) ?_
    refine WL.nil (WQ.thenNormal (WC.ret (WQ.blockRet (WQ.thenRet ?_))))
    cases h
    exact WQ.rets tbOk hR [] (.inl rfl) rfl rfl (Le.refl _) (by exact trivial) rfl rfl rfl rfl
   ·replace h := ite_f hc3 h
    refine WC.skip (WQ.blockNormal (WQ.thenNormal (WC.seq (WC.region ?_))))
    refine lr 1 rfl trivial ?_
    refine WL.nil (WQ.thenNormal (WC.ret ?_))
    cases h
    exact WQ.rets tbOk hR [] (.inl rfl) rfl rfl (Le.refl _) (by exact trivial) rfl rfl rfl rfl

theorem exactDiv_con {wg : World} (hw : WG wg) {w1 : ExactWide} {c : Int} {m1 : Int} {r : Int × Int} (h : exactDiv w1 c m1 = some r) : Con Tryz.prog wg gl 42 [.v (.agg [.int .u64 w1.Hi, .int .u64 w1.Lo]), .v (.int .u64 c), .v (.int .i64 m1)] [] (.tup [.v (.int .u64 r.1), .v (.int .i64 r.2)]) [] := by
 unfold exactDiv at h
 refine con_of_WC (S := slotsOf 0 _) Tryz.func42 rfl Tryz.ntmps42 rfl (fun t x hx => (slotsOf_get hx).2) ?_
 intro F L w ρ0 R hR
 show WC _ _ _ ⟨[(0, .v (.agg [.int .u64 w1.Hi, .int .u64 w1.Lo])), (1, .v (.int .u64 c)), (2, .v (.int .i64 m1))], []⟩ _ _
 refine WC.seq (WC.region ?_)
 refine lr 3 rfl trivial ?_
 refine WL.nil (WQ.thenNormal (WC.seq (WC.seq (WC.region ?_))))
 refine lr 10 rfl (by exact sideR) ?_
 refine WL.nil (WQ.thenNormal ?_)
 refine WC.cond rfl (fun hc1 => ?_) (fun hc1 => ?_)
 ·replace h := ite_t hc1 h
  refine WC.seq (WC.region ?_)
  refine lr 2 rfl trivial ?_
  refine WL.nil (WQ.thenNormal (WC.ret (WQ.thenRet ?_)))
  cases h
  exact WQ.rets tbOk (r := .tup [.v (.int .u64 (0 : Int)), .v (.int .i64 (2 : Int))]) hR [] (.inl rfl) rfl rfl (Le.tup (.cons (Le.refl _) (.cons (Le.refl _) .nil))) (by exact trivial) rfl rfl rfl rfl
 ·replace h := ite_f hc1 h
  refine WC.skip (WQ.thenNormal (WC.seq (WC.seq (WC.region ?_))))
  refine lr 4 rfl trivial ?_
  refine WL.nil (WQ.thenNormal ?_)
  refine WC.cond rfl (fun hc2 => ?_) (fun hc2 => ?_)
  ·replace h := ite_t hc2 h
   refine WC.seq (WC.region ?_)
   refine lr 2 rfl trivial ?_
   refine WL.nil (WQ.thenNormal (WC.ret (WQ.thenRet ?_)))
   cases h
   exact WQ.rets tbOk (r := .tup [.v (.int .u64 (0 : Int)), .v (.int .i64 (3 : Int))]) hR [] (.inl rfl) rfl rfl (Le.tup (.cons (Le.refl _) (.cons (Le.refl _) .nil))) (by exact trivial) rfl rfl rfl rfl
  ·replace h := ite_f hc2 h
   refine WC.skip (WQ.thenNormal (WC.seq (WC.region ?_)))
   refine lr 5 rfl trivial ?_
   replace h := bnd h; obtain ⟨v, hvv, h⟩ := h
   refine WL.call0 fn62 rfl rfl rfl rfl (by exact trivial) rfl (div64_con hw hvv) ?_
   refine lr 5 rfl trivial ?_
   refine WL.nil (WQ.thenNormal (WC.seq (WC.seq (WC.region ?_))))
   refine lr 4 rfl trivial ?_
   replace h := bnd h; obtain ⟨v2, hvv2, h⟩ := h
   refine WL.call0 fn63 rfl rfl rfl rfl (by exact trivial) rfl (exactRaised_con hw hvv2) ?_
   refine lr 1 rfl trivial ?_
   refine WL.nil (WQ.thenNormal ?_)
   refine WC.cond rfl (fun hc3 => ?_) (fun hc3 => ?_)
   ·replace h := ite_t hc3 h
    refine WC.seq (WC.region ?_)
    refine lr 3 rfl trivial ?_
    refine WL.nil (WQ.thenNormal (WC.ret (WQ.thenRet ?_)))
    cases h
    exact WQ.rets tbOk (r := .tup [.v (.int .u64 v.1), .v (.int .i64 (0 : Int))]) hR [] (.inl rfl) rfl rfl (Le.tup (.cons (Le.refl _) (.cons (Le.refl _) .nil))) (by exact trivial) rfl rfl rfl rfl
   ·replace h := ite_f hc3 h
    refine WC.skip (WQ.thenNormal (WC.seq (WC.seq (WC.region ?_))))
    refine lr 2 rfl trivial ?_
    refine WL.nil (WQ.thenNormal ?_)
    refine WC.cond rfl (fun hc4 => ?_) (fun hc4 => ?_)
    ·replace h := ite_t hc4 h
     refine WC.seq (WC.region ?_)
     refine lr 2 rfl trivial ?_
     refine WL.nil (WQ.thenNormal (WC.ret (WQ.thenRet ?_)))
     cases h
     exact WQ.rets tbOk (r := .tup [.v (.int .u64 (0 : Int)), .v (.int .i64 (3 : Int))]) hR [] (.inl rfl) rfl rfl (Le.tup (.cons (Le.refl _) (.cons (Le.refl _) .nil))) (by exact trivial) rfl rfl rfl rfl
    ·replace h := ite_f hc4 h
     refine WC.skip (WQ.thenNormal (WC.seq (WC.region ?_)))
     refine lr 4 rfl trivial ?_
     refine WL.nil (WQ.thenNormal (WC.ret ?_))
     cases h
     exact WQ.rets tbOk (r := .tup [.v (.int .u64 (IntKind.u64.wrap (v.1 + (1 : Int)))), .v (.int .i64 (0 : Int))]) hR [] (.inl rfl) rfl rfl (Le.tup (.cons (Le.refl _) (.cons (Le.refl _) .nil))) (by exact trivial) rfl rfl rfl rfl

theorem r01Add_con {wg : World} (hw : WG wg) {a : Customsref01Wide} {b : Customsref01Wide} {r : Customsref01Wide × Bool} (h : r01Add a b = some r) : Con Tryz.prog wg gl 43 [.v (.agg [.int .u64 a.Hi, .int .u64 a.Lo]), .v (.agg [.int .u64 b.Hi, .int .u64 b.Lo])] [] (.tup [.v (.agg [.int .u64 r.1.Hi, .int .u64 r.1.Lo]), .v (.bool r.2)]) [] := by
 unfold r01Add at h
 refine con_of_WC (S := slotsOf 0 _) Tryz.func43 rfl Tryz.ntmps43 rfl (fun t x hx => (slotsOf_get hx).2) ?_
 intro F L w ρ0 R hR
 show WC _ _ _ ⟨[(0, .v (.agg [.int .u64 a.Hi, .int .u64 a.Lo])), (1, .v (.agg [.int .u64 b.Hi, .int .u64 b.Lo]))], []⟩ _ _
 refine WC.seq (WC.region ?_)
 refine lr 4 rfl trivial ?_
 refine WL.nil (WQ.thenNormal (WC.seq (WC.order mixed ?_)))
 refine wr 12 rfl trivial ?_
 refine WR.nil (by kernel_rfl) (WQ.thenNormal (WC.seq (WC.region ?_)))
 refine lr 5 rfl trivial ?_
 refine WL.nil (WQ.thenNormal (WC.seq (WC.seq (WC.region ?_))))
 refine lr 4 rfl trivial ?_
 refine WL.nil (WQ.thenNormal ?_)
 refine WC.thenCut (X := Bool × Int) (fun gG => ⟨[(8, .v (.bool gG.1)), (7, .v (.int .u64 gG.2)), (6, .v (.int .u64 (IntKind.u64.wrap (a.Lo + b.Lo)))), (4, .p 4 0)], [(4, .blk 70 [.v (.int .u64 0), .v (.int .u64 0)])]⟩) (fun gG => r01Add_j1 a b gG.1 gG.2 = some r) ?_ ?_
 ·refine WC.cond rfl (fun hc1 => ?_) (fun hc1 => ?_)
  ·replace h := ite_t hc1 h
   refine WC.seq (WC.region ?_)
   refine lr 3 rfl trivial ?_
   refine WL.nil (WQ.thenNormal (WC.region ?_))
   refine lr 6 rfl (by exact sideR) ?_
   refine WL.nil ?_
   exact WQ.cut [] ((bif (decide ((IntKind.u64.wrap (a.Hi + b.Hi)) < a.Hi)) then true else ((IntKind.u64.wrap ((IntKind.u64.wrap (a.Hi + b.Hi)) + (1 : Int))) == (0 : Int))), (IntKind.u64.wrap ((IntKind.u64.wrap (a.Hi + b.Hi)) + (1 : Int)))) ⟨(by exact ⟨rfl, rfl, rfl, rfl, trivial⟩), (by exact ⟨rfl, trivial⟩), rfl, rfl, rfl, rfl⟩ h
  ·replace h := ite_f hc1 h
   refine WC.skip ?_
   exact WQ.cut [] ((decide ((IntKind.u64.wrap (a.Hi + b.Hi)) < a.Hi)), (IntKind.u64.wrap (a.Hi + b.Hi))) ⟨(by exact ⟨rfl, rfl, rfl, rfl, trivial⟩), (by exact ⟨rfl, trivial⟩), rfl, rfl, rfl, rfl⟩ h
 ·rintro ⟨over, hi⟩ h
  replace h : r01Add_j1 a b over hi = some _ := h
  unfold r01Add_j1 at h
  show WC _ _ _ ⟨[(8, .v (.bool over)), (7, .v (.int .u64 hi)), (6, .v (.int .u64 (IntKind.u64.wrap (a.Lo + b.Lo)))), (4, .p 4 0)], [(4, .blk 70 [.v (.int .u64 0), .v (.int .u64 0)])]⟩ _ _
  refine WC.seq (WC.region ?_)
  refine lr 6 rfl trivial ?_
  refine WL.nil (WQ.thenNormal (WC.ret ?_))
  cases h
  exact WQ.rets tbOk (r := .tup [.v (.agg [.int .u64 ((⟨hi, (IntKind.u64.wrap (a.Lo + b.Lo))⟩ : Customsref01Wide).Hi), .int .u64 ((⟨hi, (IntKind.u64.wrap (a.Lo + b.Lo))⟩ : Customsref01Wide).Lo)]), .v (.bool over)]) hR [] (.inl rfl) rfl rfl (Le.tup (.cons (Le.refl _) (.cons (Le.refl _) .nil))) (by exact trivial) rfl rfl rfl rfl

theorem r01Mul_con {wg : World} (hw : WG wg) {a : Int} {b : Int} {r : Customsref01Wide} (h : r01Mul a b = some r) : Con Tryz.prog wg gl 45 [.v (.int .u64 a), .v (.int .u64 b)] [] (.v (.agg [.int .u64 r.Hi, .int .u64 r.Lo])) [] := by
 unfold r01Mul at h
 refine con_of_WC (S := slotsOf 0 _) Tryz.func45 rfl Tryz.ntmps45 rfl (fun t x hx => (slotsOf_get hx).2) ?_
 intro F L w ρ0 R hR
 show WC _ _ _ ⟨[(0, .v (.int .u64 a)), (1, .v (.int .u64 b))], []⟩ _ _
 refine WC.seq (WC.region ?_)
 refine lr 1 rfl trivial ?_
 refine WL.nil (WQ.thenNormal (WC.seq (WC.region ?_)))
 refine lr 3 rfl trivial ?_
 refine WL.nil (WQ.thenNormal (WC.seq (WC.seq (WC.region ?_))))
 refine lr 1 rfl trivial ?_
 refine WL.nil (WQ.thenNormal ?_)
 refine WC.thenCut (X := Int × Int) (fun gG => ⟨[(5, .p 5 0), (4, .p 4 0)], [(4, .blk 70 [.v (.int .u64 0), .v (.int .u64 0)]), (5, .blk 70 [.v (.int .u64 gG.1), .v (.int .u64 gG.2)])]⟩) (fun gG => r01Mul_j1 gG.1 gG.2 = some r) ?_ ?_
 ·refine WC.block ?_
  obtain ⟨eQ1, hl1, hk1⟩ := bnd h
  clear h
  refine WC.loop (σ := Int × Int × Int) (τ := (Int × Int)) (fun sS => ⟨[(6, .v (.int .i64 sS.1)), (5, .p 5 0), (4, .p 4 0), (0, .v (.int .u64 a)), (1, .v (.int .u64 b))], [(4, .blk 70 [.v (.int .u64 0), .v (.int .u64 0)]), (5, .blk 70 [.v (.int .u64 sS.2.1), .v (.int .u64 sS.2.2)])]⟩) (r01Mul_b1 a b) [] ((63 : Int), 0, 0) hl1 ⟨(by exact ⟨rfl, rfl, rfl, rfl, rfl, trivial⟩), (by exact ⟨rfl, rfl, trivial⟩), rfl, rfl, rfl, rfl⟩ ?_
  rintro ⟨i, c5_02, c5_12⟩ m hn1 he1 hx1
  obtain ⟨o1, hf1⟩ := some_of hx1
  have h := hf1
  unfold r01Mul_b1 at h
  show WC _ _ _ ⟨[(6, .v (.int .i64 i)), (5, .p 5 0), (4, .p 4 0), (0, .v (.int .u64 a)), (1, .v (.int .u64 b))], [(4, .blk 70 [.v (.int .u64 0), .v (.int .u64 0)]), (5, .blk 70 [.v (.int .u64 c5_02), .v (.int .u64 c5_12)])]⟩ _ _
  refine WC.seq (WC.seq (WC.region ?_))
  refine lr 2 rfl trivial ?_
  refine WL.nil (WQ.thenNormal ?_)
  refine WC.cond rfl (fun hc1 => ?_) (fun hc1 => ?_)
  ·replace h := ite_t hc1 h
   refine WC.skip (WQ.thenNormal (WC.seq ?_))
   refine WC.thenCut (X := Int × Int) (fun gG => ⟨[(6, .v (.int .i64 i)), (5, .p 5 0), (4, .p 4 0), (0, .v (.int .u64 a)), (1, .v (.int .u64 b))], [(4, .blk 70 [.v (.int .u64 0), .v (.int .u64 0)]), (5, .blk 70 [.v (.int .u64 gG.1), .v (.int .u64 gG.2)])]⟩) (fun gG => r01Mul_j2 a b i gG.1 gG.2 = some o1) ?_ ?_
   ·refine WC.block (WC.seq (WC.region ?_))
    refine lr 2 rfl trivial ?_
    replace h := bnd h; obtain ⟨v3, hvv3, h⟩ := h
    refine WL.call0 fn43 rfl rfl rfl rfl (by exact trivial) rfl (r01Add_con hw hvv3) ?_
    refine lr 4 rfl trivial ?_
    refine WL.nil (WQ.thenNormal (WC.seq (WC.region ?_)))
    obtain ⟨g1, h⟩ := grd h
    refine lr 5 rfl (by repeat' (first | exact trivial | assumption | intro _ | exact g1 (by assumption) | apply And.intro | exact sideT | (refine and_i ?_ ?_))) ?_
    refine WL.nil (WQ.thenNormal ?_)
    refine WC.cond rfl (fun hc2 => ?_) (fun hc2 => ?_)
    ·replace h := ite_t hc2 h
     refine WC.region ?_
     refine lr 3 rfl trivial ?_
     replace h := bnd h; obtain ⟨v4, hvv4, h⟩ := h
     refine WL.call0 fn43 rfl rfl rfl rfl (by exact trivial) rfl (r01Add_con hw hvv4) ?_
     refine lr 4 rfl trivial ?_
     refine WL.nil (WQ.blockNormal ?_)
     exact WQ.cut [] (v4.1.Hi, v4.1.Lo) ⟨(by exact ⟨rfl, rfl, rfl, rfl, rfl, trivial⟩), (by exact ⟨rfl, rfl, trivial⟩), rfl, rfl, rfl, rfl⟩ h
    ·replace h := ite_f hc2 h
     refine WC.skip (WQ.blockNormal ?_)
     exact WQ.cut [] (v3.1.Hi, v3.1.Lo) ⟨(by exact ⟨rfl, rfl, rfl, rfl, rfl, trivial⟩), (by exact ⟨rfl, rfl, trivial⟩), rfl, rfl, rfl, rfl⟩ h
   ·rintro ⟨c5_06, c5_16⟩ h
    replace h : r01Mul_j2 a b i c5_06 c5_16 = some _ := h
    unfold r01Mul_j2 at h
    show WC _ _ _ ⟨[(6, .v (.int .i64 i)), (5, .p 5 0), (4, .p 4 0), (0, .v (.int .u64 a)), (1, .v (.int .u64 b))], [(4, .blk 70 [.v (.int .u64 0), .v (.int .u64 0)]), (5, .blk 70 [.v (.int .u64 c5_06), .v (.int .u64 c5_16)])]⟩ _ _
    refine WC.region ?_
    refine lr 3 rfl trivial ?_
    refine WL.nil ?_
    cases h
    exact WQ.next [] ((IntKind.i64.wrap (i - (1 : Int))), c5_06, c5_16) ⟨(by exact ⟨rfl, rfl, rfl, rfl, rfl, trivial⟩), (by exact ⟨rfl, rfl, trivial⟩), rfl, rfl, rfl, rfl⟩ (hn1 _ hf1)
  ·replace h := ite_f hc1 h
   refine WC.exit (WQ.thenExit ?_)
   cases h
   have he := he1 _ hf1
   subst he
   replace h := hk1
   try dsimp only at h
   refine WQ.thenExit (WQ.blockExit ?_)
   exact WQ.cut [] (c5_02, c5_12) ⟨(by exact ⟨rfl, rfl, trivial⟩), (by exact ⟨rfl, rfl, trivial⟩), rfl, rfl, rfl, rfl⟩ h
 ·rintro ⟨c5_0, c5_1⟩ h
  replace h : r01Mul_j1 c5_0 c5_1 = some _ := h
  unfold r01Mul_j1 at h
  show WC _ _ _ ⟨[(5, .p 5 0), (4, .p 4 0)], [(4, .blk 70 [.v (.int .u64 0), .v (.int .u64 0)]), (5, .blk 70 [.v (.int .u64 c5_0), .v (.int .u64 c5_1)])]⟩ _ _
  refine WC.seq (WC.region ?_)
  refine lr 2 rfl trivial ?_
  refine WL.nil (WQ.thenNormal (WC.ret ?_))
  cases h
  exact WQ.rets tbOk hR [] (.inl rfl) rfl rfl (Le.refl _) (by exact trivial) rfl rfl rfl rfl

theorem r01Less_con {wg : World} (hw : WG wg) {a : Customsref01Wide} {b : Customsref01Wide} {r : Bool} (h : r01Less a b = some r) : Con Tryz.prog wg gl 46 [.v (.agg [.int .u64 a.Hi, .int .u64 a.Lo]), .v (.agg [.int .u64 b.Hi, .int .u64 b.Lo])] [] (.v (.bool r)) [] := by
 unfold r01Less at h
 refine con_of_WC (S := slotsOf 0 _) Tryz.func46 rfl Tryz.ntmps46 rfl (fun t x hx => (slotsOf_get hx).2) ?_
 intro F L w ρ0 R hR
 show WC _ _ _ ⟨[(0, .v (.agg [.int .u64 a.Hi, .int .u64 a.Lo])), (1, .v (.agg [.int .u64 b.Hi, .int .u64 b.Lo]))], []⟩ _ _
 refine WC.seq (WC.region ?_)
 refine lr 3 rfl trivial ?_
 refine WL.nil (WQ.thenNormal (WC.seq (WC.region ?_)))
 refine lr 20 rfl (by exact sideR) ?_
 refine WL.nil (WQ.thenNormal (WC.ret ?_))
 cases h
 exact WQ.rets tbOk hR [] (.inl rfl) rfl rfl (Le.refl _) (by exact trivial) rfl rfl rfl rfl

theorem r01DivMod_con {wg : World} (hw : WG wg) {w1 : Customsref01Wide} {c : Int} {r : Customsref01Wide × Int} (h : r01DivMod w1 c = some r) : Con Tryz.prog wg gl 64 [.v (.agg [.int .u64 w1.Hi, .int .u64 w1.Lo]), .v (.int .u64 c)] [] (.tup [.v (.agg [.int .u64 r.1.Hi, .int .u64 r.1.Lo]), .v (.int .u64 r.2)]) [] := by
 unfold r01DivMod at h
 refine con_of_WC (S := slotsOf 0 _) Tryz.func64 rfl Tryz.ntmps64 rfl (fun t x hx => (slotsOf_get hx).2) ?_
 intro F L w ρ0 R hR
 show WC _ _ _ ⟨[(0, .v (.agg [.int .u64 w1.Hi, .int .u64 w1.Lo])), (1, .v (.int .u64 c))], []⟩ _ _
 refine WC.seq (WC.region ?_)
 refine lr 3 rfl trivial ?_
 refine WL.nil (WQ.thenNormal (WC.seq (WC.region ?_)))
 refine lr 4 rfl trivial ?_
 refine WL.nil (WQ.thenNormal (WC.seq (WC.seq (WC.region ?_))))
 refine lr 1 rfl trivial ?_
 refine WL.nil (WQ.thenNormal ?_)
 refine WC.thenCut (X := Int × Int × Int) (fun gG => ⟨[(7, .v (.int .u64 gG.1)), (6, .p 6 0), (4, .p 4 0)], [(4, .blk 70 [.v (.int .u64 0), .v (.int .u64 0)]), (6, .blk 70 [.v (.int .u64 gG.2.1), .v (.int .u64 gG.2.2)])]⟩) (fun gG => r01DivMod_j1 gG.1 gG.2.1 gG.2.2 = some r) ?_ ?_
 ·refine WC.block ?_
  obtain ⟨eQ1, hl1, hk1⟩ := bnd h
  clear h
  refine WC.loop (σ := Int × Int × Int × Int) (τ := (Int × Int × Int)) (fun sS => ⟨[(8, .v (.int .i64 sS.1)), (7, .v (.int .u64 sS.2.1)), (6, .p 6 0), (4, .p 4 0), (2, .p 2 0), (1, .v (.int .u64 c))], [(2, .blk 70 [.v (.int .u64 w1.Hi), .v (.int .u64 w1.Lo)]), (4, .blk 70 [.v (.int .u64 0), .v (.int .u64 0)]), (6, .blk 70 [.v (.int .u64 sS.2.2.1), .v (.int .u64 sS.2.2.2)])]⟩) (r01DivMod_b1 w1 c) [] ((127 : Int), (0 : Int), 0, 0) hl1 ⟨(by exact ⟨rfl, rfl, rfl, rfl, rfl, rfl, trivial⟩), (by exact ⟨rfl, rfl, rfl, trivial⟩), rfl, rfl, rfl, rfl⟩ ?_
  rintro ⟨i, r12, c6_02, c6_12⟩ m hn1 he1 hx1
  obtain ⟨o1, hf1⟩ := some_of hx1
  have h := hf1
  unfold r01DivMod_b1 at h
  show WC _ _ _ ⟨[(8, .v (.int .i64 i)), (7, .v (.int .u64 r12)), (6, .p 6 0), (4, .p 4 0), (2, .p 2 0), (1, .v (.int .u64 c))], [(2, .blk 70 [.v (.int .u64 w1.Hi), .v (.int .u64 w1.Lo)]), (4, .blk 70 [.v (.int .u64 0), .v (.int .u64 0)]), (6, .blk 70 [.v (.int .u64 c6_02), .v (.int .u64 c6_12)])]⟩ _ _
  refine WC.seq (WC.seq (WC.region ?_))
  refine lr 2 rfl trivial ?_
  refine WL.nil (WQ.thenNormal ?_)
  refine WC.cond rfl (fun hc1 => ?_) (fun hc1 => ?_)
  ·replace h := ite_t hc1 h
   refine WC.skip (WQ.thenNormal (WC.seq ?_))
   refine WC.thenCut (X := Int × Int × Int) (fun gG => ⟨[(7, .v (.int .u64 gG.1)), (8, .v (.int .i64 i)), (6, .p 6 0), (4, .p 4 0), (2, .p 2 0), (1, .v (.int .u64 c))], [(2, .blk 70 [.v (.int .u64 w1.Hi), .v (.int .u64 w1.Lo)]), (4, .blk 70 [.v (.int .u64 0), .v (.int .u64 0)]), (6, .blk 70 [.v (.int .u64 gG.2.1), .v (.int .u64 gG.2.2)])]⟩) (fun gG => r01DivMod_j2 w1 c i gG.1 gG.2.1 gG.2.2 = some o1) ?_ ?_
   ·refine WC.block (WC.seq (WC.region ?_))
    obtain ⟨g1, h⟩ := grd h
    refine lr 7 rfl (by repeat' (first | exact trivial | assumption | intro _ | exact g1 (by assumption) | apply And.intro | exact sideT | (refine and_i ?_ ?_))) ?_
    refine WL.nil (WQ.thenNormal (WC.seq (WC.seq (WC.region ?_))))
    refine lr 2 rfl trivial ?_
    refine WL.nil (WQ.thenNormal ?_)
    refine WC.thenCut (X := Int) (fun gG => ⟨[(9, .v (.int .u64 gG)), (8, .v (.int .i64 i)), (7, .v (.int .u64 r12)), (6, .p 6 0), (4, .p 4 0), (2, .p 2 0), (1, .v (.int .u64 c))], [(2, .blk 70 [.v (.int .u64 w1.Hi), .v (.int .u64 w1.Lo)]), (4, .blk 70 [.v (.int .u64 0), .v (.int .u64 0)]), (6, .blk 70 [.v (.int .u64 c6_02), .v (.int .u64 c6_12)])]⟩) (fun gG => r01DivMod_j3 w1 c i r12 c6_02 c6_12 gG = some o1) ?_ ?_
    ·refine WC.cond rfl (fun hc3 => ?_) (fun hc3 => ?_)
     ·replace h := ite_t hc3 h
      refine WC.region ?_
      obtain ⟨g2, h⟩ := grd h
      refine lr 7 rfl (by repeat' (first | exact trivial | assumption | intro _ | exact g2 (by assumption) | apply And.intro | exact sideT | (refine and_i ?_ ?_))) ?_
      refine WL.nil ?_
      exact WQ.cut [] (IntKind.u64.wrap ((BitVec.ofInt (IntKind.u64).bits (w1.Hi.fdiv (2 ^ (min (IntKind.i64.wrap (i - (64 : Int))).toNat (IntKind.u64).bits))) &&& BitVec.ofInt (IntKind.u64).bits (1 : Int)).toNat : Int)) ⟨(by exact ⟨rfl, rfl, rfl, rfl, rfl, rfl, rfl, trivial⟩), (by exact ⟨rfl, rfl, rfl, trivial⟩), rfl, rfl, rfl, rfl⟩ h
     ·replace h := ite_f hc3 h
      refine WC.skip ?_
      exact WQ.cut [] (IntKind.u64.wrap ((BitVec.ofInt (IntKind.u64).bits (w1.Lo.fdiv (2 ^ (min (IntKind.i64.wrap ((BitVec.ofInt (IntKind.i64).bits i &&& BitVec.ofInt (IntKind.i64).bits (63 : Int)).toNat : Int)).toNat (IntKind.u64).bits))) &&& BitVec.ofInt (IntKind.u64).bits (1 : Int)).toNat : Int)) ⟨(by exact ⟨rfl, rfl, rfl, rfl, rfl, rfl, rfl, trivial⟩), (by exact ⟨rfl, rfl, rfl, trivial⟩), rfl, rfl, rfl, rfl⟩ h
    ·intro bit2 h
     replace h : r01DivMod_j3 w1 c i r12 c6_02 c6_12 bit2 = some _ := h
     unfold r01DivMod_j3 at h
     show WC _ _ _ ⟨[(9, .v (.int .u64 bit2)), (8, .v (.int .i64 i)), (7, .v (.int .u64 r12)), (6, .p 6 0), (4, .p 4 0), (2, .p 2 0), (1, .v (.int .u64 c))], [(2, .blk 70 [.v (.int .u64 w1.Hi), .v (.int .u64 w1.Lo)]), (4, .blk 70 [.v (.int .u64 0), .v (.int .u64 0)]), (6, .blk 70 [.v (.int .u64 c6_02), .v (.int .u64 c6_12)])]⟩ _ _
     refine WC.seq (WC.region ?_)
     refine lr 3 rfl (by exact sideR) ?_
     refine WL.nil (WQ.thenNormal (WC.seq (WC.region ?_)))
     refine lr 5 rfl (by exact sideR) ?_
     refine WL.nil (WQ.thenNormal (WC.seq (WC.region ?_)))
     refine lr 2 rfl trivial ?_
     replace h := bnd h; obtain ⟨v2, hvv2, h⟩ := h
     refine WL.call0 fn43 rfl rfl rfl rfl (by exact trivial) rfl (r01Add_con hw hvv2) ?_
     refine lr 4 rfl trivial ?_
     refine WL.nil (WQ.thenNormal (WC.seq (WC.region ?_)))
     refine lr 7 rfl (by exact sideR) ?_
     refine WL.nil (WQ.thenNormal ?_)
     refine WC.cond rfl (fun hc2 => ?_) (fun hc2 => ?_)
     ·replace h := ite_t hc2 h
      refine WC.seq (WC.region ?_)
      refine lr 4 rfl trivial ?_
      refine WL.nil (WQ.thenNormal (WC.region ?_))
      refine lr 5 rfl trivial ?_
      refine WL.nil (WQ.blockNormal ?_)
      exact WQ.cut [] ((IntKind.u64.wrap ((IntKind.u64.wrap ((BitVec.ofInt (IntKind.u64).bits (IntKind.u64.wrap (r12 * 2 ^ (min (1 : Int).toNat (IntKind.u64).bits))) ||| BitVec.ofInt (IntKind.u64).bits bit2).toNat : Int)) - c)), v2.1.Hi, (IntKind.u64.wrap ((BitVec.ofInt (IntKind.u64).bits v2.1.Lo ||| BitVec.ofInt (IntKind.u64).bits (1 : Int)).toNat : Int))) ⟨(by exact ⟨rfl, rfl, rfl, rfl, rfl, rfl, trivial⟩), (by exact ⟨rfl, rfl, rfl, trivial⟩), rfl, rfl, rfl, rfl⟩ h
     ·replace h := ite_f hc2 h
      refine WC.skip (WQ.blockNormal ?_)
      exact WQ.cut [] ((IntKind.u64.wrap ((BitVec.ofInt (IntKind.u64).bits (IntKind.u64.wrap (r12 * 2 ^ (min (1 : Int).toNat (IntKind.u64).bits))) ||| BitVec.ofInt (IntKind.u64).bits bit2).toNat : Int)), v2.1.Hi, v2.1.Lo) ⟨(by exact ⟨rfl, rfl, rfl, rfl, rfl, rfl, trivial⟩), (by exact ⟨rfl, rfl, rfl, trivial⟩), rfl, rfl, rfl, rfl⟩ h
   ·rintro ⟨r16, c6_06, c6_16⟩ h
    replace h : r01DivMod_j2 w1 c i r16 c6_06 c6_16 = some _ := h
    unfold r01DivMod_j2 at h
    show WC _ _ _ ⟨[(7, .v (.int .u64 r16)), (8, .v (.int .i64 i)), (6, .p 6 0), (4, .p 4 0), (2, .p 2 0), (1, .v (.int .u64 c))], [(2, .blk 70 [.v (.int .u64 w1.Hi), .v (.int .u64 w1.Lo)]), (4, .blk 70 [.v (.int .u64 0), .v (.int .u64 0)]), (6, .blk 70 [.v (.int .u64 c6_06), .v (.int .u64 c6_16)])]⟩ _ _
    refine WC.region ?_
    refine lr 3 rfl trivial ?_
    refine WL.nil ?_
    cases h
    exact WQ.next [] ((IntKind.i64.wrap (i - (1 : Int))), r16, c6_06, c6_16) ⟨(by exact ⟨rfl, rfl, rfl, rfl, rfl, rfl, trivial⟩), (by exact ⟨rfl, rfl, rfl, trivial⟩), rfl, rfl, rfl, rfl⟩ (hn1 _ hf1)
  ·replace h := ite_f hc1 h
   refine WC.exit (WQ.thenExit ?_)
   cases h
   have he := he1 _ hf1
   subst he
   replace h := hk1
   try dsimp only at h
   refine WQ.thenExit (WQ.blockExit ?_)
   exact WQ.cut [] (r12, c6_02, c6_12) ⟨(by exact ⟨rfl, rfl, rfl, trivial⟩), (by exact ⟨rfl, rfl, trivial⟩), rfl, rfl, rfl, rfl⟩ h
 ·rintro ⟨r1, c6_0, c6_1⟩ h
  replace h : r01DivMod_j1 r1 c6_0 c6_1 = some _ := h
  unfold r01DivMod_j1 at h
  show WC _ _ _ ⟨[(7, .v (.int .u64 r1)), (6, .p 6 0), (4, .p 4 0)], [(4, .blk 70 [.v (.int .u64 0), .v (.int .u64 0)]), (6, .blk 70 [.v (.int .u64 c6_0), .v (.int .u64 c6_1)])]⟩ _ _
  refine WC.seq (WC.region ?_)
  refine lr 4 rfl trivial ?_
  refine WL.nil (WQ.thenNormal (WC.ret ?_))
  cases h
  exact WQ.rets tbOk (r := .tup [.v (.agg [.int .u64 ((⟨c6_0, c6_1⟩ : Customsref01Wide).Hi), .int .u64 ((⟨c6_0, c6_1⟩ : Customsref01Wide).Lo)]), .v (.int .u64 r1)]) hR [] (.inl rfl) rfl rfl (Le.tup (.cons (Le.refl _) (.cons (Le.refl _) .nil))) (by exact trivial) rfl rfl rfl rfl

theorem r01Div_con {wg : World} (hw : WG wg) {w1 : Customsref01Wide} {c : Int} {m1 : Int} {r : Int × Int} (h : r01Div w1 c m1 = some r) : Con Tryz.prog wg gl 47 [.v (.agg [.int .u64 w1.Hi, .int .u64 w1.Lo]), .v (.int .u64 c), .v (.int .i64 m1)] [] (.tup [.v (.int .u64 r.1), .v (.int .i64 r.2)]) [] := by
 unfold r01Div at h
 refine con_of_WC (S := slotsOf 0 _) Tryz.func47 rfl Tryz.ntmps47 rfl (fun t x hx => (slotsOf_get hx).2) ?_
 intro F L w ρ0 R hR
 show WC _ _ _ ⟨[(0, .v (.agg [.int .u64 w1.Hi, .int .u64 w1.Lo])), (1, .v (.int .u64 c)), (2, .v (.int .i64 m1))], []⟩ _ _
 refine WC.seq (WC.region ?_)
 refine lr 3 rfl trivial ?_
 refine WL.nil (WQ.thenNormal (WC.seq (WC.seq (WC.region ?_))))
 refine lr 10 rfl (by exact sideR) ?_
 refine WL.nil (WQ.thenNormal ?_)
 refine WC.cond rfl (fun hc1 => ?_) (fun hc1 => ?_)
 ·replace h := ite_t hc1 h
  refine WC.seq (WC.region ?_)
  refine lr 2 rfl trivial ?_
  refine WL.nil (WQ.thenNormal (WC.ret (WQ.thenRet ?_)))
  cases h
  exact WQ.rets tbOk (r := .tup [.v (.int .u64 (0 : Int)), .v (.int .i64 (2 : Int))]) hR [] (.inl rfl) rfl rfl (Le.tup (.cons (Le.refl _) (.cons (Le.refl _) .nil))) (by exact trivial) rfl rfl rfl rfl
 ·replace h := ite_f hc1 h
  refine WC.skip (WQ.thenNormal (WC.seq (WC.region ?_)))
  refine lr 2 rfl trivial ?_
  replace h := bnd h; obtain ⟨v, hvv, h⟩ := h
  refine WL.call0 fn64 rfl rfl rfl rfl (by exact trivial) rfl (r01DivMod_con hw hvv) ?_
  refine lr 6 rfl trivial ?_
  refine WL.nil (WQ.thenNormal (WC.seq (WC.region ?_)))
  refine lr 1 rfl trivial ?_
  refine WL.nil (WQ.thenNormal (WC.seq (WC.seq (WC.region ?_))))
  refine lr 1 rfl trivial ?_
  refine WL.nil (WQ.thenNormal ?_)
  refine WC.thenCut (X := Bool) (fun gG => ⟨[(10, .v (.bool gG)), (8, .p 8 0)], [(8, .blk 70 [.v (.int .u64 v.1.Hi), .v (.int .u64 v.1.Lo)])]⟩) (fun gG => r01Div_j1 v gG = some r) ?_ ?_
  ·refine WC.block (WC.seq (WC.region ?_))
   refine lr 2 rfl trivial ?_
   refine WL.nil (WQ.thenNormal ?_)
   refine WC.cond rfl (fun hc4 => ?_) (fun hc4 => ?_)
   ·replace h := ite_t hc4 h
    refine WC.region ?_
    refine lr 3 rfl trivial ?_
    refine WL.nil (WQ.blockNormal ?_)
    exact WQ.cut [] (decide ((0 : Int) < v.2)) ⟨(by exact ⟨rfl, rfl, trivial⟩), (by exact ⟨rfl, trivial⟩), rfl, rfl, rfl, rfl⟩ h
   ·replace h := ite_f hc4 h
    refine WC.seq (WC.region ?_)
    refine lr 2 rfl trivial ?_
    refine WL.nil (WQ.thenNormal ?_)
    refine WC.cond rfl (fun hc5 => ?_) (fun hc5 => ?_)
    ·replace h := ite_t hc5 h
     refine WC.region ?_
     refine lr 6 rfl trivial ?_
     refine WL.nil (WQ.blockNormal ?_)
     exact WQ.cut [] (decide ((IntKind.u64.wrap (c - v.2)) ≤ v.2)) ⟨(by exact ⟨rfl, rfl, trivial⟩), (by exact ⟨rfl, trivial⟩), rfl, rfl, rfl, rfl⟩ h
    ·replace h := ite_f hc5 h
     refine WC.seq (WC.region ?_)
     refine lr 2 rfl trivial ?_
     refine WL.nil (WQ.thenNormal ?_)
     refine WC.cond rfl (fun hc6 => ?_) (fun hc6 => ?_)
     ·replace h := ite_t hc6 h
      refine WC.region ?_
      refine lr 19 rfl (by exact sideR) ?_
      refine WL.nil (WQ.blockNormal ?_)
      exact WQ.cut [] (bif (decide ((IntKind.u64.wrap (c - v.2)) < v.2)) then true else (bif (v.2 == (IntKind.u64.wrap (c - v.2))) then ((IntKind.u64.wrap ((BitVec.ofInt (IntKind.u64).bits v.1.Lo &&& BitVec.ofInt (IntKind.u64).bits (1 : Int)).toNat : Int)) == (1 : Int)) else false)) ⟨(by exact ⟨rfl, rfl, trivial⟩), (by exact ⟨rfl, trivial⟩), rfl, rfl, rfl, rfl⟩ h
     ·replace h := ite_f hc6 h
      refine WC.skip (WQ.blockNormal ?_)
      exact WQ.cut [] false ⟨(by exact ⟨rfl, rfl, trivial⟩), (by exact ⟨rfl, trivial⟩), rfl, rfl, rfl, rfl⟩ h
  ·intro up h
   replace h : r01Div_j1 v up = some _ := h
   unfold r01Div_j1 at h
   show WC _ _ _ ⟨[(10, .v (.bool up)), (8, .p 8 0)], [(8, .blk 70 [.v (.int .u64 v.1.Hi), .v (.int .u64 v.1.Lo)])]⟩ _ _
   refine WC.seq (WC.seq (WC.region ?_))
   refine lr 1 rfl trivial ?_
   refine WL.nil (WQ.thenNormal ?_)
   refine WC.thenCut (X := Int × Int) (fun gG => ⟨[(8, .p 8 0)], [(8, .blk 70 [.v (.int .u64 gG.1), .v (.int .u64 gG.2)])]⟩) (fun gG => r01Div_j2 gG.1 gG.2 = some r) ?_ ?_
   ·refine WC.cond rfl (fun hc3 => ?_) (fun hc3 => ?_)
    ·replace h := ite_t hc3 h
     refine WC.region ?_
     refine lr 2 rfl trivial ?_
     replace h := bnd h; obtain ⟨v2, hvv2, h⟩ := h
     refine WL.call0 fn43 rfl rfl rfl rfl (by exact trivial) rfl (r01Add_con hw hvv2) ?_
     refine lr 4 rfl trivial ?_
     refine WL.nil ?_
     exact WQ.cut [] (v2.1.Hi, v2.1.Lo) ⟨(by exact ⟨rfl, trivial⟩), (by exact ⟨rfl, trivial⟩), rfl, rfl, rfl, rfl⟩ h
    ·replace h := ite_f hc3 h
     refine WC.skip ?_
     exact WQ.cut [] (v.1.Hi, v.1.Lo) ⟨(by exact ⟨rfl, trivial⟩), (by exact ⟨rfl, trivial⟩), rfl, rfl, rfl, rfl⟩ h
   ·rintro ⟨c8_0, c8_1⟩ h
    replace h : r01Div_j2 c8_0 c8_1 = some _ := h
    unfold r01Div_j2 at h
    show WC _ _ _ ⟨[(8, .p 8 0)], [(8, .blk 70 [.v (.int .u64 c8_0), .v (.int .u64 c8_1)])]⟩ _ _
    refine WC.seq (WC.seq (WC.region ?_))
    refine lr 3 rfl trivial ?_
    refine WL.nil (WQ.thenNormal ?_)
    refine WC.cond rfl (fun hc2 => ?_) (fun hc2 => ?_)
    ·replace h := ite_t hc2 h
     refine WC.seq (WC.region ?_)
     refine lr 2 rfl trivial ?_
     refine WL.nil (WQ.thenNormal (WC.ret (WQ.thenRet ?_)))
     cases h
     exact WQ.rets tbOk (r := .tup [.v (.int .u64 (0 : Int)), .v (.int .i64 (3 : Int))]) hR [] (.inl rfl) rfl rfl (Le.tup (.cons (Le.refl _) (.cons (Le.refl _) .nil))) (by exact trivial) rfl rfl rfl rfl
    ·replace h := ite_f hc2 h
     refine WC.skip (WQ.thenNormal (WC.seq (WC.region ?_)))
     refine lr 4 rfl trivial ?_
     refine WL.nil (WQ.thenNormal (WC.ret ?_))
     cases h
     exact WQ.rets tbOk (r := .tup [.v (.int .u64 c8_1), .v (.int .i64 (0 : Int))]) hR [] (.inl rfl) rfl rfl (Le.tup (.cons (Le.refl _) (.cons (Le.refl _) .nil))) (by exact trivial) rfl rfl rfl rfl

theorem refScaled_con {wg : World} (hw : WG wg) {rate : Int} {value : Int} {per : Int} {r : Customsref01Wide} (h : refScaled rate value per = some r) : Con Tryz.prog wg gl 44 [.v (.int .i64 rate), .v (.int .i64 value), .v (.int .i64 per)] [] (.v (.agg [.int .u64 r.Hi, .int .u64 r.Lo])) [] := by
 unfold refScaled at h
 refine con_of_WC (S := slotsOf 0 _) Tryz.func44 rfl Tryz.ntmps44 rfl (fun t x hx => (slotsOf_get hx).2) ?_
 intro F L w ρ0 R hR
 show WC _ _ _ ⟨[(0, .v (.int .i64 rate)), (1, .v (.int .i64 value)), (2, .v (.int .i64 per))], []⟩ _ _
 refine WC.seq (WC.region ?_)
 refine lr 1 rfl trivial ?_
 refine WL.nil (WQ.thenNormal (WC.seq (WC.region ?_)))
 refine lr 7 rfl trivial ?_
 replace h := bnd h; obtain ⟨v, hvv, h⟩ := h
 refine WL.call0 fn45 rfl rfl rfl rfl (by exact trivial) rfl (r01Mul_con hw hvv) ?_
 refine lr 1 rfl trivial ?_
 refine WL.nil (WQ.thenNormal (WC.ret ?_))
 cases h
 exact WQ.rets tbOk hR [] (.inl rfl) rfl rfl (Le.refl _) (by exact trivial) rfl rfl rfl rfl

end Go.Proofs.YtinickkcieecdaaGreatDoor
