/- Contracts: the program's functions compute the plain ones; by program (gen.py). -/
import Derived.Test.YtbilobjddflpeaaGreatDoorLib
import Derived.Test.YtbilobjddflpeaaGreatDoorPf
import Derived.Test.YtbilobjddflpeaaGreatDoorCa
import Derived.Test.YtbilobjddflpeaaGreatDoorCb
import Derived.Test.YtbilobjddflpeaaGreatDoorCc
import Derived.Test.YtbilobjddflpeaaGreatDoorCd
import Derived.Test.YtbilobjddflpeaaGreatDoorCe
set_option linter.unusedVariables false
set_option linter.unusedSimpArgs false
set_option maxHeartbeats 4000000
set_option maxRecDepth 20000
namespace Go.Proofs.YtbilobjddflpeaaGreatDoor
open Go.V Go.C

theorem sIndex_con {wg : World} (hw : WG wg) {s : (List Str)} {v : Str} {r : Int} (h : sIndex s v = some r) : Con Tryz.prog wg gl 72 [.v (.sl 1 (s.map eStr)), .v (.str v)] [] (.v (.int .i64 r)) [] := by
 unfold sIndex at h
 refine con_of_WC (S := slotsOf 0 _) Tryz.func72 rfl Tryz.ntmps72 rfl (fun t x hx => (slotsOf_get hx).2) ?_
 intro F L w ρ0 R hR
 show WC _ _ _ ⟨[(0, .v (.sl 1 (s.map eStr))), (1, .v (.str v))], []⟩ _ _
 refine WC.seq (WC.region ?_)
 refine lr 1 rfl trivial ?_
 refine WL.nil (WQ.thenNormal (WC.seq (WC.seq (WC.region ?_))))
 refine lr 1 rfl trivial ?_
 refine WL.q [] rfl rfl rfl (q_ev tbOk (.v (.int .i64 (s.length : Int))) rfl (by exact trivial) (by exact lenT)) ?_
 refine lr 1 rfl trivial ?_
 refine WL.nil (WQ.thenNormal ?_)
 refine WC.thenCut (X := Unit) (fun gG => ⟨[], []⟩) (fun gG => sIndex_j1  = some r) ?_ ?_
 ·refine WC.block ?_
  obtain ⟨eQ1, hl1, hk1⟩ := bnd h
  clear h
  refine WC.loop (σ := Int) (τ := ((Int) ⊕ (Unit))) (fun sS => ⟨[(8, .v (.int .i64 sS)), (7, .v (.int .i64 (s.length : Int))), (0, .v (.sl 1 (s.map eStr))), (1, .v (.str v))], []⟩) (sIndex_b1 s v) [] (0 : Int) hl1 ⟨(by exact ⟨rfl, rfl, rfl, rfl, trivial⟩), (by exact trivial), rfl, rfl, rfl, rfl⟩ ?_
  intro t8 m hn1 he1 hx1
  obtain ⟨o1, hf1⟩ := some_of hx1
  have h := hf1
  unfold sIndex_b1 at h
  show WC _ _ _ ⟨[(8, .v (.int .i64 t8)), (7, .v (.int .i64 (s.length : Int))), (0, .v (.sl 1 (s.map eStr))), (1, .v (.str v))], []⟩ _ _
  refine WC.seq (WC.region ?_)
  refine lr 1 rfl trivial ?_
  refine WL.nil (WQ.thenNormal (WC.seq ?_))
  refine WC.cond rfl (fun hc1 => ?_) (fun hc1 => ?_)
  ·replace h := ite_t hc1 h
   refine WC.skip (WQ.thenNormal (WC.seq (WC.block (WC.seq (WC.region ?_)))))
   refine lr 2 rfl trivial ?_
   refine WL.nil (WQ.thenNormal (WC.seq (WC.region ?_)))
   refine lr 3 rfl trivial ?_
   obtain ⟨g1, h⟩ := grd h
   replace h := bnd h; obtain ⟨x2, hxx2, h⟩ := h
   refine WL.q [] rfl rfl rfl (q_idx tbOk rfl (by exact trivial) g1 (map_get (f := eStr) hxx2)) ?_
   refine lr 2 rfl trivial ?_
   refine WL.nil (WQ.thenNormal ?_)
   refine WC.cond rfl (fun hc2 => ?_) (fun hc2 => ?_)
   ·replace h := ite_t hc2 h
    refine WC.seq (WC.region ?_)
    refine lr 2 rfl trivial ?_
    refine WL.nil (WQ.thenNormal (WC.ret (WQ.blockRet (WQ.thenRet ?_))))
    cases h
    have he := he1 _ hf1
    subst he
    have h : some t8 = some _ := hk1
    refine WQ.thenRet (WQ.blockRet (WQ.thenRet ?_))
    cases h
    exact WQ.rets tbOk hR [] (.inl rfl) rfl rfl (Le.refl _) (by exact trivial) rfl rfl rfl rfl
   ·replace h := ite_f hc2 h
    refine WC.skip (WQ.blockNormal (WQ.thenNormal (WC.region ?_)))
    refine lr 2 rfl trivial ?_
    refine WL.nil ?_
    cases h
    exact WQ.next [] (IntKind.i64.wrap (t8 + (1 : Int))) ⟨(by exact ⟨rfl, rfl, rfl, rfl, trivial⟩), (by exact trivial), rfl, rfl, rfl, rfl⟩ (hn1 _ hf1)
  ·replace h := ite_f hc1 h
   refine WC.exit (WQ.thenExit ?_)
   cases h
   have he := he1 _ hf1
   subst he
   replace h := hk1
   try dsimp only at h
   refine WQ.thenExit (WQ.blockExit ?_)
   exact WQ.cut [] () ⟨(by exact trivial), (by exact trivial), rfl, rfl, rfl, rfl⟩ h
 ·intro _ h
  replace h : sIndex_j1 = some _ := h
  unfold sIndex_j1 at h
  show WC _ _ _ ⟨[], []⟩ _ _
  refine WC.seq (WC.region ?_)
  refine lr 1 rfl trivial ?_
  refine WL.nil (WQ.thenNormal (WC.ret ?_))
  cases h
  exact WQ.rets tbOk hR [] (.inl rfl) rfl rfl (Le.refl _) (by exact trivial) rfl rfl rfl rfl

theorem sContains_con {wg : World} (hw : WG wg) {s : (List Str)} {v : Str} {r : Bool} (h : sContains s v = some r) : Con Tryz.prog wg gl 47 [.v (.sl 1 (s.map eStr)), .v (.str v)] [] (.v (.bool r)) [] := by
 unfold sContains at h
 refine con_of_WC (S := slotsOf 0 _) Tryz.func47 rfl Tryz.ntmps47 rfl (fun t x hx => (slotsOf_get hx).2) ?_
 intro F L w ρ0 R hR
 show WC _ _ _ ⟨[(0, .v (.sl 1 (s.map eStr))), (1, .v (.str v))], []⟩ _ _
 refine WC.seq (WC.region ?_)
 refine lr 1 rfl trivial ?_
 refine WL.nil (WQ.thenNormal (WC.seq (WC.region ?_)))
 refine lr 2 rfl trivial ?_
 replace h := bnd h; obtain ⟨v2, hvv2, h⟩ := h
 refine WL.call0 fn72 rfl rfl rfl rfl (by exact trivial) rfl (sIndex_con hw hvv2) ?_
 refine lr 2 rfl trivial ?_
 refine WL.nil (WQ.thenNormal (WC.ret ?_))
 cases h
 exact WQ.rets tbOk hR [] (.inl rfl) rfl rfl (Le.refl _) (by exact trivial) rfl rfl rfl rfl

theorem meInForce_con {wg : World} (hw : WG wg) {m1 : ApiMeasure} {day : Int} {r : Bool} (h : meInForce m1 day = some r) : Con Tryz.prog wg gl 24 [.v (.agg [.int .i64 m1.ID, .int .i64 m1.Kind, .str m1.Prefix, .sl 1 (m1.Origins.map eStr), .int .i64 m1.Company, .int .i64 m1.From, .int .i64 m1.To, .int .i64 m1.Registered, .int .i64 m1.Duty.Rate, .int .i64 m1.Duty.Amount, .int .i64 m1.Duty.Per, .bool m1.Duty.HasMost, .int .i64 m1.Duty.Most, .bool m1.Duty.HasLeast, .int .i64 m1.Duty.Least]), .v (.int .i64 day)] [] (.v (.bool r)) [] := by
 unfold meInForce at h
 refine con_of_WC (S := slotsOf 0 _) Tryz.func24 rfl Tryz.ntmps24 rfl (fun t x hx => (slotsOf_get hx).2) ?_
 intro F L w ρ0 R hR
 show WC _ _ _ ⟨[(0, .v (.agg [.int .i64 m1.ID, .int .i64 m1.Kind, .str m1.Prefix, .sl 1 (m1.Origins.map eStr), .int .i64 m1.Company, .int .i64 m1.From, .int .i64 m1.To, .int .i64 m1.Registered, .int .i64 m1.Duty.Rate, .int .i64 m1.Duty.Amount, .int .i64 m1.Duty.Per, .bool m1.Duty.HasMost, .int .i64 m1.Duty.Most, .bool m1.Duty.HasLeast, .int .i64 m1.Duty.Least])), (1, .v (.int .i64 day))], []⟩ _ _
 refine WC.seq (WC.region ?_)
 refine lr 2 rfl trivial ?_
 refine WL.nil (WQ.thenNormal (WC.seq (WC.region ?_)))
 refine lr 28 rfl (by exact sideR) ?_
 refine WL.nil (WQ.thenNormal (WC.ret ?_))
 cases h
 exact WQ.rets tbOk hR [] (.inl rfl) rfl rfl (Le.refl _) (by exact trivial) rfl rfl rfl rfl

theorem meCovers_con {wg : World} (hw : WG wg) {m1 : ApiMeasure} {code : Str} {origin : Str} {company : Int} {day : Int} {r : Bool} (h : meCovers m1 code origin company day = some r) : Con Tryz.prog wg gl 26 [.v (.agg [.int .i64 m1.ID, .int .i64 m1.Kind, .str m1.Prefix, .sl 1 (m1.Origins.map eStr), .int .i64 m1.Company, .int .i64 m1.From, .int .i64 m1.To, .int .i64 m1.Registered, .int .i64 m1.Duty.Rate, .int .i64 m1.Duty.Amount, .int .i64 m1.Duty.Per, .bool m1.Duty.HasMost, .int .i64 m1.Duty.Most, .bool m1.Duty.HasLeast, .int .i64 m1.Duty.Least]), .v (.str code), .v (.str origin), .v (.int .i64 company), .v (.int .i64 day)] [] (.v (.bool r)) [] := by
 unfold meCovers at h
 refine con_of_WC (S := slotsOf 0 _) Tryz.func26 rfl Tryz.ntmps26 rfl (fun t x hx => (slotsOf_get hx).2) ?_
 intro F L w ρ0 R hR
 show WC _ _ _ ⟨[(0, .v (.agg [.int .i64 m1.ID, .int .i64 m1.Kind, .str m1.Prefix, .sl 1 (m1.Origins.map eStr), .int .i64 m1.Company, .int .i64 m1.From, .int .i64 m1.To, .int .i64 m1.Registered, .int .i64 m1.Duty.Rate, .int .i64 m1.Duty.Amount, .int .i64 m1.Duty.Per, .bool m1.Duty.HasMost, .int .i64 m1.Duty.Most, .bool m1.Duty.HasLeast, .int .i64 m1.Duty.Least])), (1, .v (.str code)), (2, .v (.str origin)), (3, .v (.int .i64 company)), (4, .v (.int .i64 day))], []⟩ _ _
 refine WC.seq (WC.region ?_)
 refine lr 2 rfl trivial ?_
 refine WL.nil (WQ.thenNormal (WC.seq (WC.region ?_)))
 refine lr 2 rfl trivial ?_
 replace h := bnd h; obtain ⟨v, hvv, h⟩ := h
 refine WL.call0 fn24 rfl rfl rfl rfl (by exact trivial) rfl (meInForce_con hw hvv) ?_
 refine lr 4 rfl (by exact sideR) ?_
 replace h := bnd h; obtain ⟨v2, hvv2, h⟩ := h
 refine WL.gcall0 fn46 rfl rfl rfl rfl rfl (fun _ => (by exact sideR)) rfl (fun hg => (hasPrefixS_con hw (ite_t hg hvv2))) ?_
 refine lr 4 rfl (by exact sideR) ?_
 refine WL.gq [] rfl rfl rfl rfl (fun hg => q_ev tbOk (.v (.int .i64 (m1.Origins.length : Int))) rfl (by exact sideR) (by exact lenT)) ?_
 refine lr 5 rfl (by exact sideR) ?_
 replace h := bnd h; obtain ⟨v3, hvv3, h⟩ := h
 refine WL.gcall0 fn47 rfl rfl rfl rfl rfl (fun _ => (by exact sideR)) rfl (fun hg => (sContains_con hw (ite_t hg hvv3))) ?_
 refine lr 14 rfl (by exact sideR) ?_
 refine WL.nil (WQ.thenNormal (WC.ret ?_))
 cases h
 exact WQ.rets tbOk hR [] (.inl rfl) rfl rfl (Le.refl _) (by exact trivial) rfl rfl rfl rfl

theorem mePrecedes_con {wg : World} (hw : WG wg) {x : ApiMeasure} {y : ApiMeasure} {r : Bool} (h : mePrecedes x y = some r) : Con Tryz.prog wg gl 50 [.v (.agg [.int .i64 x.ID, .int .i64 x.Kind, .str x.Prefix, .sl 1 (x.Origins.map eStr), .int .i64 x.Company, .int .i64 x.From, .int .i64 x.To, .int .i64 x.Registered, .int .i64 x.Duty.Rate, .int .i64 x.Duty.Amount, .int .i64 x.Duty.Per, .bool x.Duty.HasMost, .int .i64 x.Duty.Most, .bool x.Duty.HasLeast, .int .i64 x.Duty.Least]), .v (.agg [.int .i64 y.ID, .int .i64 y.Kind, .str y.Prefix, .sl 1 (y.Origins.map eStr), .int .i64 y.Company, .int .i64 y.From, .int .i64 y.To, .int .i64 y.Registered, .int .i64 y.Duty.Rate, .int .i64 y.Duty.Amount, .int .i64 y.Duty.Per, .bool y.Duty.HasMost, .int .i64 y.Duty.Most, .bool y.Duty.HasLeast, .int .i64 y.Duty.Least])] [] (.v (.bool r)) [] := by
 unfold mePrecedes at h
 refine con_of_WC (S := slotsOf 0 _) Tryz.func50 rfl Tryz.ntmps50 rfl (fun t x hx => (slotsOf_get hx).2) ?_
 intro F L w ρ0 R hR
 show WC _ _ _ ⟨[(0, .v (.agg [.int .i64 x.ID, .int .i64 x.Kind, .str x.Prefix, .sl 1 (x.Origins.map eStr), .int .i64 x.Company, .int .i64 x.From, .int .i64 x.To, .int .i64 x.Registered, .int .i64 x.Duty.Rate, .int .i64 x.Duty.Amount, .int .i64 x.Duty.Per, .bool x.Duty.HasMost, .int .i64 x.Duty.Most, .bool x.Duty.HasLeast, .int .i64 x.Duty.Least])), (1, .v (.agg [.int .i64 y.ID, .int .i64 y.Kind, .str y.Prefix, .sl 1 (y.Origins.map eStr), .int .i64 y.Company, .int .i64 y.From, .int .i64 y.To, .int .i64 y.Registered, .int .i64 y.Duty.Rate, .int .i64 y.Duty.Amount, .int .i64 y.Duty.Per, .bool y.Duty.HasMost, .int .i64 y.Duty.Most, .bool y.Duty.HasLeast, .int .i64 y.Duty.Least]))], []⟩ _ _
 refine WC.seq (WC.region ?_)
 refine lr 3 rfl trivial ?_
 refine WL.nil (WQ.thenNormal (WC.seq (WC.seq (WC.region ?_))))
 refine lr 7 rfl trivial ?_
 refine WL.nil (WQ.thenNormal ?_)
 refine WC.cond rfl (fun hc1 => ?_) (fun hc1 => ?_)
 ·replace h := ite_t hc1 h
  refine WC.seq (WC.region ?_)
  refine lr 8 rfl trivial ?_
  refine WL.nil (WQ.thenNormal (WC.ret (WQ.thenRet ?_)))
  cases h
  exact WQ.rets tbOk hR [] (.inl rfl) rfl rfl (Le.refl _) (by exact trivial) rfl rfl rfl rfl
 ·replace h := ite_f hc1 h
  refine WC.skip (WQ.thenNormal (WC.seq (WC.seq (WC.region ?_))))
  refine lr 7 rfl trivial ?_
  refine WL.nil (WQ.thenNormal ?_)
  refine WC.cond rfl (fun hc2 => ?_) (fun hc2 => ?_)
  ·replace h := ite_t hc2 h
   refine WC.seq (WC.region ?_)
   refine lr 4 rfl trivial ?_
   refine WL.nil (WQ.thenNormal (WC.ret (WQ.thenRet ?_)))
   cases h
   exact WQ.rets tbOk hR [] (.inl rfl) rfl rfl (Le.refl _) (by exact trivial) rfl rfl rfl rfl
  ·replace h := ite_f hc2 h
   refine WC.skip (WQ.thenNormal (WC.seq (WC.seq (WC.region ?_))))
   refine lr 2 rfl trivial ?_
   refine WL.q [] rfl rfl rfl (q_ev tbOk (.v (.int .i64 (x.Origins.length : Int))) rfl (by exact trivial) (by exact lenT)) ?_
   refine lr 2 rfl trivial ?_
   refine WL.q [] rfl rfl rfl (q_ev tbOk (.v (.int .i64 (y.Origins.length : Int))) rfl (by exact trivial) (by exact lenT)) ?_
   refine lr 1 rfl trivial ?_
   refine WL.nil (WQ.thenNormal ?_)
   refine WC.cond rfl (fun hc3 => ?_) (fun hc3 => ?_)
   ·replace h := ite_t hc3 h
    refine WC.seq (WC.region ?_)
    refine lr 2 rfl trivial ?_
    refine WL.q [] rfl rfl rfl (q_ev tbOk (.v (.int .i64 (y.Origins.length : Int))) rfl (by exact trivial) (by exact lenT)) ?_
    refine lr 4 rfl (by exact sideR) ?_
    refine WL.gq [] rfl rfl rfl rfl (fun hg => q_ev tbOk (.v (.int .i64 (x.Origins.length : Int))) rfl (by exact sideR) (by exact lenT)) ?_
    refine lr 4 rfl (by exact sideR) ?_
    refine WL.gq [] rfl rfl rfl rfl (fun hg => q_ev tbOk (.v (.int .i64 (x.Origins.length : Int))) rfl (by exact sideR) (by exact lenT)) ?_
    refine lr 2 rfl (by exact sideR) ?_
    refine WL.gq [] rfl rfl rfl rfl (fun hg => q_ev tbOk (.v (.int .i64 (y.Origins.length : Int))) rfl (by exact sideR) (by exact lenT)) ?_
    refine lr 4 rfl (by exact sideR) ?_
    refine WL.nil (WQ.thenNormal (WC.ret (WQ.thenRet ?_)))
    cases h
    exact WQ.rets tbOk hR [] (.inl rfl) rfl rfl (Le.refl _) (by exact trivial) rfl rfl rfl rfl
   ·replace h := ite_f hc3 h
    refine WC.skip (WQ.thenNormal (WC.seq (WC.region ?_)))
    refine lr 6 rfl trivial ?_
    refine WL.nil (WQ.thenNormal (WC.ret ?_))
    cases h
    exact WQ.rets tbOk hR [] (.inl rfl) rfl rfl (Le.refl _) (by exact trivial) rfl rfl rfl rfl

theorem meApplicable_con {wg : World} (hw : WG wg) {l : (List ApiMeasure)} {code : Str} {origin : Str} {company : Int} {day : Int} {r : (List ApiMeasure)} (h : meApplicable l code origin company day = some r) : Con Tryz.prog wg gl 28 [.v (.sl 15 (l.map eApiMeasure)), .v (.str code), .v (.str origin), .v (.int .i64 company), .v (.int .i64 day)] [] (.v (.sl 15 (r.map eApiMeasure))) [] := by
 unfold meApplicable at h
 refine con_of_WC (S := slotsOf 0 _) Tryz.func28 rfl Tryz.ntmps28 rfl (fun t x hx => (slotsOf_get hx).2) ?_
 intro F L w ρ0 R hR
 show WC _ _ _ ⟨[(0, .v (.sl 15 (l.map eApiMeasure))), (1, .v (.str code)), (2, .v (.str origin)), (3, .v (.int .i64 company)), (4, .v (.int .i64 day))], []⟩ _ _
 refine WC.seq (WC.region ?_)
 refine lr 1 rfl trivial ?_
 refine WL.nil (WQ.thenNormal (WC.seq (WC.region ?_)))
 refine lr 1 rfl trivial ?_
 refine WL.nil (WQ.thenNormal (WC.seq (WC.seq (WC.region ?_))))
 refine lr 1 rfl trivial ?_
 refine WL.nil (WQ.thenNormal ?_)
 refine WC.thenCut (X := (List ApiMeasure)) (fun gG => ⟨[(11, .r 1011)], [(1011, .row 34 15 (gG.map eApiMeasure))]⟩) (fun gG => meApplicable_j1 gG = some r) ?_ ?_
 ·refine WC.block ?_
  obtain ⟨eQ1, hl1, hk1⟩ := bnd h
  clear h
  refine WC.rowNil 11 1011 34 15 rfl rfl ?_
  refine WC.loop (σ := Int × (List ApiMeasure)) (τ := ((List ApiMeasure))) (fun sS => ⟨[(12, .v (.int .i64 sS.1)), (11, .r 1011), (0, .v (.sl 15 (l.map eApiMeasure))), (1, .v (.str code)), (2, .v (.str origin)), (3, .v (.int .i64 company)), (4, .v (.int .i64 day))], [(1011, .row 34 15 (sS.2.map eApiMeasure))]⟩) (meApplicable_b1 l code origin company day) [] ((1 : Int), []) hl1 ⟨(by exact ⟨rfl, rfl, rfl, rfl, rfl, rfl, rfl, trivial⟩), (by exact ⟨rfl, trivial⟩), rfl, rfl, rfl, rfl⟩ ?_
  rintro ⟨kind2, result3⟩ m hn1 he1 hx1
  obtain ⟨o1, hf1⟩ := some_of hx1
  have h := hf1
  unfold meApplicable_b1 at h
  show WC _ _ _ ⟨[(12, .v (.int .i64 kind2)), (11, .r 1011), (0, .v (.sl 15 (l.map eApiMeasure))), (1, .v (.str code)), (2, .v (.str origin)), (3, .v (.int .i64 company)), (4, .v (.int .i64 day))], [(1011, .row 34 15 (result3.map eApiMeasure))]⟩ _ _
  refine WC.seq (WC.seq (WC.region ?_))
  refine lr 2 rfl trivial ?_
  refine WL.nil (WQ.thenNormal ?_)
  refine WC.cond rfl (fun hc1 => ?_) (fun hc1 => ?_)
  ·replace h := ite_t hc1 h
   refine WC.skip (WQ.thenNormal (WC.seq ?_))
   refine WC.thenCut (X := (List ApiMeasure)) (fun gG => ⟨[(11, .r 1011), (12, .v (.int .i64 kind2)), (0, .v (.sl 15 (l.map eApiMeasure))), (1, .v (.str code)), (2, .v (.str origin)), (3, .v (.int .i64 company)), (4, .v (.int .i64 day))], [(1011, .row 34 15 (gG.map eApiMeasure))]⟩) (fun gG => meApplicable_j2 l code origin company day kind2 gG = some o1) ?_ ?_
   ·refine WC.block (WC.seq (WC.region ?_))
    refine lr 1 rfl trivial ?_
    refine WL.nil (WQ.thenNormal (WC.seq (WC.seq (WC.region ?_))))
    refine lr 1 rfl trivial ?_
    refine WL.q [] rfl rfl rfl (q_ev tbOk (.v (.int .i64 (l.length : Int))) rfl (by exact trivial) (by exact lenT)) ?_
    refine lr 1 rfl trivial ?_
    refine WL.nil (WQ.thenNormal ?_)
    refine WC.thenCut (X := Int × (List ApiMeasure)) (fun gG => ⟨[(13, .v (.int .i64 gG.1)), (12, .v (.int .i64 kind2)), (11, .r 1011), (0, .v (.sl 15 (l.map eApiMeasure))), (1, .v (.str code)), (2, .v (.str origin)), (3, .v (.int .i64 company)), (4, .v (.int .i64 day))], [(1011, .row 34 15 (gG.2.map eApiMeasure))]⟩) (fun gG => meApplicable_j3 l code origin company day kind2 gG.1 gG.2 = some o1) ?_ ?_
    ·refine WC.block ?_
     obtain ⟨eQ2, hl2, hk2⟩ := bnd h
     clear h
     refine WC.loop (σ := Int × Int × (List ApiMeasure)) (τ := (Int × (List ApiMeasure))) (fun sS => ⟨[(23, .v (.int .i64 sS.1)), (22, .v (.int .i64 (l.length : Int))), (21, .v (.sl 15 (l.map eApiMeasure))), (13, .v (.int .i64 sS.2.1)), (12, .v (.int .i64 kind2)), (11, .r 1011), (0, .v (.sl 15 (l.map eApiMeasure))), (1, .v (.str code)), (2, .v (.str origin)), (3, .v (.int .i64 company)), (4, .v (.int .i64 day))], [(1011, .row 34 15 (sS.2.2.map eApiMeasure))]⟩) (meApplicable_b2 l code origin company day kind2) [] ((0 : Int), (-1 : Int), result3) hl2 ⟨(by exact ⟨rfl, rfl, rfl, rfl, rfl, rfl, rfl, rfl, rfl, rfl, rfl, trivial⟩), (by exact ⟨rfl, trivial⟩), rfl, rfl, rfl, rfl⟩ ?_
     rintro ⟨t235, best14, result14⟩ m hn2 he2 hx2
     obtain ⟨o2, hf2⟩ := some_of hx2
     have h := hf2
     unfold meApplicable_b2 at h
     show WC _ _ _ ⟨[(23, .v (.int .i64 t235)), (22, .v (.int .i64 (l.length : Int))), (21, .v (.sl 15 (l.map eApiMeasure))), (13, .v (.int .i64 best14)), (12, .v (.int .i64 kind2)), (11, .r 1011), (0, .v (.sl 15 (l.map eApiMeasure))), (1, .v (.str code)), (2, .v (.str origin)), (3, .v (.int .i64 company)), (4, .v (.int .i64 day))], [(1011, .row 34 15 (result14.map eApiMeasure))]⟩ _ _
     refine WC.seq (WC.region ?_)
     refine lr 1 rfl trivial ?_
     refine WL.nil (WQ.thenNormal (WC.seq ?_))
     refine WC.cond rfl (fun hc3 => ?_) (fun hc3 => ?_)
     ·replace h := ite_t hc3 h
      refine WC.skip (WQ.thenNormal (WC.seq ?_))
      refine WC.thenCut (X := Int × (List ApiMeasure)) (fun gG => ⟨[(13, .v (.int .i64 gG.1)), (23, .v (.int .i64 t235)), (22, .v (.int .i64 (l.length : Int))), (21, .v (.sl 15 (l.map eApiMeasure))), (12, .v (.int .i64 kind2)), (11, .r 1011), (0, .v (.sl 15 (l.map eApiMeasure))), (1, .v (.str code)), (2, .v (.str origin)), (3, .v (.int .i64 company)), (4, .v (.int .i64 day))], [(1011, .row 34 15 (gG.2.map eApiMeasure))]⟩) (fun gG => meApplicable_j4 l code origin company day kind2 t235 gG.1 gG.2 = some o2) ?_ ?_
      ·refine WC.block (WC.seq (WC.region ?_))
       refine lr 1 rfl trivial ?_
       obtain ⟨g3, h⟩ := grd h
       replace h := bnd h; obtain ⟨x9, hxx9, h⟩ := h
       refine WL.q [] rfl rfl rfl (q_idx tbOk rfl (by exact trivial) g3 (map_get (f := eApiMeasure) hxx9)) ?_
       refine lr 4 rfl trivial ?_
       refine WL.nil (WQ.thenNormal (WC.seq (WC.order mixed ?_)))
       refine wr 10 rfl (by exact sideR) ?_
       replace h := bnd h; obtain ⟨v14, hvv14, h⟩ := h
       refine WR.gcall0 fn26 rfl rfl rfl rfl rfl (fun _ => (by exact sideR)) rfl (fun hg => (meCovers_con hw (ite_t hg hvv14))) ?_
       refine wr 8 rfl (by exact sideR) ?_
       obtain ⟨g4, h⟩ := grd h
       refine WR.gq [] rfl rfl rfl rfl (fun hg => q_idx tbOk rfl (by exact sideR) (g4 hg).1 (map_getD (f := eApiMeasure) (g4 hg).2 (g4 hg).1)) ?_
       refine wr 1 rfl (by exact sideR) ?_
       replace h := bnd h; obtain ⟨v15, hvv15, h⟩ := h
       refine WR.gcall0 fn50 rfl rfl rfl rfl rfl (fun _ => (by exact sideR)) rfl (fun hg => (mePrecedes_con hw (ite_t hg hvv15))) ?_
       refine wr 2 rfl (by exact sideR) ?_
       refine WR.nil (by kernel_rfl) (WQ.thenNormal ?_)
       refine WC.cond rfl (fun hc4 => ?_) (fun hc4 => ?_)
       ·replace h := ite_t hc4 h
        refine WC.region ?_
        refine lr 2 rfl trivial ?_
        refine WL.nil (WQ.blockNormal ?_)
        exact WQ.cut [] (t235, result14) ⟨(by exact ⟨rfl, rfl, rfl, rfl, rfl, rfl, rfl, rfl, rfl, rfl, rfl, trivial⟩), (by exact ⟨rfl, trivial⟩), rfl, rfl, rfl, rfl⟩ h
       ·replace h := ite_f hc4 h
        refine WC.skip (WQ.blockNormal ?_)
        exact WQ.cut [] (best14, result14) ⟨(by exact ⟨rfl, rfl, rfl, rfl, rfl, rfl, rfl, rfl, rfl, rfl, rfl, trivial⟩), (by exact ⟨rfl, trivial⟩), rfl, rfl, rfl, rfl⟩ h
      ·rintro ⟨best18, result18⟩ h
       replace h : meApplicable_j4 l code origin company day kind2 t235 best18 result18 = some _ := h
       unfold meApplicable_j4 at h
       show WC _ _ _ ⟨[(13, .v (.int .i64 best18)), (23, .v (.int .i64 t235)), (22, .v (.int .i64 (l.length : Int))), (21, .v (.sl 15 (l.map eApiMeasure))), (12, .v (.int .i64 kind2)), (11, .r 1011), (0, .v (.sl 15 (l.map eApiMeasure))), (1, .v (.str code)), (2, .v (.str origin)), (3, .v (.int .i64 company)), (4, .v (.int .i64 day))], [(1011, .row 34 15 (result18.map eApiMeasure))]⟩ _ _
       refine WC.region ?_
       refine lr 2 rfl trivial ?_
       refine WL.nil ?_
       cases h
       exact WQ.next [] ((IntKind.i64.wrap (t235 + (1 : Int))), best18, result18) ⟨(by exact ⟨rfl, rfl, rfl, rfl, rfl, rfl, rfl, rfl, rfl, rfl, rfl, trivial⟩), (by exact ⟨rfl, trivial⟩), rfl, rfl, rfl, rfl⟩ (hn2 _ hf2)
     ·replace h := ite_f hc3 h
      refine WC.exit (WQ.thenExit ?_)
      cases h
      have he := he2 _ hf2
      subst he
      replace h := hk2
      try dsimp only at h
      refine WQ.thenExit (WQ.blockExit ?_)
      exact WQ.cut [] (best14, result14) ⟨(by exact ⟨rfl, rfl, rfl, rfl, rfl, rfl, rfl, rfl, trivial⟩), (by exact ⟨rfl, trivial⟩), rfl, rfl, rfl, rfl⟩ h
    ·rintro ⟨best13, result13⟩ h
     replace h : meApplicable_j3 l code origin company day kind2 best13 result13 = some _ := h
     unfold meApplicable_j3 at h
     show WC _ _ _ ⟨[(13, .v (.int .i64 best13)), (12, .v (.int .i64 kind2)), (11, .r 1011), (0, .v (.sl 15 (l.map eApiMeasure))), (1, .v (.str code)), (2, .v (.str origin)), (3, .v (.int .i64 company)), (4, .v (.int .i64 day))], [(1011, .row 34 15 (result13.map eApiMeasure))]⟩ _ _
     refine WC.seq (WC.region ?_)
     refine lr 2 rfl trivial ?_
     refine WL.nil (WQ.thenNormal ?_)
     refine WC.cond rfl (fun hc2 => ?_) (fun hc2 => ?_)
     ·replace h := ite_t hc2 h
      refine WC.seq (WC.region ?_)
      refine lr 2 rfl trivial ?_
      obtain ⟨g1, h⟩ := grd h
      replace h := bnd h; obtain ⟨x7, hxx7, h⟩ := h
      refine WL.q [] rfl rfl rfl (q_idx tbOk rfl (by exact trivial) g1 (map_get (f := eApiMeasure) hxx7)) ?_
      refine lr 3 rfl trivial ?_
      refine WL.nil (WQ.thenNormal (WC.seq (WC.region ?_)))
      refine lr 2 rfl trivial ?_
      replace h := bnd h; obtain ⟨v11, hvv11, h⟩ := h
      refine WL.call0 fn51 rfl rfl rfl rfl (by exact trivial) rfl (cloneS_con hw hvv11) ?_
      refine lr 2 rfl trivial ?_
      refine WL.nil (WQ.thenNormal (WC.region ?_))
      refine lr 3 rfl trivial ?_
      obtain ⟨g2, h⟩ := grd h
      refine WL.append tbOk ((result13 ++ [(⟨x7.ID, x7.Kind, x7.Prefix, v11, x7.Company, x7.From, x7.To, x7.Registered, x7.Duty⟩ : ApiMeasure)]).map eApiMeasure) [67, 1011] ap22 rfl rfl rfl rfl (fun _ e => by cases e; rfl) (by exact trivial) (map_cells (f := eApiMeasure) (xs := [(⟨x7.ID, x7.Kind, x7.Prefix, v11, x7.Company, x7.From, x7.To, x7.Registered, x7.Duty⟩ : ApiMeasure)]) fun _ => rfl) (by have := g2; simp only [List.length_map, List.length_nil, List.length_cons] at this ⊢; omega) rfl rfl (by simp only [List.map_append]; try rfl) rfl ?_
      refine lr 1 rfl trivial ?_
      refine WL.nil (WQ.blockNormal ?_)
      exact WQ.cut [(1011, 67)] (result13 ++ [(⟨x7.ID, x7.Kind, x7.Prefix, v11, x7.Company, x7.From, x7.To, x7.Registered, x7.Duty⟩ : ApiMeasure)]) ⟨(by exact ⟨rfl, rfl, rfl, rfl, rfl, rfl, rfl, trivial⟩), (by exact ⟨rfl, trivial⟩), rfl, rfl, rfl, rfl⟩ h
     ·replace h := ite_f hc2 h
      refine WC.skip (WQ.blockNormal ?_)
      exact WQ.cut [] result13 ⟨(by exact ⟨rfl, rfl, rfl, rfl, rfl, rfl, rfl, trivial⟩), (by exact ⟨rfl, trivial⟩), rfl, rfl, rfl, rfl⟩ h
   ·intro result12 h
    replace h : meApplicable_j2 l code origin company day kind2 result12 = some _ := h
    unfold meApplicable_j2 at h
    show WC _ _ _ ⟨[(11, .r 1011), (12, .v (.int .i64 kind2)), (0, .v (.sl 15 (l.map eApiMeasure))), (1, .v (.str code)), (2, .v (.str origin)), (3, .v (.int .i64 company)), (4, .v (.int .i64 day))], [(1011, .row 34 15 (result12.map eApiMeasure))]⟩ _ _
    refine WC.region ?_
    refine lr 3 rfl trivial ?_
    refine WL.nil ?_
    cases h
    exact WQ.next [] ((IntKind.i64.wrap (kind2 + (1 : Int))), result12) ⟨(by exact ⟨rfl, rfl, rfl, rfl, rfl, rfl, rfl, trivial⟩), (by exact ⟨rfl, trivial⟩), rfl, rfl, rfl, rfl⟩ (hn1 _ hf1)
  ·replace h := ite_f hc1 h
   refine WC.exit (WQ.thenExit ?_)
   cases h
   have he := he1 _ hf1
   subst he
   replace h := hk1
   try dsimp only at h
   refine WQ.thenExit (WQ.blockExit ?_)
   exact WQ.cut [] result3 ⟨(by exact ⟨rfl, trivial⟩), (by exact ⟨rfl, trivial⟩), rfl, rfl, rfl, rfl⟩ h
 ·intro result h
  replace h : meApplicable_j1 result = some _ := h
  unfold meApplicable_j1 at h
  show WC _ _ _ ⟨[(11, .r 1011)], [(1011, .row 34 15 (result.map eApiMeasure))]⟩ _ _
  refine WC.seq (WC.region ?_)
  refine lr 2 rfl trivial ?_
  refine WL.nil (WQ.thenNormal (WC.ret ?_))
  refine WQ.publish 1011 rfl rfl ?_
  cases h
  exact WQ.rets tbOk hR [] (.inl rfl) rfl rfl (Le.refl _) (by exact trivial) rfl rfl rfl rfl

theorem awake19_con {wg : World} (hw : WG wg)  {r : Bool} (h : awake19  = some r) : Con Tryz.prog wg gl 15 [] [] (.v (.bool r)) [] := by
 unfold awake19 at h
 refine con_of_WC (S := slotsOf 0 _) Tryz.func15 rfl Tryz.ntmps15 rfl (fun t x hx => (slotsOf_get hx).2) ?_
 intro F L w ρ0 R hR
 show WC _ _ _ ⟨[], []⟩ _ _
 refine WC.seq (WC.region ?_)
 refine lr 1 rfl trivial ?_
 refine WL.nil (WQ.thenNormal (WC.seq (WC.region ?_)))
 replace h := bnd h; obtain ⟨v, hvv, h⟩ := h
 refine WL.call0 fn20 rfl rfl rfl rfl (by exact trivial) rfl (meParse_con hw hvv) ?_
 refine lr 7 rfl trivial ?_
 refine WL.nil (WQ.thenNormal (WC.seq (WC.region ?_)))
 refine lr 1 rfl trivial ?_
 replace h := bnd h; obtain ⟨v2, hvv2, h⟩ := h
 refine WL.call0 fn28 rfl rfl rfl rfl (by exact trivial) rfl (meApplicable_con hw hvv2) ?_
 refine lr 1 rfl trivial ?_
 refine WL.nil (WQ.thenNormal (WC.seq (WC.region ?_)))
 refine lr 1 rfl trivial ?_
 replace h := bnd h; obtain ⟨v3, hvv3, h⟩ := h
 refine WL.call0 fn28 rfl rfl rfl rfl (by exact trivial) rfl (meApplicable_con hw hvv3) ?_
 refine lr 1 rfl trivial ?_
 refine WL.nil (WQ.thenNormal (WC.seq (WC.region ?_)))
 refine lr 1 rfl trivial ?_
 replace h := bnd h; obtain ⟨v4, hvv4, h⟩ := h
 refine WL.call0 fn28 rfl rfl rfl rfl (by exact trivial) rfl (meApplicable_con hw hvv4) ?_
 refine lr 1 rfl trivial ?_
 refine WL.nil (WQ.thenNormal (WC.seq (WC.region ?_)))
 refine lr 8 rfl (by exact sideR) ?_
 refine WL.gq [] rfl rfl rfl rfl (fun hg => q_ev tbOk (.v (.int .i64 (v2.length : Int))) rfl (by exact sideR) (by exact lenT)) ?_
 refine lr 4 rfl (by exact sideR) ?_
 obtain ⟨g1, h⟩ := grd h
 refine WL.gq [] rfl rfl rfl rfl (fun hg => q_idx tbOk rfl (by exact sideR) (g1 hg).1 (map_getD (f := eApiMeasure) (g1 hg).2 (g1 hg).1)) ?_
 refine lr 6 rfl (by exact sideR) ?_
 refine WL.gq [] rfl rfl rfl rfl (fun hg => q_ev tbOk (.v (.int .i64 (v3.length : Int))) rfl (by exact sideR) (by exact lenT)) ?_
 refine lr 4 rfl (by exact sideR) ?_
 obtain ⟨g2, h⟩ := grd h
 refine WL.gq [] rfl rfl rfl rfl (fun hg => q_idx tbOk rfl (by exact sideR) (g2 hg).1 (map_getD (f := eApiMeasure) (g2 hg).2 (g2 hg).1)) ?_
 refine lr 6 rfl (by exact sideR) ?_
 refine WL.gq [] rfl rfl rfl rfl (fun hg => q_ev tbOk (.v (.int .i64 (v4.length : Int))) rfl (by exact sideR) (by exact lenT)) ?_
 refine lr 4 rfl (by exact sideR) ?_
 obtain ⟨g3, h⟩ := grd h
 refine WL.gq [] rfl rfl rfl rfl (fun hg => q_idx tbOk rfl (by exact sideR) (g3 hg).1 (map_getD (f := eApiMeasure) (g3 hg).2 (g3 hg).1)) ?_
 refine lr 5 rfl (by exact sideR) ?_
 refine WL.nil (WQ.thenNormal (WC.ret ?_))
 cases h
 exact WQ.rets tbOk hR [] (.inl rfl) rfl rfl (Le.refl _) (by exact trivial) rfl rfl rfl rfl

end Go.Proofs.YtbilobjddflpeaaGreatDoor
