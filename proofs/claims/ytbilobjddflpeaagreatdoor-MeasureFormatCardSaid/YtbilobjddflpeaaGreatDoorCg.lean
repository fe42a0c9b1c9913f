/- Contracts: the program's functions compute the plain ones; by program (gen.py). -/
import Derived.Test.YtbilobjddflpeaaGreatDoorLib
import Derived.Test.YtbilobjddflpeaaGreatDoorPg
set_option linter.unusedVariables false
set_option linter.unusedSimpArgs false
set_option maxHeartbeats 4000000
set_option maxRecDepth 20000
namespace Go.Proofs.YtbilobjddflpeaaGreatDoor
open Go.V Go.C

theorem refPrefix_con {wg : World} (hw : WG wg) {code : Str} {p : Str} {r : Bool} (h : refPrefix code p = some r) : Con Tryz.prog wg gl 48 [.v (.str code), .v (.str p)] [] (.v (.bool r)) [] := by
 unfold refPrefix at h
 refine con_of_WC (S := slotsOf 0 _) Tryz.func48 rfl Tryz.ntmps48 rfl (fun t x hx => (slotsOf_get hx).2) ?_
 intro F L w ρ0 R hR
 show WC _ _ _ ⟨[(0, .v (.str code)), (1, .v (.str p))], []⟩ _ _
 refine WC.seq (WC.region ?_)
 refine lr 1 rfl trivial ?_
 refine WL.nil (WQ.thenNormal (WC.seq (WC.region ?_)))
 obtain ⟨g1, h⟩ := grd h
 refine lr 14 rfl (by repeat' (first | exact trivial | assumption | intro _ | exact g1 (by assumption) | apply And.intro | exact sideT | (refine and_i ?_ ?_))) ?_
 refine WL.nil (WQ.thenNormal (WC.ret ?_))
 cases h
 exact WQ.rets tbOk hR [] (.inl rfl) rfl rfl (Le.refl _) (by exact trivial) rfl rfl rfl rfl

theorem refHas_con {wg : World} (hw : WG wg) {l : (List Str)} {s : Str} {r : Bool} (h : refHas l s = some r) : Con Tryz.prog wg gl 49 [.v (.sl 1 (l.map eStr)), .v (.str s)] [] (.v (.bool r)) [] := by
 unfold refHas at h
 refine con_of_WC (S := slotsOf 0 _) Tryz.func49 rfl Tryz.ntmps49 rfl (fun t x hx => (slotsOf_get hx).2) ?_
 intro F L w ρ0 R hR
 show WC _ _ _ ⟨[(0, .v (.sl 1 (l.map eStr))), (1, .v (.str s))], []⟩ _ _
 refine WC.seq (WC.region ?_)
 refine lr 1 rfl trivial ?_
 refine WL.nil (WQ.thenNormal (WC.seq (WC.seq (WC.region ?_))))
 refine lr 1 rfl trivial ?_
 refine WL.nil (WQ.thenNormal ?_)
 refine WC.thenCut (X := Unit) (fun gG => ⟨[], []⟩) (fun gG => refHas_j1  = some r) ?_ ?_
 ·refine WC.block ?_
  obtain ⟨eQ1, hl1, hk1⟩ := bnd h
  clear h
  refine WC.loop (σ := Int) (τ := ((Bool) ⊕ (Unit))) (fun sS => ⟨[(5, .v (.int .i64 sS)), (0, .v (.sl 1 (l.map eStr))), (1, .v (.str s))], []⟩) (refHas_b1 l s) [] (0 : Int) hl1 ⟨(by exact ⟨rfl, rfl, rfl, trivial⟩), (by exact trivial), rfl, rfl, rfl, rfl⟩ ?_
  intro i m hn1 he1 hx1
  obtain ⟨o1, hf1⟩ := some_of hx1
  have h := hf1
  unfold refHas_b1 at h
  show WC _ _ _ ⟨[(5, .v (.int .i64 i)), (0, .v (.sl 1 (l.map eStr))), (1, .v (.str s))], []⟩ _ _
  refine WC.seq (WC.seq (WC.region ?_))
  refine lr 2 rfl trivial ?_
  refine WL.q [] rfl rfl rfl (q_ev tbOk (.v (.int .i64 (l.length : Int))) rfl (by exact trivial) (by exact lenT)) ?_
  refine lr 1 rfl trivial ?_
  refine WL.nil (WQ.thenNormal ?_)
  refine WC.cond rfl (fun hc1 => ?_) (fun hc1 => ?_)
  ·replace h := ite_t hc1 h
   refine WC.skip (WQ.thenNormal (WC.seq (WC.block (WC.seq (WC.region ?_)))))
   refine lr 2 rfl trivial ?_
   obtain ⟨g1, h⟩ := grd h
   replace h := bnd h; obtain ⟨x2, hxx2, h⟩ := h
   refine WL.q [] rfl rfl rfl (q_idx tbOk rfl (by exact trivial) g1 (map_get (f := eStr) hxx2)) ?_
   refine lr 3 rfl trivial ?_
   refine WL.nil (WQ.thenNormal ?_)
   refine WC.cond rfl (fun hc2 => ?_) (fun hc2 => ?_)
   ·replace h := ite_t hc2 h
    refine WC.seq (WC.region ?_)
    refine lr 1 rfl trivial ?_
    refine WL.nil (WQ.thenNormal (WC.ret (WQ.blockRet (WQ.thenRet ?_))))
    cases h
    have he := he1 _ hf1
    subst he
    have h : some true = some _ := hk1
    refine WQ.thenRet (WQ.blockRet (WQ.thenRet ?_))
    cases h
    exact WQ.rets tbOk hR [] (.inl rfl) rfl rfl (Le.refl _) (by exact trivial) rfl rfl rfl rfl
   ·replace h := ite_f hc2 h
    refine WC.skip (WQ.blockNormal (WQ.thenNormal (WC.region ?_)))
    refine lr 3 rfl trivial ?_
    refine WL.nil ?_
    cases h
    exact WQ.next [] (IntKind.i64.wrap (i + (1 : Int))) ⟨(by exact ⟨rfl, rfl, rfl, trivial⟩), (by exact trivial), rfl, rfl, rfl, rfl⟩ (hn1 _ hf1)
  ·replace h := ite_f hc1 h
   refine WC.exit (WQ.thenExit ?_)
   cases h
   have he := he1 _ hf1
   subst he
   replace h := hk1
   try dsimp only at h
   refine WQ.thenExit (WQ.blockExit ?_)
   exact WQ.cut [] () ⟨(by exact trivial), (by exact trivial), rfl, rfl, rfl, rfl⟩ h
 ·intro _ h
  replace h : refHas_j1 = some _ := h
  unfold refHas_j1 at h
  show WC _ _ _ ⟨[], []⟩ _ _
  refine WC.seq (WC.region ?_)
  refine lr 1 rfl trivial ?_
  refine WL.nil (WQ.thenNormal (WC.ret ?_))
  cases h
  exact WQ.rets tbOk hR [] (.inl rfl) rfl rfl (Le.refl _) (by exact trivial) rfl rfl rfl rfl

theorem sameStrings_con {wg : World} (hw : WG wg) {a : (List Str)} {b : (List Str)} {r : Bool} (h : sameStrings a b = some r) : Con Tryz.prog wg gl 45 [.v (.sl 1 (a.map eStr)), .v (.sl 1 (b.map eStr))] [] (.v (.bool r)) [] := by
 unfold sameStrings at h
 refine con_of_WC (S := slotsOf 0 _) Tryz.func45 rfl Tryz.ntmps45 rfl (fun t x hx => (slotsOf_get hx).2) ?_
 intro F L w ρ0 R hR
 show WC _ _ _ ⟨[(0, .v (.sl 1 (a.map eStr))), (1, .v (.sl 1 (b.map eStr)))], []⟩ _ _
 refine WC.seq (WC.region ?_)
 refine lr 1 rfl trivial ?_
 refine WL.nil (WQ.thenNormal (WC.seq (WC.seq (WC.region ?_))))
 refine lr 1 rfl trivial ?_
 refine WL.q [] rfl rfl rfl (q_ev tbOk (.v (.int .i64 (a.length : Int))) rfl (by exact trivial) (by exact lenT)) ?_
 refine lr 1 rfl trivial ?_
 refine WL.q [] rfl rfl rfl (q_ev tbOk (.v (.int .i64 (b.length : Int))) rfl (by exact trivial) (by exact lenT)) ?_
 refine lr 1 rfl trivial ?_
 refine WL.nil (WQ.thenNormal ?_)
 refine WC.cond rfl (fun hc1 => ?_) (fun hc1 => ?_)
 ·replace h := ite_t hc1 h
  refine WC.seq (WC.region ?_)
  refine lr 1 rfl trivial ?_
  refine WL.nil (WQ.thenNormal (WC.ret (WQ.thenRet ?_)))
  cases h
  exact WQ.rets tbOk hR [] (.inl rfl) rfl rfl (Le.refl _) (by exact trivial) rfl rfl rfl rfl
 ·replace h := ite_f hc1 h
  refine WC.skip (WQ.thenNormal (WC.seq (WC.seq (WC.region ?_))))
  refine lr 1 rfl trivial ?_
  refine WL.nil (WQ.thenNormal ?_)
  refine WC.thenCut (X := Unit) (fun gG => ⟨[], []⟩) (fun gG => sameStrings_j1  = some r) ?_ ?_
  ·refine WC.block ?_
   obtain ⟨eQ1, hl1, hk1⟩ := bnd h
   clear h
   refine WC.loop (σ := Int) (τ := ((Bool) ⊕ (Unit))) (fun sS => ⟨[(5, .v (.int .i64 sS)), (0, .v (.sl 1 (a.map eStr))), (1, .v (.sl 1 (b.map eStr)))], []⟩) (sameStrings_b1 a b) [] (0 : Int) hl1 ⟨(by exact ⟨rfl, rfl, rfl, trivial⟩), (by exact trivial), rfl, rfl, rfl, rfl⟩ ?_
   intro i m hn1 he1 hx1
   obtain ⟨o1, hf1⟩ := some_of hx1
   have h := hf1
   unfold sameStrings_b1 at h
   show WC _ _ _ ⟨[(5, .v (.int .i64 i)), (0, .v (.sl 1 (a.map eStr))), (1, .v (.sl 1 (b.map eStr)))], []⟩ _ _
   refine WC.seq (WC.seq (WC.region ?_))
   refine lr 2 rfl trivial ?_
   refine WL.q [] rfl rfl rfl (q_ev tbOk (.v (.int .i64 (a.length : Int))) rfl (by exact trivial) (by exact lenT)) ?_
   refine lr 1 rfl trivial ?_
   refine WL.nil (WQ.thenNormal ?_)
   refine WC.cond rfl (fun hc2 => ?_) (fun hc2 => ?_)
   ·replace h := ite_t hc2 h
    refine WC.skip (WQ.thenNormal (WC.seq (WC.block (WC.seq (WC.order mixed ?_)))))
    refine wr 2 rfl trivial ?_
    obtain ⟨g1, h⟩ := grd h
    replace h := bnd h; obtain ⟨x3, hxx3, h⟩ := h
    refine WR.q [] rfl rfl rfl (q_idx tbOk rfl (by exact trivial) g1 (map_get (f := eStr) hxx3)) ?_
    refine wr 3 rfl trivial ?_
    obtain ⟨g2, h⟩ := grd h
    replace h := bnd h; obtain ⟨x4, hxx4, h⟩ := h
    refine WR.q [] rfl rfl rfl (q_idx tbOk rfl (by exact trivial) g2 (map_get (f := eStr) hxx4)) ?_
    refine wr 2 rfl trivial ?_
    refine WR.nil (by kernel_rfl) (WQ.thenNormal ?_)
    refine WC.cond rfl (fun hc3 => ?_) (fun hc3 => ?_)
    ·replace h := ite_t hc3 h
     refine WC.seq (WC.region ?_)
     refine lr 1 rfl trivial ?_
     refine WL.nil (WQ.thenNormal (WC.ret (WQ.blockRet (WQ.thenRet ?_))))
     cases h
     have he := he1 _ hf1
     subst he
     have h : some false = some _ := hk1
     refine WQ.thenRet (WQ.blockRet (WQ.thenRet ?_))
     cases h
     exact WQ.rets tbOk hR [] (.inl rfl) rfl rfl (Le.refl _) (by exact trivial) rfl rfl rfl rfl
    ·replace h := ite_f hc3 h
     refine WC.skip (WQ.blockNormal (WQ.thenNormal (WC.region ?_)))
     refine lr 3 rfl trivial ?_
     refine WL.nil ?_
     cases h
     exact WQ.next [] (IntKind.i64.wrap (i + (1 : Int))) ⟨(by exact ⟨rfl, rfl, rfl, trivial⟩), (by exact trivial), rfl, rfl, rfl, rfl⟩ (hn1 _ hf1)
   ·replace h := ite_f hc2 h
    refine WC.exit (WQ.thenExit ?_)
    cases h
    have he := he1 _ hf1
    subst he
    replace h := hk1
    try dsimp only at h
    refine WQ.thenExit (WQ.blockExit ?_)
    exact WQ.cut [] () ⟨(by exact trivial), (by exact trivial), rfl, rfl, rfl, rfl⟩ h
  ·intro _ h
   replace h : sameStrings_j1 = some _ := h
   unfold sameStrings_j1 at h
   show WC _ _ _ ⟨[], []⟩ _ _
   refine WC.seq (WC.region ?_)
   refine lr 1 rfl trivial ?_
   refine WL.nil (WQ.thenNormal (WC.ret ?_))
   cases h
   exact WQ.rets tbOk hR [] (.inl rfl) rfl rfl (Le.refl _) (by exact trivial) rfl rfl rfl rfl

theorem refInForce_con {wg : World} (hw : WG wg) {m1 : ApiMeasure} {day : Int} {r : Bool} (h : refInForce m1 day = some r) : Con Tryz.prog wg gl 25 [.v (.agg [.int .i64 m1.ID, .int .i64 m1.Kind, .str m1.Prefix, .sl 1 (m1.Origins.map eStr), .int .i64 m1.Company, .int .i64 m1.From, .int .i64 m1.To, .int .i64 m1.Registered, .int .i64 m1.Duty.Rate, .int .i64 m1.Duty.Amount, .int .i64 m1.Duty.Per, .bool m1.Duty.HasMost, .int .i64 m1.Duty.Most, .bool m1.Duty.HasLeast, .int .i64 m1.Duty.Least]), .v (.int .i64 day)] [] (.v (.bool r)) [] := by
 unfold refInForce at h
 refine con_of_WC (S := slotsOf 0 _) Tryz.func25 rfl Tryz.ntmps25 rfl (fun t x hx => (slotsOf_get hx).2) ?_
 intro F L w ρ0 R hR
 show WC _ _ _ ⟨[(0, .v (.agg [.int .i64 m1.ID, .int .i64 m1.Kind, .str m1.Prefix, .sl 1 (m1.Origins.map eStr), .int .i64 m1.Company, .int .i64 m1.From, .int .i64 m1.To, .int .i64 m1.Registered, .int .i64 m1.Duty.Rate, .int .i64 m1.Duty.Amount, .int .i64 m1.Duty.Per, .bool m1.Duty.HasMost, .int .i64 m1.Duty.Most, .bool m1.Duty.HasLeast, .int .i64 m1.Duty.Least])), (1, .v (.int .i64 day))], []⟩ _ _
 refine WC.seq (WC.region ?_)
 refine lr 2 rfl trivial ?_
 refine WL.nil (WQ.thenNormal (WC.seq (WC.region ?_)))
 refine lr 28 rfl (by exact sideR) ?_
 refine WL.nil (WQ.thenNormal (WC.ret ?_))
 cases h
 exact WQ.rets tbOk hR [] (.inl rfl) rfl rfl (Le.refl _) (by exact trivial) rfl rfl rfl rfl

theorem refCovers_con {wg : World} (hw : WG wg) {m1 : ApiMeasure} {code : Str} {origin : Str} {company : Int} {day : Int} {r : Bool} (h : refCovers m1 code origin company day = some r) : Con Tryz.prog wg gl 27 [.v (.agg [.int .i64 m1.ID, .int .i64 m1.Kind, .str m1.Prefix, .sl 1 (m1.Origins.map eStr), .int .i64 m1.Company, .int .i64 m1.From, .int .i64 m1.To, .int .i64 m1.Registered, .int .i64 m1.Duty.Rate, .int .i64 m1.Duty.Amount, .int .i64 m1.Duty.Per, .bool m1.Duty.HasMost, .int .i64 m1.Duty.Most, .bool m1.Duty.HasLeast, .int .i64 m1.Duty.Least]), .v (.str code), .v (.str origin), .v (.int .i64 company), .v (.int .i64 day)] [] (.v (.bool r)) [] := by
 unfold refCovers at h
 refine con_of_WC (S := slotsOf 0 _) Tryz.func27 rfl Tryz.ntmps27 rfl (fun t x hx => (slotsOf_get hx).2) ?_
 intro F L w ρ0 R hR
 show WC _ _ _ ⟨[(0, .v (.agg [.int .i64 m1.ID, .int .i64 m1.Kind, .str m1.Prefix, .sl 1 (m1.Origins.map eStr), .int .i64 m1.Company, .int .i64 m1.From, .int .i64 m1.To, .int .i64 m1.Registered, .int .i64 m1.Duty.Rate, .int .i64 m1.Duty.Amount, .int .i64 m1.Duty.Per, .bool m1.Duty.HasMost, .int .i64 m1.Duty.Most, .bool m1.Duty.HasLeast, .int .i64 m1.Duty.Least])), (1, .v (.str code)), (2, .v (.str origin)), (3, .v (.int .i64 company)), (4, .v (.int .i64 day))], []⟩ _ _
 refine WC.seq (WC.region ?_)
 refine lr 2 rfl trivial ?_
 refine WL.nil (WQ.thenNormal (WC.seq (WC.region ?_)))
 refine lr 2 rfl trivial ?_
 replace h := bnd h; obtain ⟨v, hvv, h⟩ := h
 refine WL.call0 fn25 rfl rfl rfl rfl (by exact trivial) rfl (refInForce_con hw hvv) ?_
 refine lr 4 rfl (by exact sideR) ?_
 replace h := bnd h; obtain ⟨v2, hvv2, h⟩ := h
 refine WL.gcall0 fn48 rfl rfl rfl rfl rfl (fun _ => (by exact sideR)) rfl (fun hg => (refPrefix_con hw (ite_t hg hvv2))) ?_
 refine lr 4 rfl (by exact sideR) ?_
 refine WL.gq [] rfl rfl rfl rfl (fun hg => q_ev tbOk (.v (.int .i64 (m1.Origins.length : Int))) rfl (by exact sideR) (by exact lenT)) ?_
 refine lr 5 rfl (by exact sideR) ?_
 replace h := bnd h; obtain ⟨v3, hvv3, h⟩ := h
 refine WL.gcall0 fn49 rfl rfl rfl rfl rfl (fun _ => (by exact sideR)) rfl (fun hg => (refHas_con hw (ite_t hg hvv3))) ?_
 refine lr 14 rfl (by exact sideR) ?_
 refine WL.nil (WQ.thenNormal (WC.ret ?_))
 cases h
 exact WQ.rets tbOk hR [] (.inl rfl) rfl rfl (Le.refl _) (by exact trivial) rfl rfl rfl rfl

theorem refRank_con {wg : World} (hw : WG wg) {m1 : ApiMeasure} {r : Int} (h : refRank m1 = some r) : Con Tryz.prog wg gl 73 [.v (.agg [.int .i64 m1.ID, .int .i64 m1.Kind, .str m1.Prefix, .sl 1 (m1.Origins.map eStr), .int .i64 m1.Company, .int .i64 m1.From, .int .i64 m1.To, .int .i64 m1.Registered, .int .i64 m1.Duty.Rate, .int .i64 m1.Duty.Amount, .int .i64 m1.Duty.Per, .bool m1.Duty.HasMost, .int .i64 m1.Duty.Most, .bool m1.Duty.HasLeast, .int .i64 m1.Duty.Least])] [] (.v (.int .i64 r)) [] := by
 unfold refRank at h
 refine con_of_WC (S := slotsOf 0 _) Tryz.func73 rfl Tryz.ntmps73 rfl (fun t x hx => (slotsOf_get hx).2) ?_
 intro F L w ρ0 R hR
 show WC _ _ _ ⟨[(0, .v (.agg [.int .i64 m1.ID, .int .i64 m1.Kind, .str m1.Prefix, .sl 1 (m1.Origins.map eStr), .int .i64 m1.Company, .int .i64 m1.From, .int .i64 m1.To, .int .i64 m1.Registered, .int .i64 m1.Duty.Rate, .int .i64 m1.Duty.Amount, .int .i64 m1.Duty.Per, .bool m1.Duty.HasMost, .int .i64 m1.Duty.Most, .bool m1.Duty.HasLeast, .int .i64 m1.Duty.Least]))], []⟩ _ _
 refine WC.seq (WC.region ?_)
 refine lr 2 rfl trivial ?_
 refine WL.nil (WQ.thenNormal (WC.seq (WC.region ?_)))
 refine lr 1 rfl trivial ?_
 refine WL.nil (WQ.thenNormal (WC.seq (WC.seq (WC.region ?_))))
 refine lr 2 rfl trivial ?_
 refine WL.q [] rfl rfl rfl (q_ev tbOk (.v (.int .i64 (m1.Origins.length : Int))) rfl (by exact trivial) (by exact lenT)) ?_
 refine lr 1 rfl trivial ?_
 refine WL.nil (WQ.thenNormal ?_)
 refine WC.thenCut (X := Int) (fun gG => ⟨[(3, .v (.int .i64 gG)), (1, .p 1 0)], [(1, .blk 34 [.v (.int .i64 m1.ID), .v (.int .i64 m1.Kind), .v (.str m1.Prefix), .v (.sl 1 (m1.Origins.map eStr)), .v (.int .i64 m1.Company), .v (.int .i64 m1.From), .v (.int .i64 m1.To), .v (.int .i64 m1.Registered), .v (.int .i64 m1.Duty.Rate), .v (.int .i64 m1.Duty.Amount), .v (.int .i64 m1.Duty.Per), .v (.bool m1.Duty.HasMost), .v (.int .i64 m1.Duty.Most), .v (.bool m1.Duty.HasLeast), .v (.int .i64 m1.Duty.Least)])]⟩) (fun gG => refRank_j1 m1 gG = some r) ?_ ?_
 ·refine WC.cond rfl (fun hc2 => ?_) (fun hc2 => ?_)
  ·replace h := ite_t hc2 h
   refine WC.region ?_
   refine lr 2 rfl trivial ?_
   refine WL.q [] rfl rfl rfl (q_ev tbOk (.v (.int .i64 (m1.Origins.length : Int))) rfl (by exact trivial) (by exact lenT)) ?_
   refine lr 1 rfl trivial ?_
   refine WL.nil ?_
   exact WQ.cut [] (m1.Origins.length : Int) ⟨(by exact ⟨rfl, rfl, trivial⟩), (by exact ⟨rfl, trivial⟩), rfl, rfl, rfl, rfl⟩ h
  ·replace h := ite_f hc2 h
   refine WC.skip ?_
   exact WQ.cut [] (21 : Int) ⟨(by exact ⟨rfl, rfl, trivial⟩), (by exact ⟨rfl, trivial⟩), rfl, rfl, rfl, rfl⟩ h
 ·intro n1 h
  replace h : refRank_j1 m1 n1 = some _ := h
  unfold refRank_j1 at h
  show WC _ _ _ ⟨[(3, .v (.int .i64 n1)), (1, .p 1 0)], [(1, .blk 34 [.v (.int .i64 m1.ID), .v (.int .i64 m1.Kind), .v (.str m1.Prefix), .v (.sl 1 (m1.Origins.map eStr)), .v (.int .i64 m1.Company), .v (.int .i64 m1.From), .v (.int .i64 m1.To), .v (.int .i64 m1.Registered), .v (.int .i64 m1.Duty.Rate), .v (.int .i64 m1.Duty.Amount), .v (.int .i64 m1.Duty.Per), .v (.bool m1.Duty.HasMost), .v (.int .i64 m1.Duty.Most), .v (.bool m1.Duty.HasLeast), .v (.int .i64 m1.Duty.Least)])]⟩ _ _
  refine WC.seq (WC.region ?_)
  refine lr 1 rfl trivial ?_
  refine WL.nil (WQ.thenNormal (WC.seq (WC.seq (WC.region ?_))))
  refine lr 3 rfl trivial ?_
  refine WL.nil (WQ.thenNormal ?_)
  refine WC.thenCut (X := Int) (fun gG => ⟨[(4, .v (.int .i64 gG)), (3, .v (.int .i64 n1)), (1, .p 1 0)], [(1, .blk 34 [.v (.int .i64 m1.ID), .v (.int .i64 m1.Kind), .v (.str m1.Prefix), .v (.sl 1 (m1.Origins.map eStr)), .v (.int .i64 m1.Company), .v (.int .i64 m1.From), .v (.int .i64 m1.To), .v (.int .i64 m1.Registered), .v (.int .i64 m1.Duty.Rate), .v (.int .i64 m1.Duty.Amount), .v (.int .i64 m1.Duty.Per), .v (.bool m1.Duty.HasMost), .v (.int .i64 m1.Duty.Most), .v (.bool m1.Duty.HasLeast), .v (.int .i64 m1.Duty.Least)])]⟩) (fun gG => refRank_j2 m1 n1 gG = some r) ?_ ?_
  ·refine WC.cond rfl (fun hc1 => ?_) (fun hc1 => ?_)
   ·replace h := ite_t hc1 h
    refine WC.region ?_
    refine lr 1 rfl trivial ?_
    refine WL.nil ?_
    exact WQ.cut [] (1 : Int) ⟨(by exact ⟨rfl, rfl, rfl, trivial⟩), (by exact ⟨rfl, trivial⟩), rfl, rfl, rfl, rfl⟩ h
   ·replace h := ite_f hc1 h
    refine WC.skip ?_
    exact WQ.cut [] (0 : Int) ⟨(by exact ⟨rfl, rfl, rfl, trivial⟩), (by exact ⟨rfl, trivial⟩), rfl, rfl, rfl, rfl⟩ h
  ·intro some1 h
   replace h : refRank_j2 m1 n1 some1 = some _ := h
   unfold refRank_j2 at h
   show WC _ _ _ ⟨[(4, .v (.int .i64 some1)), (3, .v (.int .i64 n1)), (1, .p 1 0)], [(1, .blk 34 [.v (.int .i64 m1.ID), .v (.int .i64 m1.Kind), .v (.str m1.Prefix), .v (.sl 1 (m1.Origins.map eStr)), .v (.int .i64 m1.Company), .v (.int .i64 m1.From), .v (.int .i64 m1.To), .v (.int .i64 m1.Registered), .v (.int .i64 m1.Duty.Rate), .v (.int .i64 m1.Duty.Amount), .v (.int .i64 m1.Duty.Per), .v (.bool m1.Duty.HasMost), .v (.int .i64 m1.Duty.Most), .v (.bool m1.Duty.HasLeast), .v (.int .i64 m1.Duty.Least)])]⟩ _ _
   refine WC.seq (WC.region ?_)
   refine lr 15 rfl trivial ?_
   refine WL.nil (WQ.thenNormal (WC.ret ?_))
   cases h
   exact WQ.rets tbOk hR [] (.inl rfl) rfl rfl (Le.refl _) (by exact trivial) rfl rfl rfl rfl

theorem refOf_con {wg : World} (hw : WG wg) {l : (List ApiMeasure)} {kind : Int} {code : Str} {origin : Str} {company : Int} {day : Int} {r : ApiMeasure × Bool} (h : refOf l kind code origin company day = some r) : Con Tryz.prog wg gl 52 [.v (.sl 15 (l.map eApiMeasure)), .v (.int .i64 kind), .v (.str code), .v (.str origin), .v (.int .i64 company), .v (.int .i64 day)] [] (.tup [.v (.agg [.int .i64 r.1.ID, .int .i64 r.1.Kind, .str r.1.Prefix, .sl 1 (r.1.Origins.map eStr), .int .i64 r.1.Company, .int .i64 r.1.From, .int .i64 r.1.To, .int .i64 r.1.Registered, .int .i64 r.1.Duty.Rate, .int .i64 r.1.Duty.Amount, .int .i64 r.1.Duty.Per, .bool r.1.Duty.HasMost, .int .i64 r.1.Duty.Most, .bool r.1.Duty.HasLeast, .int .i64 r.1.Duty.Least]), .v (.bool r.2)]) [] := by
 unfold refOf at h
 refine con_of_WC (S := slotsOf 0 _) Tryz.func52 rfl Tryz.ntmps52 rfl (fun t x hx => (slotsOf_get hx).2) ?_
 intro F L w ρ0 R hR
 show WC _ _ _ ⟨[(0, .v (.sl 15 (l.map eApiMeasure))), (1, .v (.int .i64 kind)), (2, .v (.str code)), (3, .v (.str origin)), (4, .v (.int .i64 company)), (5, .v (.int .i64 day))], []⟩ _ _
 refine WC.seq (WC.region ?_)
 refine lr 2 rfl trivial ?_
 refine WL.nil (WQ.thenNormal (WC.seq (WC.region ?_)))
 refine lr 1 rfl trivial ?_
 refine WL.nil (WQ.thenNormal (WC.seq (WC.seq (WC.region ?_))))
 refine lr 1 rfl trivial ?_
 refine WL.nil (WQ.thenNormal ?_)
 refine WC.thenCut (X := Int) (fun gG => ⟨[(14, .v (.int .i64 gG)), (12, .p 12 0), (0, .v (.sl 15 (l.map eApiMeasure)))], [(12, .blk 34 [.v (.int .i64 0), .v (.int .i64 0), .v (.str []), .v (.raw (.slice none 0 0)), .v (.int .i64 0), .v (.int .i64 0), .v (.int .i64 0), .v (.int .i64 0), .v (.int .i64 0), .v (.int .i64 0), .v (.int .i64 0), .v (.bool false), .v (.int .i64 0), .v (.bool false), .v (.int .i64 0)])]⟩) (fun gG => refOf_j1 l gG = some r) ?_ ?_
 ·refine WC.block ?_
  obtain ⟨eQ1, hl1, hk1⟩ := bnd h
  clear h
  refine WC.loop (σ := Int × Int) (τ := (Int)) (fun sS => ⟨[(15, .v (.int .i64 sS.1)), (14, .v (.int .i64 sS.2)), (12, .p 12 0), (0, .v (.sl 15 (l.map eApiMeasure))), (1, .v (.int .i64 kind)), (2, .v (.str code)), (3, .v (.str origin)), (4, .v (.int .i64 company)), (5, .v (.int .i64 day))], [(12, .blk 34 [.v (.int .i64 0), .v (.int .i64 0), .v (.str []), .v (.raw (.slice none 0 0)), .v (.int .i64 0), .v (.int .i64 0), .v (.int .i64 0), .v (.int .i64 0), .v (.int .i64 0), .v (.int .i64 0), .v (.int .i64 0), .v (.bool false), .v (.int .i64 0), .v (.bool false), .v (.int .i64 0)])]⟩) (refOf_b1 l kind code origin company day) [] ((0 : Int), (-1 : Int)) hl1 ⟨(by exact ⟨rfl, rfl, rfl, rfl, rfl, rfl, rfl, rfl, rfl, trivial⟩), (by exact ⟨rfl, trivial⟩), rfl, rfl, rfl, rfl⟩ ?_
  rintro ⟨i, best2⟩ m hn1 he1 hx1
  obtain ⟨o1, hf1⟩ := some_of hx1
  have h := hf1
  unfold refOf_b1 at h
  show WC _ _ _ ⟨[(15, .v (.int .i64 i)), (14, .v (.int .i64 best2)), (12, .p 12 0), (0, .v (.sl 15 (l.map eApiMeasure))), (1, .v (.int .i64 kind)), (2, .v (.str code)), (3, .v (.str origin)), (4, .v (.int .i64 company)), (5, .v (.int .i64 day))], [(12, .blk 34 [.v (.int .i64 0), .v (.int .i64 0), .v (.str []), .v (.raw (.slice none 0 0)), .v (.int .i64 0), .v (.int .i64 0), .v (.int .i64 0), .v (.int .i64 0), .v (.int .i64 0), .v (.int .i64 0), .v (.int .i64 0), .v (.bool false), .v (.int .i64 0), .v (.bool false), .v (.int .i64 0)])]⟩ _ _
  refine WC.seq (WC.seq (WC.region ?_))
  refine lr 2 rfl trivial ?_
  refine WL.q [] rfl rfl rfl (q_ev tbOk (.v (.int .i64 (l.length : Int))) rfl (by exact trivial) (by exact lenT)) ?_
  refine lr 1 rfl trivial ?_
  refine WL.nil (WQ.thenNormal ?_)
  refine WC.cond rfl (fun hc2 => ?_) (fun hc2 => ?_)
  ·replace h := ite_t hc2 h
   refine WC.skip (WQ.thenNormal (WC.seq ?_))
   refine WC.thenCut (X := Int) (fun gG => ⟨[(14, .v (.int .i64 gG)), (15, .v (.int .i64 i)), (12, .p 12 0), (0, .v (.sl 15 (l.map eApiMeasure))), (1, .v (.int .i64 kind)), (2, .v (.str code)), (3, .v (.str origin)), (4, .v (.int .i64 company)), (5, .v (.int .i64 day))], [(12, .blk 34 [.v (.int .i64 0), .v (.int .i64 0), .v (.str []), .v (.raw (.slice none 0 0)), .v (.int .i64 0), .v (.int .i64 0), .v (.int .i64 0), .v (.int .i64 0), .v (.int .i64 0), .v (.int .i64 0), .v (.int .i64 0), .v (.bool false), .v (.int .i64 0), .v (.bool false), .v (.int .i64 0)])]⟩) (fun gG => refOf_j2 l kind code origin company day i gG = some o1) ?_ ?_
   ·refine WC.block (WC.seq (WC.order mixed ?_))
    refine wr 2 rfl trivial ?_
    obtain ⟨g2, h⟩ := grd h
    replace h := bnd h; obtain ⟨x3, hxx3, h⟩ := h
    refine WR.q [] rfl rfl rfl (q_idx tbOk rfl (by exact trivial) g2 (map_get (f := eApiMeasure) hxx3)) ?_
    refine wr 7 rfl (by exact sideR) ?_
    obtain ⟨g3, h⟩ := grd h
    refine WR.gq [] rfl rfl rfl rfl (fun hg => q_idx tbOk rfl (by exact sideR) (g3 hg).1 (map_getD (f := eApiMeasure) (g3 hg).2 (g3 hg).1)) ?_
    refine wr 5 rfl (by exact sideR) ?_
    replace h := bnd h; obtain ⟨v4, hvv4, h⟩ := h
    refine WR.gcall0 fn27 rfl rfl rfl rfl rfl (fun _ => (by exact sideR)) rfl (fun hg => (refCovers_con hw (ite_t hg hvv4))) ?_
    refine wr 7 rfl (by exact sideR) ?_
    obtain ⟨g4, h⟩ := grd h
    refine WR.gq [] rfl rfl rfl rfl (fun hg => q_idx tbOk rfl (by exact sideR) (g4 hg).1 (map_getD (f := eApiMeasure) (g4 hg).2 (g4 hg).1)) ?_
    refine wr 1 rfl (by exact sideR) ?_
    replace h := bnd h; obtain ⟨v5, hvv5, h⟩ := h
    refine WR.gcall0 fn73 rfl rfl rfl rfl rfl (fun _ => (by exact sideR)) rfl (fun hg => (refRank_con hw (ite_t hg hvv5))) ?_
    refine wr 2 rfl (by exact sideR) ?_
    obtain ⟨g5, h⟩ := grd h
    refine WR.gq [] rfl rfl rfl rfl (fun hg => q_idx tbOk rfl (by exact sideR) (g5 hg).1 (map_getD (f := eApiMeasure) (g5 hg).2 (g5 hg).1)) ?_
    refine wr 1 rfl (by exact sideR) ?_
    replace h := bnd h; obtain ⟨v6, hvv6, h⟩ := h
    refine WR.gcall0 fn73 rfl rfl rfl rfl rfl (fun _ => (by exact sideR)) rfl (fun hg => (refRank_con hw (ite_t hg hvv6))) ?_
    refine wr 3 rfl (by exact sideR) ?_
    refine WR.nil (by kernel_rfl) (WQ.thenNormal ?_)
    refine WC.cond rfl (fun hc3 => ?_) (fun hc3 => ?_)
    ·replace h := ite_t hc3 h
     refine WC.region ?_
     refine lr 2 rfl trivial ?_
     refine WL.nil (WQ.blockNormal ?_)
     exact WQ.cut [] i ⟨(by exact ⟨rfl, rfl, rfl, rfl, rfl, rfl, rfl, rfl, rfl, trivial⟩), (by exact ⟨rfl, trivial⟩), rfl, rfl, rfl, rfl⟩ h
    ·replace h := ite_f hc3 h
     refine WC.skip (WQ.blockNormal ?_)
     exact WQ.cut [] best2 ⟨(by exact ⟨rfl, rfl, rfl, rfl, rfl, rfl, rfl, rfl, rfl, trivial⟩), (by exact ⟨rfl, trivial⟩), rfl, rfl, rfl, rfl⟩ h
   ·intro best6 h
    replace h : refOf_j2 l kind code origin company day i best6 = some _ := h
    unfold refOf_j2 at h
    show WC _ _ _ ⟨[(14, .v (.int .i64 best6)), (15, .v (.int .i64 i)), (12, .p 12 0), (0, .v (.sl 15 (l.map eApiMeasure))), (1, .v (.int .i64 kind)), (2, .v (.str code)), (3, .v (.str origin)), (4, .v (.int .i64 company)), (5, .v (.int .i64 day))], [(12, .blk 34 [.v (.int .i64 0), .v (.int .i64 0), .v (.str []), .v (.raw (.slice none 0 0)), .v (.int .i64 0), .v (.int .i64 0), .v (.int .i64 0), .v (.int .i64 0), .v (.int .i64 0), .v (.int .i64 0), .v (.int .i64 0), .v (.bool false), .v (.int .i64 0), .v (.bool false), .v (.int .i64 0)])]⟩ _ _
    refine WC.region ?_
    refine lr 3 rfl trivial ?_
    refine WL.nil ?_
    cases h
    exact WQ.next [] ((IntKind.i64.wrap (i + (1 : Int))), best6) ⟨(by exact ⟨rfl, rfl, rfl, rfl, rfl, rfl, rfl, rfl, rfl, trivial⟩), (by exact ⟨rfl, trivial⟩), rfl, rfl, rfl, rfl⟩ (hn1 _ hf1)
  ·replace h := ite_f hc2 h
   refine WC.exit (WQ.thenExit ?_)
   cases h
   have he := he1 _ hf1
   subst he
   replace h := hk1
   try dsimp only at h
   refine WQ.thenExit (WQ.blockExit ?_)
   exact WQ.cut [] best2 ⟨(by exact ⟨rfl, rfl, rfl, trivial⟩), (by exact ⟨rfl, trivial⟩), rfl, rfl, rfl, rfl⟩ h
 ·intro best h
  replace h : refOf_j1 l best = some _ := h
  unfold refOf_j1 at h
  show WC _ _ _ ⟨[(14, .v (.int .i64 best)), (12, .p 12 0), (0, .v (.sl 15 (l.map eApiMeasure)))], [(12, .blk 34 [.v (.int .i64 0), .v (.int .i64 0), .v (.str []), .v (.raw (.slice none 0 0)), .v (.int .i64 0), .v (.int .i64 0), .v (.int .i64 0), .v (.int .i64 0), .v (.int .i64 0), .v (.int .i64 0), .v (.int .i64 0), .v (.bool false), .v (.int .i64 0), .v (.bool false), .v (.int .i64 0)])]⟩ _ _
  refine WC.seq (WC.seq (WC.region ?_))
  refine lr 2 rfl trivial ?_
  refine WL.nil (WQ.thenNormal ?_)
  refine WC.cond rfl (fun hc1 => ?_) (fun hc1 => ?_)
  ·replace h := ite_t hc1 h
   refine WC.seq (WC.region ?_)
   refine lr 3 rfl trivial ?_
   refine WL.nil (WQ.thenNormal (WC.ret (WQ.thenRet ?_)))
   cases h
   exact WQ.rets tbOk (r := .tup [.v (.agg [.int .i64 ((⟨0, 0, [], [], 0, 0, 0, 0, (⟨0, 0, 0, false, 0, false, 0⟩ : ApiDuty)⟩ : ApiMeasure).ID), .int .i64 ((⟨0, 0, [], [], 0, 0, 0, 0, (⟨0, 0, 0, false, 0, false, 0⟩ : ApiDuty)⟩ : ApiMeasure).Kind), .str ((⟨0, 0, [], [], 0, 0, 0, 0, (⟨0, 0, 0, false, 0, false, 0⟩ : ApiDuty)⟩ : ApiMeasure).Prefix), .sl 1 (((⟨0, 0, [], [], 0, 0, 0, 0, (⟨0, 0, 0, false, 0, false, 0⟩ : ApiDuty)⟩ : ApiMeasure).Origins).map eStr), .int .i64 ((⟨0, 0, [], [], 0, 0, 0, 0, (⟨0, 0, 0, false, 0, false, 0⟩ : ApiDuty)⟩ : ApiMeasure).Company), .int .i64 ((⟨0, 0, [], [], 0, 0, 0, 0, (⟨0, 0, 0, false, 0, false, 0⟩ : ApiDuty)⟩ : ApiMeasure).From), .int .i64 ((⟨0, 0, [], [], 0, 0, 0, 0, (⟨0, 0, 0, false, 0, false, 0⟩ : ApiDuty)⟩ : ApiMeasure).To), .int .i64 ((⟨0, 0, [], [], 0, 0, 0, 0, (⟨0, 0, 0, false, 0, false, 0⟩ : ApiDuty)⟩ : ApiMeasure).Registered), .int .i64 (((⟨0, 0, [], [], 0, 0, 0, 0, (⟨0, 0, 0, false, 0, false, 0⟩ : ApiDuty)⟩ : ApiMeasure).Duty).Rate), .int .i64 (((⟨0, 0, [], [], 0, 0, 0, 0, (⟨0, 0, 0, false, 0, false, 0⟩ : ApiDuty)⟩ : ApiMeasure).Duty).Amount), .int .i64 (((⟨0, 0, [], [], 0, 0, 0, 0, (⟨0, 0, 0, false, 0, false, 0⟩ : ApiDuty)⟩ : ApiMeasure).Duty).Per), .bool (((⟨0, 0, [], [], 0, 0, 0, 0, (⟨0, 0, 0, false, 0, false, 0⟩ : ApiDuty)⟩ : ApiMeasure).Duty).HasMost), .int .i64 (((⟨0, 0, [], [], 0, 0, 0, 0, (⟨0, 0, 0, false, 0, false, 0⟩ : ApiDuty)⟩ : ApiMeasure).Duty).Most), .bool (((⟨0, 0, [], [], 0, 0, 0, 0, (⟨0, 0, 0, false, 0, false, 0⟩ : ApiDuty)⟩ : ApiMeasure).Duty).HasLeast), .int .i64 (((⟨0, 0, [], [], 0, 0, 0, 0, (⟨0, 0, 0, false, 0, false, 0⟩ : ApiDuty)⟩ : ApiMeasure).Duty).Least)]), .v (.bool false)]) hR [] (.inl rfl) rfl rfl (Le.tup (.cons (Le.agg (.same (.same (.same (.sl 1 (.same (.same (.same (.same (.same (.same (.same (.same (.same (.same (.same .nil)))))))))))))))) (.cons (Le.refl _) .nil))) (by exact trivial) rfl rfl rfl rfl
  ·replace h := ite_f hc1 h
   refine WC.skip (WQ.thenNormal (WC.seq (WC.region ?_)))
   refine lr 2 rfl trivial ?_
   obtain ⟨g1, h⟩ := grd h
   replace h := bnd h; obtain ⟨x, hxx, h⟩ := h
   refine WL.q [] rfl rfl rfl (q_idx tbOk rfl (by exact trivial) g1 (map_get (f := eApiMeasure) hxx)) ?_
   refine lr 3 rfl trivial ?_
   refine WL.nil (WQ.thenNormal (WC.ret ?_))
   cases h
   exact WQ.rets tbOk (r := .tup [.v (.agg [.int .i64 x.ID, .int .i64 x.Kind, .str x.Prefix, .sl 1 (x.Origins.map eStr), .int .i64 x.Company, .int .i64 x.From, .int .i64 x.To, .int .i64 x.Registered, .int .i64 x.Duty.Rate, .int .i64 x.Duty.Amount, .int .i64 x.Duty.Per, .bool x.Duty.HasMost, .int .i64 x.Duty.Most, .bool x.Duty.HasLeast, .int .i64 x.Duty.Least]), .v (.bool true)]) hR [] (.inl rfl) rfl rfl (Le.tup (.cons (Le.refl _) (.cons (Le.refl _) .nil))) (by exact trivial) rfl rfl rfl rfl

theorem refApplicable_con {wg : World} (hw : WG wg) {l : (List ApiMeasure)} {code : Str} {origin : Str} {company : Int} {day : Int} {r : (List ApiMeasure)} (h : refApplicable l code origin company day = some r) : Con Tryz.prog wg gl 29 [.v (.sl 15 (l.map eApiMeasure)), .v (.str code), .v (.str origin), .v (.int .i64 company), .v (.int .i64 day)] [] (.v (.sl 15 (r.map eApiMeasure))) [] := by
 unfold refApplicable at h
 refine con_of_WC (S := slotsOf 0 _) Tryz.func29 rfl Tryz.ntmps29 rfl (fun t x hx => (slotsOf_get hx).2) ?_
 intro F L w ρ0 R hR
 show WC _ _ _ ⟨[(0, .v (.sl 15 (l.map eApiMeasure))), (1, .v (.str code)), (2, .v (.str origin)), (3, .v (.int .i64 company)), (4, .v (.int .i64 day))], []⟩ _ _
 refine WC.seq (WC.region ?_)
 refine lr 1 rfl trivial ?_
 refine WL.nil (WQ.thenNormal (WC.seq (WC.region ?_)))
 refine lr 1 rfl trivial ?_
 refine WL.nil (WQ.thenNormal (WC.seq (WC.seq (WC.region ?_))))
 refine lr 1 rfl trivial ?_
 refine WL.nil (WQ.thenNormal ?_)
 refine WC.thenCut (X := (List ApiMeasure)) (fun gG => ⟨[(11, .r 1011)], [(1011, .row 34 15 (gG.map eApiMeasure))]⟩) (fun gG => refApplicable_j1 gG = some r) ?_ ?_
 ·refine WC.block ?_
  obtain ⟨eQ1, hl1, hk1⟩ := bnd h
  clear h
  refine WC.rowNil 11 1011 34 15 rfl rfl ?_
  refine WC.loop (σ := Int × (List ApiMeasure)) (τ := ((List ApiMeasure))) (fun sS => ⟨[(12, .v (.int .i64 sS.1)), (11, .r 1011), (0, .v (.sl 15 (l.map eApiMeasure))), (1, .v (.str code)), (2, .v (.str origin)), (3, .v (.int .i64 company)), (4, .v (.int .i64 day))], [(1011, .row 34 15 (sS.2.map eApiMeasure))]⟩) (refApplicable_b1 l code origin company day) [] ((1 : Int), []) hl1 ⟨(by exact ⟨rfl, rfl, rfl, rfl, rfl, rfl, rfl, trivial⟩), (by exact ⟨rfl, trivial⟩), rfl, rfl, rfl, rfl⟩ ?_
  rintro ⟨k2, out3⟩ m hn1 he1 hx1
  obtain ⟨o1, hf1⟩ := some_of hx1
  have h := hf1
  unfold refApplicable_b1 at h
  show WC _ _ _ ⟨[(12, .v (.int .i64 k2)), (11, .r 1011), (0, .v (.sl 15 (l.map eApiMeasure))), (1, .v (.str code)), (2, .v (.str origin)), (3, .v (.int .i64 company)), (4, .v (.int .i64 day))], [(1011, .row 34 15 (out3.map eApiMeasure))]⟩ _ _
  refine WC.seq (WC.seq (WC.region ?_))
  refine lr 2 rfl trivial ?_
  refine WL.nil (WQ.thenNormal ?_)
  refine WC.cond rfl (fun hc1 => ?_) (fun hc1 => ?_)
  ·replace h := ite_t hc1 h
   refine WC.skip (WQ.thenNormal (WC.seq ?_))
   refine WC.thenCut (X := (List ApiMeasure)) (fun gG => ⟨[(11, .r 1011), (12, .v (.int .i64 k2)), (0, .v (.sl 15 (l.map eApiMeasure))), (1, .v (.str code)), (2, .v (.str origin)), (3, .v (.int .i64 company)), (4, .v (.int .i64 day))], [(1011, .row 34 15 (gG.map eApiMeasure))]⟩) (fun gG => refApplicable_j2 l code origin company day k2 gG = some o1) ?_ ?_
   ·refine WC.block (WC.seq (WC.region ?_))
    refine lr 6 rfl trivial ?_
    replace h := bnd h; obtain ⟨v3, hvv3, h⟩ := h
    refine WL.call0 fn52 rfl rfl rfl rfl (by exact trivial) rfl (refOf_con hw hvv3) ?_
    refine lr 6 rfl trivial ?_
    refine WL.nil (WQ.thenNormal (WC.seq (WC.region ?_)))
    refine lr 1 rfl trivial ?_
    refine WL.nil (WQ.thenNormal ?_)
    refine WC.cond rfl (fun hc2 => ?_) (fun hc2 => ?_)
    ·replace h := ite_t hc2 h
     refine WC.region ?_
     refine lr 3 rfl trivial ?_
     obtain ⟨g1, h⟩ := grd h
     refine WL.append tbOk ((out3 ++ [v3.1]).map eApiMeasure) [33, 1011] ap22 rfl rfl rfl rfl (fun _ e => by cases e; rfl) (by exact trivial) (map_cells (f := eApiMeasure) (xs := [v3.1]) fun _ => rfl) (by have := g1; simp only [List.length_map, List.length_nil, List.length_cons] at this ⊢; omega) rfl rfl (by simp only [List.map_append]; try rfl) rfl ?_
     refine lr 1 rfl trivial ?_
     refine WL.nil (WQ.blockNormal ?_)
     exact WQ.cut [(1011, 33)] (out3 ++ [v3.1]) ⟨(by exact ⟨rfl, rfl, rfl, rfl, rfl, rfl, rfl, trivial⟩), (by exact ⟨rfl, trivial⟩), rfl, rfl, rfl, rfl⟩ h
    ·replace h := ite_f hc2 h
     refine WC.skip (WQ.blockNormal ?_)
     exact WQ.cut [] out3 ⟨(by exact ⟨rfl, rfl, rfl, rfl, rfl, rfl, rfl, trivial⟩), (by exact ⟨rfl, trivial⟩), rfl, rfl, rfl, rfl⟩ h
   ·intro out6 h
    replace h : refApplicable_j2 l code origin company day k2 out6 = some _ := h
    unfold refApplicable_j2 at h
    show WC _ _ _ ⟨[(11, .r 1011), (12, .v (.int .i64 k2)), (0, .v (.sl 15 (l.map eApiMeasure))), (1, .v (.str code)), (2, .v (.str origin)), (3, .v (.int .i64 company)), (4, .v (.int .i64 day))], [(1011, .row 34 15 (out6.map eApiMeasure))]⟩ _ _
    refine WC.region ?_
    refine lr 3 rfl trivial ?_
    refine WL.nil ?_
    cases h
    exact WQ.next [] ((IntKind.i64.wrap (k2 + (1 : Int))), out6) ⟨(by exact ⟨rfl, rfl, rfl, rfl, rfl, rfl, rfl, trivial⟩), (by exact ⟨rfl, trivial⟩), rfl, rfl, rfl, rfl⟩ (hn1 _ hf1)
  ·replace h := ite_f hc1 h
   refine WC.exit (WQ.thenExit ?_)
   cases h
   have he := he1 _ hf1
   subst he
   replace h := hk1
   try dsimp only at h
   refine WQ.thenExit (WQ.blockExit ?_)
   exact WQ.cut [] out3 ⟨(by exact ⟨rfl, trivial⟩), (by exact ⟨rfl, trivial⟩), rfl, rfl, rfl, rfl⟩ h
 ·intro out h
  replace h : refApplicable_j1 out = some _ := h
  unfold refApplicable_j1 at h
  show WC _ _ _ ⟨[(11, .r 1011)], [(1011, .row 34 15 (out.map eApiMeasure))]⟩ _ _
  refine WC.seq (WC.region ?_)
  refine lr 2 rfl trivial ?_
  refine WL.nil (WQ.thenNormal (WC.ret ?_))
  refine WQ.publish 1011 rfl rfl ?_
  cases h
  exact WQ.rets tbOk hR [] (.inl rfl) rfl rfl (Le.refl _) (by exact trivial) rfl rfl rfl rfl

theorem sameMeasures_con {wg : World} (hw : WG wg) {a : (List ApiMeasure)} {b : (List ApiMeasure)} {r : Bool} (h : sameMeasures a b = some r) : Con Tryz.prog wg gl 22 [.v (.sl 15 (a.map eApiMeasure)), .v (.sl 15 (b.map eApiMeasure))] [] (.v (.bool r)) [] := by
 unfold sameMeasures at h
 refine con_of_WC (S := slotsOf 0 _) Tryz.func22 rfl Tryz.ntmps22 rfl (fun t x hx => (slotsOf_get hx).2) ?_
 intro F L w ρ0 R hR
 show WC _ _ _ ⟨[(0, .v (.sl 15 (a.map eApiMeasure))), (1, .v (.sl 15 (b.map eApiMeasure)))], []⟩ _ _
 refine WC.seq (WC.region ?_)
 refine lr 1 rfl trivial ?_
 refine WL.nil (WQ.thenNormal (WC.seq (WC.seq (WC.region ?_))))
 refine lr 1 rfl trivial ?_
 refine WL.q [] rfl rfl rfl (q_ev tbOk (.v (.int .i64 (a.length : Int))) rfl (by exact trivial) (by exact lenT)) ?_
 refine lr 1 rfl trivial ?_
 refine WL.q [] rfl rfl rfl (q_ev tbOk (.v (.int .i64 (b.length : Int))) rfl (by exact trivial) (by exact lenT)) ?_
 refine lr 1 rfl trivial ?_
 refine WL.nil (WQ.thenNormal ?_)
 refine WC.cond rfl (fun hc1 => ?_) (fun hc1 => ?_)
 ·replace h := ite_t hc1 h
  refine WC.seq (WC.region ?_)
  refine lr 1 rfl trivial ?_
  refine WL.nil (WQ.thenNormal (WC.ret (WQ.thenRet ?_)))
  cases h
  exact WQ.rets tbOk hR [] (.inl rfl) rfl rfl (Le.refl _) (by exact trivial) rfl rfl rfl rfl
 ·replace h := ite_f hc1 h
  refine WC.skip (WQ.thenNormal (WC.seq (WC.seq (WC.region ?_))))
  refine lr 1 rfl trivial ?_
  refine WL.nil (WQ.thenNormal ?_)
  refine WC.thenCut (X := Unit) (fun gG => ⟨[], []⟩) (fun gG => sameMeasures_j1  = some r) ?_ ?_
  ·refine WC.block ?_
   obtain ⟨eQ1, hl1, hk1⟩ := bnd h
   clear h
   refine WC.loop (σ := Int) (τ := ((Bool) ⊕ (Unit))) (fun sS => ⟨[(5, .v (.int .i64 sS)), (0, .v (.sl 15 (a.map eApiMeasure))), (1, .v (.sl 15 (b.map eApiMeasure)))], []⟩) (sameMeasures_b1 a b) [] (0 : Int) hl1 ⟨(by exact ⟨rfl, rfl, rfl, trivial⟩), (by exact trivial), rfl, rfl, rfl, rfl⟩ ?_
   intro i m hn1 he1 hx1
   obtain ⟨o1, hf1⟩ := some_of hx1
   have h := hf1
   unfold sameMeasures_b1 at h
   show WC _ _ _ ⟨[(5, .v (.int .i64 i)), (0, .v (.sl 15 (a.map eApiMeasure))), (1, .v (.sl 15 (b.map eApiMeasure)))], []⟩ _ _
   refine WC.seq (WC.seq (WC.region ?_))
   refine lr 2 rfl trivial ?_
   refine WL.q [] rfl rfl rfl (q_ev tbOk (.v (.int .i64 (a.length : Int))) rfl (by exact trivial) (by exact lenT)) ?_
   refine lr 1 rfl trivial ?_
   refine WL.nil (WQ.thenNormal ?_)
   refine WC.cond rfl (fun hc2 => ?_) (fun hc2 => ?_)
   ·replace h := ite_t hc2 h
    refine WC.skip (WQ.thenNormal (WC.seq (WC.block (WC.seq (WC.order mixed ?_)))))
    refine wr 2 rfl trivial ?_
    obtain ⟨g1, h⟩ := grd h
    replace h := bnd h; obtain ⟨x3, hxx3, h⟩ := h
    refine WR.q [] rfl rfl rfl (q_idx tbOk rfl (by exact trivial) g1 (map_get (f := eApiMeasure) hxx3)) ?_
    refine wr 3 rfl trivial ?_
    obtain ⟨g2, h⟩ := grd h
    replace h := bnd h; obtain ⟨x4, hxx4, h⟩ := h
    refine WR.q [] rfl rfl rfl (q_idx tbOk rfl (by exact trivial) g2 (map_get (f := eApiMeasure) hxx4)) ?_
    refine wr 5 rfl trivial ?_
    refine WR.nil (by kernel_rfl) (WQ.thenNormal (WC.seq (WC.region ?_)))
    refine lr 52 rfl (by exact sideR) ?_
    refine WL.gq [] rfl rfl rfl rfl (x := .v (.bool (!((x3.Duty.Rate == x4.Duty.Rate) && ((x3.Duty.Amount == x4.Duty.Amount) && ((x3.Duty.Per == x4.Duty.Per) && ((x3.Duty.HasMost == x4.Duty.HasMost) && ((x3.Duty.Most == x4.Duty.Most) && ((x3.Duty.HasLeast == x4.Duty.HasLeast) && (x3.Duty.Least == x4.Duty.Least)))))))))) (fun hg => by refine q_eq (pos := false) rfl ?_ eg32 eqT32; exact (by exact sideR)) ?_
    refine lr 6 rfl (by exact sideR) ?_
    replace h := bnd h; obtain ⟨v2, hvv2, h⟩ := h
    refine WL.gcall0 fn45 rfl rfl rfl rfl rfl (fun _ => (by exact sideR)) rfl (fun hg => (sameStrings_con hw (ite_t hg hvv2))) ?_
    refine lr 2 rfl (by exact sideR) ?_
    refine WL.nil (WQ.thenNormal ?_)
    refine WC.cond rfl (fun hc3 => ?_) (fun hc3 => ?_)
    ·replace h := ite_t hc3 h
     refine WC.seq (WC.region ?_)
     refine lr 1 rfl trivial ?_
     refine WL.nil (WQ.thenNormal (WC.ret (WQ.blockRet (WQ.thenRet ?_))))
     cases h
     have he := he1 _ hf1
     subst he
     have h : some false = some _ := hk1
     refine WQ.thenRet (WQ.blockRet (WQ.thenRet ?_))
     cases h
     exact WQ.rets tbOk hR [] (.inl rfl) rfl rfl (Le.refl _) (by exact trivial) rfl rfl rfl rfl
    ·replace h := ite_f hc3 h
     refine WC.skip (WQ.blockNormal (WQ.thenNormal (WC.region ?_)))
     refine lr 3 rfl trivial ?_
     refine WL.nil ?_
     cases h
     exact WQ.next [] (IntKind.i64.wrap (i + (1 : Int))) ⟨(by exact ⟨rfl, rfl, rfl, trivial⟩), (by exact trivial), rfl, rfl, rfl, rfl⟩ (hn1 _ hf1)
   ·replace h := ite_f hc2 h
    refine WC.exit (WQ.thenExit ?_)
    cases h
    have he := he1 _ hf1
    subst he
    replace h := hk1
    try dsimp only at h
    refine WQ.thenExit (WQ.blockExit ?_)
    exact WQ.cut [] () ⟨(by exact trivial), (by exact trivial), rfl, rfl, rfl, rfl⟩ h
  ·intro _ h
   replace h : sameMeasures_j1 = some _ := h
   unfold sameMeasures_j1 at h
   show WC _ _ _ ⟨[], []⟩ _ _
   refine WC.seq (WC.region ?_)
   refine lr 1 rfl trivial ?_
   refine WL.nil (WQ.thenNormal (WC.ret ?_))
   cases h
   exact WQ.rets tbOk hR [] (.inl rfl) rfl rfl (Le.refl _) (by exact trivial) rfl rfl rfl rfl

end Go.Proofs.YtbilobjddflpeaaGreatDoor
