/- Contracts: the program's functions compute the plain ones; by program (gen.py). -/
import Derived.Test.YtbilobjddflpeaaGreatDoorLib
import Derived.Test.YtbilobjddflpeaaGreatDoorPb
import Derived.Test.YtbilobjddflpeaaGreatDoorCa
set_option linter.unusedVariables false
set_option linter.unusedSimpArgs false
set_option maxHeartbeats 4000000
set_option maxRecDepth 20000
namespace Go.Proofs.YtbilobjddflpeaaGreatDoor
open Go.V Go.C

theorem dutyValidate_con {wg : World} (hw : WG wg) {d : ApiDuty} {r : Int} (h : dutyValidate d = some r) : Con Tryz.prog wg gl 33 [.v (.agg [.int .i64 d.Rate, .int .i64 d.Amount, .int .i64 d.Per, .bool d.HasMost, .int .i64 d.Most, .bool d.HasLeast, .int .i64 d.Least])] [] (.v (.int .i64 r)) [] := by
 unfold dutyValidate at h
 refine con_of_WC (S := slotsOf 0 _) Tryz.func33 rfl Tryz.ntmps33 rfl (fun t x hx => (slotsOf_get hx).2) ?_
 intro F L w ρ0 R hR
 show WC _ _ _ ⟨[(0, .v (.agg [.int .i64 d.Rate, .int .i64 d.Amount, .int .i64 d.Per, .bool d.HasMost, .int .i64 d.Most, .bool d.HasLeast, .int .i64 d.Least]))], []⟩ _ _
 refine WC.seq (WC.region ?_)
 refine lr 2 rfl trivial ?_
 refine WL.nil (WQ.thenNormal (WC.seq (WC.seq (WC.region ?_))))
 refine lr 18 rfl (by exact sideR) ?_
 refine WL.nil (WQ.thenNormal ?_)
 refine WC.cond rfl (fun hc1 => ?_) (fun hc1 => ?_)
 ·replace h := ite_t hc1 h
  refine WC.seq (WC.region ?_)
  refine lr 1 rfl trivial ?_
  refine WL.nil (WQ.thenNormal (WC.ret (WQ.thenRet ?_)))
  cases h
  exact WQ.rets tbOk hR [] (.inl rfl) rfl rfl (Le.refl _) (by exact trivial) rfl rfl rfl rfl
 ·replace h := ite_f hc1 h
  refine WC.skip (WQ.thenNormal (WC.seq (WC.seq (WC.region ?_))))
  refine lr 23 rfl (by exact sideR) ?_
  refine WL.nil (WQ.thenNormal ?_)
  refine WC.cond rfl (fun hc2 => ?_) (fun hc2 => ?_)
  ·replace h := ite_t hc2 h
   refine WC.seq (WC.region ?_)
   refine lr 1 rfl trivial ?_
   refine WL.nil (WQ.thenNormal (WC.ret (WQ.thenRet ?_)))
   cases h
   exact WQ.rets tbOk hR [] (.inl rfl) rfl rfl (Le.refl _) (by exact trivial) rfl rfl rfl rfl
  ·replace h := ite_f hc2 h
   refine WC.skip (WQ.thenNormal (WC.seq (WC.seq (WC.region ?_))))
   refine lr 18 rfl (by exact sideR) ?_
   refine WL.nil (WQ.thenNormal ?_)
   refine WC.cond rfl (fun hc3 => ?_) (fun hc3 => ?_)
   ·replace h := ite_t hc3 h
    refine WC.seq (WC.region ?_)
    refine lr 1 rfl trivial ?_
    refine WL.nil (WQ.thenNormal (WC.ret (WQ.thenRet ?_)))
    cases h
    exact WQ.rets tbOk hR [] (.inl rfl) rfl rfl (Le.refl _) (by exact trivial) rfl rfl rfl rfl
   ·replace h := ite_f hc3 h
    refine WC.skip (WQ.thenNormal (WC.seq (WC.seq (WC.region ?_))))
    refine lr 18 rfl (by exact sideR) ?_
    refine WL.nil (WQ.thenNormal ?_)
    refine WC.cond rfl (fun hc4 => ?_) (fun hc4 => ?_)
    ·replace h := ite_t hc4 h
     refine WC.seq (WC.region ?_)
     refine lr 1 rfl trivial ?_
     refine WL.nil (WQ.thenNormal (WC.ret (WQ.thenRet ?_)))
     cases h
     exact WQ.rets tbOk hR [] (.inl rfl) rfl rfl (Le.refl _) (by exact trivial) rfl rfl rfl rfl
    ·replace h := ite_f hc4 h
     refine WC.skip (WQ.thenNormal (WC.seq (WC.seq (WC.region ?_))))
     refine lr 13 rfl (by exact sideR) ?_
     refine WL.nil (WQ.thenNormal ?_)
     refine WC.cond rfl (fun hc5 => ?_) (fun hc5 => ?_)
     ·replace h := ite_t hc5 h
      refine WC.seq (WC.region ?_)
      refine lr 1 rfl trivial ?_
      refine WL.nil (WQ.thenNormal (WC.ret (WQ.thenRet ?_)))
      cases h
      exact WQ.rets tbOk hR [] (.inl rfl) rfl rfl (Le.refl _) (by exact trivial) rfl rfl rfl rfl
     ·replace h := ite_f hc5 h
      refine WC.skip (WQ.thenNormal (WC.seq (WC.region ?_)))
      refine lr 1 rfl trivial ?_
      refine WL.nil (WQ.thenNormal (WC.ret ?_))
      cases h
      exact WQ.rets tbOk hR [] (.inl rfl) rfl rfl (Le.refl _) (by exact trivial) rfl rfl rfl rfl

theorem refIn_con {wg : World} (hw : WG wg) {x : Int} {n1 : Int} {r : Bool} (h : refIn x n1 = some r) : Con Tryz.prog wg gl 86 [.v (.int .i64 x), .v (.int .i64 n1)] [] (.v (.bool r)) [] := by
 unfold refIn at h
 refine con_of_WC (S := slotsOf 0 _) Tryz.func86 rfl Tryz.ntmps86 rfl (fun t x hx => (slotsOf_get hx).2) ?_
 intro F L w ρ0 R hR
 show WC _ _ _ ⟨[(0, .v (.int .i64 x)), (1, .v (.int .i64 n1))], []⟩ _ _
 refine WC.seq (WC.region ?_)
 refine lr 1 rfl trivial ?_
 refine WL.nil (WQ.thenNormal (WC.seq (WC.region ?_)))
 refine lr 8 rfl (by exact sideR) ?_
 refine WL.nil (WQ.thenNormal (WC.ret ?_))
 cases h
 exact WQ.rets tbOk hR [] (.inl rfl) rfl rfl (Le.refl _) (by exact trivial) rfl rfl rfl rfl

theorem refDuty_con {wg : World} (hw : WG wg) {d : ApiDuty} {r : Int} (h : refDuty d = some r) : Con Tryz.prog wg gl 61 [.v (.agg [.int .i64 d.Rate, .int .i64 d.Amount, .int .i64 d.Per, .bool d.HasMost, .int .i64 d.Most, .bool d.HasLeast, .int .i64 d.Least])] [] (.v (.int .i64 r)) [] := by
 unfold refDuty at h
 refine con_of_WC (S := slotsOf 0 _) Tryz.func61 rfl Tryz.ntmps61 rfl (fun t x hx => (slotsOf_get hx).2) ?_
 intro F L w ρ0 R hR
 show WC _ _ _ ⟨[(0, .v (.agg [.int .i64 d.Rate, .int .i64 d.Amount, .int .i64 d.Per, .bool d.HasMost, .int .i64 d.Most, .bool d.HasLeast, .int .i64 d.Least]))], []⟩ _ _
 refine WC.seq (WC.region ?_)
 refine lr 2 rfl trivial ?_
 refine WL.nil (WQ.thenNormal (WC.seq (WC.seq (WC.region ?_))))
 refine lr 2 rfl trivial ?_
 replace h := bnd h; obtain ⟨v, hvv, h⟩ := h
 refine WL.call0 fn86 rfl rfl rfl rfl (by exact trivial) rfl (refIn_con hw hvv) ?_
 refine lr 4 rfl (by exact sideR) ?_
 replace h := bnd h; obtain ⟨v2, hvv2, h⟩ := h
 refine WL.gcall0 fn86 rfl rfl rfl rfl rfl (fun _ => (by exact sideR)) rfl (fun hg => (refIn_con hw (ite_t hg hvv2))) ?_
 refine lr 30 rfl (by exact sideR) ?_
 replace h := bnd h; obtain ⟨v3, hvv3, h⟩ := h
 refine WL.gcall0 fn86 rfl rfl rfl rfl rfl (fun _ => (by exact sideR)) rfl (fun hg => (refIn_con hw (ite_t hg hvv3))) ?_
 refine lr 5 rfl (by exact sideR) ?_
 replace h := bnd h; obtain ⟨v4, hvv4, h⟩ := h
 refine WL.gcall0 fn86 rfl rfl rfl rfl rfl (fun _ => (by exact sideR)) rfl (fun hg => (refIn_con hw (ite_t hg hvv4))) ?_
 refine lr 2 rfl (by exact sideR) ?_
 refine WL.nil (WQ.thenNormal ?_)
 refine WC.cond rfl (fun hc1 => ?_) (fun hc1 => ?_)
 ·replace h := ite_t hc1 h
  refine WC.seq (WC.region ?_)
  refine lr 1 rfl trivial ?_
  refine WL.nil (WQ.thenNormal (WC.ret (WQ.thenRet ?_)))
  cases h
  exact WQ.rets tbOk hR [] (.inl rfl) rfl rfl (Le.refl _) (by exact trivial) rfl rfl rfl rfl
 ·replace h := ite_f hc1 h
  refine WC.skip (WQ.thenNormal (WC.seq (WC.seq (WC.region ?_))))
  refine lr 33 rfl (by exact sideR) ?_
  refine WL.nil (WQ.thenNormal ?_)
  refine WC.cond rfl (fun hc2 => ?_) (fun hc2 => ?_)
  ·replace h := ite_t hc2 h
   refine WC.seq (WC.region ?_)
   refine lr 1 rfl trivial ?_
   refine WL.nil (WQ.thenNormal (WC.ret (WQ.thenRet ?_)))
   cases h
   exact WQ.rets tbOk hR [] (.inl rfl) rfl rfl (Le.refl _) (by exact trivial) rfl rfl rfl rfl
  ·replace h := ite_f hc2 h
   refine WC.skip (WQ.thenNormal (WC.seq (WC.region ?_)))
   refine lr 1 rfl trivial ?_
   refine WL.nil (WQ.thenNormal (WC.ret ?_))
   cases h
   exact WQ.rets tbOk hR [] (.inl rfl) rfl rfl (Le.refl _) (by exact trivial) rfl rfl rfl rfl

theorem nomLevel_con {wg : World} (hw : WG wg) {code : Str} {r : Int} (h : nomLevel code = some r) : Con Tryz.prog wg gl 31 [.v (.str code)] [] (.v (.int .i64 r)) [] := by
 unfold nomLevel at h
 refine con_of_WC (S := slotsOf 0 _) Tryz.func31 rfl Tryz.ntmps31 rfl (fun t x hx => (slotsOf_get hx).2) ?_
 intro F L w ρ0 R hR
 show WC _ _ _ ⟨[(0, .v (.str code))], []⟩ _ _
 refine WC.seq (WC.region ?_)
 refine lr 1 rfl trivial ?_
 refine WL.nil (WQ.thenNormal (WC.seq (WC.seq (WC.region ?_))))
 refine lr 2 rfl trivial ?_
 refine WL.nil (WQ.thenNormal ?_)
 refine WC.thenCut (X := Unit) (fun gG => ⟨[], []⟩) (fun gG => nomLevel_j1  = some r) ?_ ?_
 ·refine WC.block ?_
  refine WC.rounds 5 ?_
  refine WC.seq (WC.region ?_)
  refine lr 1 rfl trivial ?_
  refine WL.nil (WQ.thenNormal (WC.seq ?_))
  refine WC.cond (b := true) rfl (fun hc1 => ?_) (fun hc1 => by cases hc1)
  refine WC.skip (WQ.thenNormal (WC.seq (WC.block (WC.seq (WC.region ?_)))))
  refine WL.q [] rfl rfl rfl (q_aidx tbOk Tryz.underlying89 rfl rfl rfl rfl (by exact sideR) (by decide) rfl) ?_
  refine lr 1 rfl trivial ?_
  refine WL.nil (WQ.thenNormal (WC.seq (WC.region ?_)))
  refine lr 6 rfl (by exact sideR) ?_
  replace h := bnd h; obtain ⟨v, hvv, h⟩ := h
  refine WL.gcall0 fn57 rfl rfl rfl rfl rfl (fun _ => (by exact sideR)) rfl (fun hg => (trimS_con hw (ite_t hg hvv))) ?_
  refine lr 2 rfl (by exact sideR) ?_
  refine WL.nil (WQ.thenNormal ?_)
  refine WC.cond rfl (fun hc2 => ?_) (fun hc2 => ?_)
  ·replace h := ite_t hc2 h
   refine WC.seq (WC.region ?_)
   refine lr 2 rfl trivial ?_
   refine WL.nil (WQ.thenNormal (WC.ret (WQ.blockRet (WQ.thenRet (WQ.thenRet (WQ.blockRet (WQ.thenRet ?_)))))))
   cases h
   exact WQ.rets tbOk hR [] (.inl rfl) rfl rfl (Le.refl _) (by exact trivial) rfl rfl rfl rfl
  ·replace h := ite_f hc2 h
   refine WC.skip (WQ.blockNormal (WQ.thenNormal (WC.region ?_)))
   refine lr 2 rfl trivial ?_
   refine WL.nil ?_
   refine WQ.round ?_
   refine WC.seq (WC.region ?_)
   refine lr 1 rfl trivial ?_
   refine WL.nil (WQ.thenNormal (WC.seq ?_))
   refine WC.cond (b := true) rfl (fun hc3 => ?_) (fun hc3 => by cases hc3)
   refine WC.skip (WQ.thenNormal (WC.seq (WC.block (WC.seq (WC.region ?_)))))
   refine WL.q [] rfl rfl rfl (q_aidx tbOk Tryz.underlying89 rfl rfl rfl rfl (by exact sideR) (by decide) rfl) ?_
   refine lr 1 rfl trivial ?_
   refine WL.nil (WQ.thenNormal (WC.seq (WC.region ?_)))
   refine lr 6 rfl (by exact sideR) ?_
   replace h := bnd h; obtain ⟨v2, hvv2, h⟩ := h
   refine WL.gcall0 fn57 rfl rfl rfl rfl rfl (fun _ => (by exact sideR)) rfl (fun hg => (trimS_con hw (ite_t hg hvv2))) ?_
   refine lr 2 rfl (by exact sideR) ?_
   refine WL.nil (WQ.thenNormal ?_)
   refine WC.cond rfl (fun hc4 => ?_) (fun hc4 => ?_)
   ·replace h := ite_t hc4 h
    refine WC.seq (WC.region ?_)
    refine lr 2 rfl trivial ?_
    refine WL.nil (WQ.thenNormal (WC.ret (WQ.blockRet (WQ.thenRet (WQ.thenRet (WQ.blockRet (WQ.thenRet ?_)))))))
    cases h
    exact WQ.rets tbOk hR [] (.inl rfl) rfl rfl (Le.refl _) (by exact trivial) rfl rfl rfl rfl
   ·replace h := ite_f hc4 h
    refine WC.skip (WQ.blockNormal (WQ.thenNormal (WC.region ?_)))
    refine lr 2 rfl trivial ?_
    refine WL.nil ?_
    refine WQ.round ?_
    refine WC.seq (WC.region ?_)
    refine lr 1 rfl trivial ?_
    refine WL.nil (WQ.thenNormal (WC.seq ?_))
    refine WC.cond (b := true) rfl (fun hc5 => ?_) (fun hc5 => by cases hc5)
    refine WC.skip (WQ.thenNormal (WC.seq (WC.block (WC.seq (WC.region ?_)))))
    refine WL.q [] rfl rfl rfl (q_aidx tbOk Tryz.underlying89 rfl rfl rfl rfl (by exact sideR) (by decide) rfl) ?_
    refine lr 1 rfl trivial ?_
    refine WL.nil (WQ.thenNormal (WC.seq (WC.region ?_)))
    refine lr 6 rfl (by exact sideR) ?_
    replace h := bnd h; obtain ⟨v3, hvv3, h⟩ := h
    refine WL.gcall0 fn57 rfl rfl rfl rfl rfl (fun _ => (by exact sideR)) rfl (fun hg => (trimS_con hw (ite_t hg hvv3))) ?_
    refine lr 2 rfl (by exact sideR) ?_
    refine WL.nil (WQ.thenNormal ?_)
    refine WC.cond rfl (fun hc6 => ?_) (fun hc6 => ?_)
    ·replace h := ite_t hc6 h
     refine WC.seq (WC.region ?_)
     refine lr 2 rfl trivial ?_
     refine WL.nil (WQ.thenNormal (WC.ret (WQ.blockRet (WQ.thenRet (WQ.thenRet (WQ.blockRet (WQ.thenRet ?_)))))))
     cases h
     exact WQ.rets tbOk hR [] (.inl rfl) rfl rfl (Le.refl _) (by exact trivial) rfl rfl rfl rfl
    ·replace h := ite_f hc6 h
     refine WC.skip (WQ.blockNormal (WQ.thenNormal (WC.region ?_)))
     refine lr 2 rfl trivial ?_
     refine WL.nil ?_
     refine WQ.round ?_
     refine WC.seq (WC.region ?_)
     refine lr 1 rfl trivial ?_
     refine WL.nil (WQ.thenNormal (WC.seq ?_))
     refine WC.cond (b := true) rfl (fun hc7 => ?_) (fun hc7 => by cases hc7)
     refine WC.skip (WQ.thenNormal (WC.seq (WC.block (WC.seq (WC.region ?_)))))
     refine WL.q [] rfl rfl rfl (q_aidx tbOk Tryz.underlying89 rfl rfl rfl rfl (by exact sideR) (by decide) rfl) ?_
     refine lr 1 rfl trivial ?_
     refine WL.nil (WQ.thenNormal (WC.seq (WC.region ?_)))
     refine lr 6 rfl (by exact sideR) ?_
     replace h := bnd h; obtain ⟨v4, hvv4, h⟩ := h
     refine WL.gcall0 fn57 rfl rfl rfl rfl rfl (fun _ => (by exact sideR)) rfl (fun hg => (trimS_con hw (ite_t hg hvv4))) ?_
     refine lr 2 rfl (by exact sideR) ?_
     refine WL.nil (WQ.thenNormal ?_)
     refine WC.cond rfl (fun hc8 => ?_) (fun hc8 => ?_)
     ·replace h := ite_t hc8 h
      refine WC.seq (WC.region ?_)
      refine lr 2 rfl trivial ?_
      refine WL.nil (WQ.thenNormal (WC.ret (WQ.blockRet (WQ.thenRet (WQ.thenRet (WQ.blockRet (WQ.thenRet ?_)))))))
      cases h
      exact WQ.rets tbOk hR [] (.inl rfl) rfl rfl (Le.refl _) (by exact trivial) rfl rfl rfl rfl
     ·replace h := ite_f hc8 h
      refine WC.skip (WQ.blockNormal (WQ.thenNormal (WC.region ?_)))
      refine lr 2 rfl trivial ?_
      refine WL.nil ?_
      refine WQ.round ?_
      refine WC.seq (WC.region ?_)
      refine lr 1 rfl trivial ?_
      refine WL.nil (WQ.thenNormal (WC.seq ?_))
      refine WC.cond (b := false) rfl (fun hc9 => by cases hc9) (fun hc9 => ?_)
      refine WC.exit (WQ.thenExit (WQ.thenExit (WQ.blockExit ?_)))
      exact WQ.cut [] () ⟨(by exact trivial), (by exact trivial), rfl, rfl, rfl, rfl⟩ h
 ·intro _ h
  replace h : nomLevel_j1 = some _ := h
  unfold nomLevel_j1 at h
  show WC _ _ _ ⟨[], []⟩ _ _
  refine WC.seq (WC.region ?_)
  refine lr 1 rfl trivial ?_
  refine WL.nil (WQ.thenNormal (WC.ret ?_))
  cases h
  exact WQ.rets tbOk hR [] (.inl rfl) rfl rfl (Le.refl _) (by exact trivial) rfl rfl rfl rfl

theorem refLevel_con {wg : World} (hw : WG wg) {s : Str} {r : Int} (h : refLevel s = some r) : Con Tryz.prog wg gl 59 [.v (.str s)] [] (.v (.int .i64 r)) [] := by
 unfold refLevel at h
 refine con_of_WC (S := slotsOf 0 _) Tryz.func59 rfl Tryz.ntmps59 rfl (fun t x hx => (slotsOf_get hx).2) ?_
 intro F L w ρ0 R hR
 show WC _ _ _ ⟨[(0, .v (.str s))], []⟩ _ _
 refine WC.seq (WC.region ?_)
 refine lr 1 rfl trivial ?_
 refine WL.nil (WQ.thenNormal (WC.seq (WC.seq (WC.region ?_))))
 refine lr 1 rfl trivial ?_
 refine WL.nil (WQ.thenNormal ?_)
 refine WC.thenCut (X := Unit) (fun gG => ⟨[(0, .v (.str s))], []⟩) (fun gG => refLevel_j1 s = some r) ?_ ?_
 ·refine WC.block ?_
  obtain ⟨eQ1, hl1, hk1⟩ := bnd h
  clear h
  refine WC.loop (σ := Int) (τ := ((Int) ⊕ (Unit))) (fun sS => ⟨[(3, .v (.int .i64 sS)), (0, .v (.str s))], []⟩) (refLevel_b1 s) [] (0 : Int) hl1 ⟨(by exact ⟨rfl, rfl, trivial⟩), (by exact trivial), rfl, rfl, rfl, rfl⟩ ?_
  intro i m hn1 he1 hx1
  obtain ⟨o1, hf1⟩ := some_of hx1
  have h := hf1
  unfold refLevel_b1 at h
  show WC _ _ _ ⟨[(3, .v (.int .i64 i)), (0, .v (.str s))], []⟩ _ _
  refine WC.seq (WC.seq (WC.region ?_))
  refine lr 4 rfl trivial ?_
  refine WL.nil (WQ.thenNormal ?_)
  refine WC.cond rfl (fun hc2 => ?_) (fun hc2 => ?_)
  ·replace h := ite_t hc2 h
   refine WC.skip (WQ.thenNormal (WC.seq (WC.block (WC.seq (WC.region ?_)))))
   obtain ⟨g1, h⟩ := grd h
   obtain ⟨g2, h⟩ := grd h
   refine lr 10 rfl (by repeat' (first | exact trivial | assumption | intro _ | exact g1 (by assumption) | exact g2 (by assumption) | apply And.intro | exact sideT | (refine and_i ?_ ?_))) ?_
   refine WL.nil (WQ.thenNormal ?_)
   refine WC.cond rfl (fun hc3 => ?_) (fun hc3 => ?_)
   ·replace h := ite_t hc3 h
    refine WC.seq (WC.region ?_)
    refine lr 1 rfl trivial ?_
    refine WL.nil (WQ.thenNormal (WC.ret (WQ.blockRet (WQ.thenRet ?_))))
    cases h
    have he := he1 _ hf1
    subst he
    have h : some (0 : Int) = some _ := hk1
    refine WQ.thenRet (WQ.blockRet (WQ.thenRet ?_))
    cases h
    exact WQ.rets tbOk hR [] (.inl rfl) rfl rfl (Le.refl _) (by exact trivial) rfl rfl rfl rfl
   ·replace h := ite_f hc3 h
    refine WC.skip (WQ.blockNormal (WQ.thenNormal (WC.region ?_)))
    refine lr 3 rfl trivial ?_
    refine WL.nil ?_
    cases h
    exact WQ.next [] (IntKind.i64.wrap (i + (1 : Int))) ⟨(by exact ⟨rfl, rfl, trivial⟩), (by exact trivial), rfl, rfl, rfl, rfl⟩ (hn1 _ hf1)
  ·replace h := ite_f hc2 h
   refine WC.exit (WQ.thenExit ?_)
   cases h
   have he := he1 _ hf1
   subst he
   replace h := hk1
   try dsimp only at h
   refine WQ.thenExit (WQ.blockExit ?_)
   exact WQ.cut [] () ⟨(by exact ⟨rfl, trivial⟩), (by exact trivial), rfl, rfl, rfl, rfl⟩ h
 ·intro _ h
  replace h : refLevel_j1 s = some _ := h
  unfold refLevel_j1 at h
  show WC _ _ _ ⟨[(0, .v (.str s))], []⟩ _ _
  refine WC.seq (WC.seq (WC.region ?_))
  refine lr 9 rfl (by exact sideR) ?_
  refine WL.nil (WQ.thenNormal ?_)
  refine WC.cond rfl (fun hc1 => ?_) (fun hc1 => ?_)
  ·replace h := ite_t hc1 h
   refine WC.seq (WC.region ?_)
   refine lr 1 rfl trivial ?_
   refine WL.nil (WQ.thenNormal (WC.ret (WQ.thenRet ?_)))
   cases h
   exact WQ.rets tbOk hR [] (.inl rfl) rfl rfl (Le.refl _) (by exact trivial) rfl rfl rfl rfl
  ·replace h := ite_f hc1 h
   refine WC.skip (WQ.thenNormal (WC.seq (WC.region ?_)))
   refine lr 3 rfl trivial ?_
   refine WL.nil (WQ.thenNormal (WC.ret ?_))
   cases h
   exact WQ.rets tbOk hR [] (.inl rfl) rfl rfl (Le.refl _) (by exact trivial) rfl rfl rfl rfl

theorem isCapital_con {wg : World} (hw : WG wg) {c : Int} {r : Bool} (h : isCapital c = some r) : Con Tryz.prog wg gl 85 [.v (.int .u8 c)] [] (.v (.bool r)) [] := by
 unfold isCapital at h
 refine con_of_WC (S := slotsOf 0 _) Tryz.func85 rfl Tryz.ntmps85 rfl (fun t x hx => (slotsOf_get hx).2) ?_
 intro F L w ρ0 R hR
 show WC _ _ _ ⟨[(0, .v (.int .u8 c))], []⟩ _ _
 refine WC.seq (WC.region ?_)
 refine lr 1 rfl trivial ?_
 refine WL.nil (WQ.thenNormal (WC.seq (WC.region ?_)))
 refine lr 7 rfl (by exact sideR) ?_
 refine WL.nil (WQ.thenNormal (WC.ret ?_))
 cases h
 exact WQ.rets tbOk hR [] (.inl rfl) rfl rfl (Le.refl _) (by exact trivial) rfl rfl rfl rfl

theorem validCountry_con {wg : World} (hw : WG wg) {s : Str} {r : Bool} (h : validCountry s = some r) : Con Tryz.prog wg gl 58 [.v (.str s)] [] (.v (.bool r)) [] := by
 unfold validCountry at h
 refine con_of_WC (S := slotsOf 0 _) Tryz.func58 rfl Tryz.ntmps58 rfl (fun t x hx => (slotsOf_get hx).2) ?_
 intro F L w ρ0 R hR
 show WC _ _ _ ⟨[(0, .v (.str s))], []⟩ _ _
 refine WC.seq (WC.region ?_)
 refine lr 1 rfl trivial ?_
 refine WL.nil (WQ.thenNormal (WC.seq (WC.region ?_)))
 obtain ⟨g1, h⟩ := grd h
 refine lr 6 rfl (by repeat' (first | exact trivial | assumption | intro _ | exact g1 (by assumption) | apply And.intro | exact sideT | (refine and_i ?_ ?_))) ?_
 replace h := bnd h; obtain ⟨v, hvv, h⟩ := h
 refine WL.gcall0 fn85 rfl rfl rfl rfl rfl (fun _ => (by exact sideR)) rfl (fun hg => (isCapital_con hw (ite_t hg hvv))) ?_
 obtain ⟨g2, h⟩ := grd h
 refine lr 4 rfl (by repeat' (first | exact trivial | assumption | intro _ | exact g2 (by assumption) | apply And.intro | exact sideT | (refine and_i ?_ ?_))) ?_
 replace h := bnd h; obtain ⟨v2, hvv2, h⟩ := h
 refine WL.gcall0 fn85 rfl rfl rfl rfl rfl (fun _ => (by exact sideR)) rfl (fun hg => (isCapital_con hw (ite_t hg hvv2))) ?_
 refine lr 2 rfl (by exact sideR) ?_
 refine WL.nil (WQ.thenNormal (WC.ret ?_))
 cases h
 exact WQ.rets tbOk hR [] (.inl rfl) rfl rfl (Le.refl _) (by exact trivial) rfl rfl rfl rfl

theorem refCountry_con {wg : World} (hw : WG wg) {s : Str} {r : Bool} (h : refCountry s = some r) : Con Tryz.prog wg gl 60 [.v (.str s)] [] (.v (.bool r)) [] := by
 unfold refCountry at h
 refine con_of_WC (S := slotsOf 0 _) Tryz.func60 rfl Tryz.ntmps60 rfl (fun t x hx => (slotsOf_get hx).2) ?_
 intro F L w ρ0 R hR
 show WC _ _ _ ⟨[(0, .v (.str s))], []⟩ _ _
 refine WC.seq (WC.region ?_)
 refine lr 1 rfl trivial ?_
 refine WL.nil (WQ.thenNormal (WC.seq (WC.region ?_)))
 obtain ⟨g1, h⟩ := grd h
 obtain ⟨g2, h⟩ := grd h
 obtain ⟨g3, h⟩ := grd h
 obtain ⟨g4, h⟩ := grd h
 refine lr 24 rfl (by repeat' (first | exact trivial | assumption | intro _ | exact g1 (by assumption) | exact g2 (by assumption) | exact g3 (by assumption) | exact g4 (by assumption) | apply And.intro | exact sideT | (refine and_i ?_ ?_))) ?_
 refine WL.nil (WQ.thenNormal (WC.ret ?_))
 cases h
 exact WQ.rets tbOk hR [] (.inl rfl) rfl rfl (Le.refl _) (by exact trivial) rfl rfl rfl rfl

theorem validOrigins_con {wg : World} (hw : WG wg) {l : (List Str)} {r : Bool} (h : validOrigins l = some r) : Con Tryz.prog wg gl 32 [.v (.sl 1 (l.map eStr))] [] (.v (.bool r)) [] := by
 unfold validOrigins at h
 refine con_of_WC (S := slotsOf 0 _) Tryz.func32 rfl Tryz.ntmps32 rfl (fun t x hx => (slotsOf_get hx).2) ?_
 intro F L w ρ0 R hR
 show WC _ _ _ ⟨[(0, .v (.sl 1 (l.map eStr)))], []⟩ _ _
 refine WC.seq (WC.region ?_)
 refine lr 1 rfl trivial ?_
 refine WL.nil (WQ.thenNormal (WC.seq (WC.seq (WC.region ?_))))
 refine lr 1 rfl trivial ?_
 refine WL.q [] rfl rfl rfl (q_ev tbOk (.v (.int .i64 (l.length : Int))) rfl (by exact trivial) (by exact lenT)) ?_
 refine lr 1 rfl trivial ?_
 refine WL.nil (WQ.thenNormal ?_)
 refine WC.thenCut (X := Unit) (fun gG => ⟨[], []⟩) (fun gG => validOrigins_j1  = some r) ?_ ?_
 ·refine WC.block ?_
  obtain ⟨eQ1, hl1, hk1⟩ := bnd h
  clear h
  refine WC.loop (σ := Int) (τ := ((Bool) ⊕ (Unit))) (fun sS => ⟨[(7, .v (.int .i64 sS)), (6, .v (.int .i64 (l.length : Int))), (5, .v (.sl 1 (l.map eStr))), (0, .v (.sl 1 (l.map eStr)))], []⟩) (validOrigins_b1 l) [] (0 : Int) hl1 ⟨(by exact ⟨rfl, rfl, rfl, rfl, trivial⟩), (by exact trivial), rfl, rfl, rfl, rfl⟩ ?_
  intro t7 m hn1 he1 hx1
  obtain ⟨o1, hf1⟩ := some_of hx1
  have h := hf1
  unfold validOrigins_b1 at h
  show WC _ _ _ ⟨[(7, .v (.int .i64 t7)), (6, .v (.int .i64 (l.length : Int))), (5, .v (.sl 1 (l.map eStr))), (0, .v (.sl 1 (l.map eStr)))], []⟩ _ _
  refine WC.seq (WC.region ?_)
  refine lr 1 rfl trivial ?_
  refine WL.nil (WQ.thenNormal (WC.seq ?_))
  refine WC.cond rfl (fun hc1 => ?_) (fun hc1 => ?_)
  ·replace h := ite_t hc1 h
   refine WC.skip (WQ.thenNormal (WC.seq (WC.block (WC.seq (WC.region ?_)))))
   refine lr 1 rfl trivial ?_
   obtain ⟨g1, h⟩ := grd h
   replace h := bnd h; obtain ⟨x2, hxx2, h⟩ := h
   refine WL.q [] rfl rfl rfl (q_idx tbOk rfl (by exact trivial) g1 (map_get (f := eStr) hxx2)) ?_
   refine lr 3 rfl trivial ?_
   refine WL.nil (WQ.thenNormal (WC.seq (WC.region ?_)))
   refine lr 1 rfl trivial ?_
   replace h := bnd h; obtain ⟨v2, hvv2, h⟩ := h
   refine WL.call0 fn58 rfl rfl rfl rfl (by exact trivial) rfl (validCountry_con hw hvv2) ?_
   refine lr 9 rfl (by exact sideR) ?_
   obtain ⟨g2, h⟩ := grd h
   refine WL.gq [] rfl rfl rfl rfl (fun hg => q_idx tbOk rfl (by exact sideR) (g2 hg).1 (map_getD (f := eStr) (g2 hg).2 (g2 hg).1)) ?_
   refine lr 4 rfl (by exact sideR) ?_
   refine WL.nil (WQ.thenNormal ?_)
   refine WC.cond rfl (fun hc2 => ?_) (fun hc2 => ?_)
   ·replace h := ite_t hc2 h
    refine WC.seq (WC.region ?_)
    refine lr 1 rfl trivial ?_
    refine WL.nil (WQ.thenNormal (WC.ret (WQ.blockRet (WQ.thenRet ?_))))
    cases h
    have he := he1 _ hf1
    subst he
    have h : some false = some _ := hk1
    refine WQ.thenRet (WQ.blockRet (WQ.thenRet ?_))
    cases h
    exact WQ.rets tbOk hR [] (.inl rfl) rfl rfl (Le.refl _) (by exact trivial) rfl rfl rfl rfl
   ·replace h := ite_f hc2 h
    refine WC.skip (WQ.blockNormal (WQ.thenNormal (WC.region ?_)))
    refine lr 2 rfl trivial ?_
    refine WL.nil ?_
    cases h
    exact WQ.next [] (IntKind.i64.wrap (t7 + (1 : Int))) ⟨(by exact ⟨rfl, rfl, rfl, rfl, trivial⟩), (by exact trivial), rfl, rfl, rfl, rfl⟩ (hn1 _ hf1)
  ·replace h := ite_f hc1 h
   refine WC.exit (WQ.thenExit ?_)
   cases h
   have he := he1 _ hf1
   subst he
   replace h := hk1
   try dsimp only at h
   refine WQ.thenExit (WQ.blockExit ?_)
   exact WQ.cut [] () ⟨(by exact trivial), (by exact trivial), rfl, rfl, rfl, rfl⟩ h
 ·intro _ h
  replace h : validOrigins_j1 = some _ := h
  unfold validOrigins_j1 at h
  show WC _ _ _ ⟨[], []⟩ _ _
  refine WC.seq (WC.region ?_)
  refine lr 1 rfl trivial ?_
  refine WL.nil (WQ.thenNormal (WC.ret ?_))
  cases h
  exact WQ.rets tbOk hR [] (.inl rfl) rfl rfl (Le.refl _) (by exact trivial) rfl rfl rfl rfl

theorem meValidate_con {wg : World} (hw : WG wg) {l : (List ApiMeasure)} {r : Int} (h : meValidate l = some r) : Con Tryz.prog wg gl 12 [.v (.sl 15 (l.map eApiMeasure))] [] (.v (.int .i64 r)) [] := by
 unfold meValidate at h
 refine con_of_WC (S := slotsOf 0 _) Tryz.func12 rfl Tryz.ntmps12 rfl (fun t x hx => (slotsOf_get hx).2) ?_
 intro F L w ρ0 R hR
 show WC _ _ _ ⟨[(0, .v (.sl 15 (l.map eApiMeasure)))], []⟩ _ _
 refine WC.seq (WC.region ?_)
 refine lr 1 rfl trivial ?_
 refine WL.nil (WQ.thenNormal (WC.seq (WC.seq (WC.region ?_))))
 refine lr 1 rfl trivial ?_
 refine WL.q [] rfl rfl rfl (q_ev tbOk (.v (.int .i64 (l.length : Int))) rfl (by exact trivial) (by exact lenT)) ?_
 refine lr 1 rfl trivial ?_
 refine WL.nil (WQ.thenNormal ?_)
 refine WC.cond rfl (fun hc1 => ?_) (fun hc1 => ?_)
 ·replace h := ite_t hc1 h
  refine WC.seq (WC.region ?_)
  refine lr 1 rfl trivial ?_
  refine WL.nil (WQ.thenNormal (WC.ret (WQ.thenRet ?_)))
  cases h
  exact WQ.rets tbOk hR [] (.inl rfl) rfl rfl (Le.refl _) (by exact trivial) rfl rfl rfl rfl
 ·replace h := ite_f hc1 h
  refine WC.skip (WQ.thenNormal (WC.seq (WC.seq (WC.region ?_))))
  refine lr 1 rfl trivial ?_
  refine WL.q [] rfl rfl rfl (q_ev tbOk (.v (.int .i64 (l.length : Int))) rfl (by exact trivial) (by exact lenT)) ?_
  refine lr 1 rfl trivial ?_
  refine WL.nil (WQ.thenNormal ?_)
  refine WC.thenCut (X := Unit) (fun gG => ⟨[], []⟩) (fun gG => meValidate_j1  = some r) ?_ ?_
  ·refine WC.block ?_
   obtain ⟨eQ1, hl1, hk1⟩ := bnd h
   clear h
   refine WC.loop (σ := Int) (τ := ((Int) ⊕ (Unit))) (fun sS => ⟨[(11, .v (.int .i64 sS)), (10, .v (.int .i64 (l.length : Int))), (9, .v (.sl 15 (l.map eApiMeasure))), (0, .v (.sl 15 (l.map eApiMeasure)))], []⟩) (meValidate_b1 l) [] (0 : Int) hl1 ⟨(by exact ⟨rfl, rfl, rfl, rfl, trivial⟩), (by exact trivial), rfl, rfl, rfl, rfl⟩ ?_
   intro t11 m hn1 he1 hx1
   obtain ⟨o1, hf1⟩ := some_of hx1
   have h := hf1
   unfold meValidate_b1 at h
   show WC _ _ _ ⟨[(11, .v (.int .i64 t11)), (10, .v (.int .i64 (l.length : Int))), (9, .v (.sl 15 (l.map eApiMeasure))), (0, .v (.sl 15 (l.map eApiMeasure)))], []⟩ _ _
   refine WC.seq (WC.region ?_)
   refine lr 1 rfl trivial ?_
   refine WL.nil (WQ.thenNormal (WC.seq ?_))
   refine WC.cond rfl (fun hc2 => ?_) (fun hc2 => ?_)
   ·replace h := ite_t hc2 h
    refine WC.skip (WQ.thenNormal (WC.seq (WC.block (WC.seq (WC.region ?_)))))
    refine lr 1 rfl trivial ?_
    obtain ⟨g1, h⟩ := grd h
    replace h := bnd h; obtain ⟨x2, hxx2, h⟩ := h
    refine WL.q [] rfl rfl rfl (q_idx tbOk rfl (by exact trivial) g1 (map_get (f := eApiMeasure) hxx2)) ?_
    refine lr 4 rfl trivial ?_
    refine WL.nil (WQ.thenNormal (WC.seq (WC.seq (WC.region ?_))))
    refine lr 28 rfl (by exact sideR) ?_
    refine WL.nil (WQ.thenNormal ?_)
    refine WC.cond rfl (fun hc3 => ?_) (fun hc3 => ?_)
    ·replace h := ite_t hc3 h
     refine WC.seq (WC.region ?_)
     refine lr 1 rfl trivial ?_
     refine WL.nil (WQ.thenNormal (WC.ret (WQ.thenRet (WQ.blockRet (WQ.thenRet ?_)))))
     cases h
     have he := he1 _ hf1
     subst he
     have h : some (2 : Int) = some _ := hk1
     refine WQ.thenRet (WQ.blockRet (WQ.thenRet ?_))
     cases h
     exact WQ.rets tbOk hR [] (.inl rfl) rfl rfl (Le.refl _) (by exact trivial) rfl rfl rfl rfl
    ·replace h := ite_f hc3 h
     refine WC.skip (WQ.thenNormal (WC.seq (WC.seq (WC.order mixed ?_))))
     refine wr 8 rfl (by exact sideR) ?_
     obtain ⟨g2, h⟩ := grd h
     refine WR.gq [] rfl rfl rfl rfl (fun hg => q_idx tbOk rfl (by exact sideR) (g2 hg).1 (map_getD (f := eApiMeasure) (g2 hg).2 (g2 hg).1)) ?_
     refine wr 4 rfl (by exact sideR) ?_
     refine WR.nil (by kernel_rfl) (WQ.thenNormal ?_)
     refine WC.cond rfl (fun hc4 => ?_) (fun hc4 => ?_)
     ·replace h := ite_t hc4 h
      refine WC.seq (WC.region ?_)
      refine lr 1 rfl trivial ?_
      refine WL.nil (WQ.thenNormal (WC.ret (WQ.thenRet (WQ.blockRet (WQ.thenRet ?_)))))
      cases h
      have he := he1 _ hf1
      subst he
      have h : some (9 : Int) = some _ := hk1
      refine WQ.thenRet (WQ.blockRet (WQ.thenRet ?_))
      cases h
      exact WQ.rets tbOk hR [] (.inl rfl) rfl rfl (Le.refl _) (by exact trivial) rfl rfl rfl rfl
     ·replace h := ite_f hc4 h
      refine WC.skip (WQ.thenNormal (WC.seq (WC.seq (WC.region ?_))))
      refine lr 2 rfl trivial ?_
      replace h := bnd h; obtain ⟨v4, hvv4, h⟩ := h
      refine WL.call0 fn31 rfl rfl rfl rfl (by exact trivial) rfl (nomLevel_con hw hvv4) ?_
      refine lr 1 rfl trivial ?_
      refine WL.nil (WQ.thenNormal ?_)
      refine WC.cond rfl (fun hc5 => ?_) (fun hc5 => ?_)
      ·replace h := ite_t hc5 h
       refine WC.seq (WC.region ?_)
       refine lr 1 rfl trivial ?_
       refine WL.nil (WQ.thenNormal (WC.ret (WQ.thenRet (WQ.blockRet (WQ.thenRet ?_)))))
       cases h
       have he := he1 _ hf1
       subst he
       have h : some (1 : Int) = some _ := hk1
       refine WQ.thenRet (WQ.blockRet (WQ.thenRet ?_))
       cases h
       exact WQ.rets tbOk hR [] (.inl rfl) rfl rfl (Le.refl _) (by exact trivial) rfl rfl rfl rfl
      ·replace h := ite_f hc5 h
       refine WC.skip (WQ.thenNormal (WC.seq (WC.seq (WC.region ?_))))
       refine lr 2 rfl trivial ?_
       refine WL.q [] rfl rfl rfl (q_ev tbOk (.v (.int .i64 (x2.Origins.length : Int))) rfl (by exact trivial) (by exact lenT)) ?_
       refine lr 1 rfl trivial ?_
       refine WL.nil (WQ.thenNormal ?_)
       refine WC.cond rfl (fun hc6 => ?_) (fun hc6 => ?_)
       ·replace h := ite_t hc6 h
        refine WC.seq (WC.region ?_)
        refine lr 1 rfl trivial ?_
        refine WL.nil (WQ.thenNormal (WC.ret (WQ.thenRet (WQ.blockRet (WQ.thenRet ?_)))))
        cases h
        have he := he1 _ hf1
        subst he
        have h : some (8 : Int) = some _ := hk1
        refine WQ.thenRet (WQ.blockRet (WQ.thenRet ?_))
        cases h
        exact WQ.rets tbOk hR [] (.inl rfl) rfl rfl (Le.refl _) (by exact trivial) rfl rfl rfl rfl
       ·replace h := ite_f hc6 h
        refine WC.skip (WQ.thenNormal (WC.seq (WC.seq (WC.region ?_))))
        refine lr 2 rfl trivial ?_
        replace h := bnd h; obtain ⟨v5, hvv5, h⟩ := h
        refine WL.call0 fn32 rfl rfl rfl rfl (by exact trivial) rfl (validOrigins_con hw hvv5) ?_
        refine lr 1 rfl trivial ?_
        refine WL.nil (WQ.thenNormal ?_)
        refine WC.cond rfl (fun hc7 => ?_) (fun hc7 => ?_)
        ·replace h := ite_t hc7 h
         refine WC.seq (WC.region ?_)
         refine lr 1 rfl trivial ?_
         refine WL.nil (WQ.thenNormal (WC.ret (WQ.thenRet (WQ.blockRet (WQ.thenRet ?_)))))
         cases h
         have he := he1 _ hf1
         subst he
         have h : some (1 : Int) = some _ := hk1
         refine WQ.thenRet (WQ.blockRet (WQ.thenRet ?_))
         cases h
         exact WQ.rets tbOk hR [] (.inl rfl) rfl rfl (Le.refl _) (by exact trivial) rfl rfl rfl rfl
        ·replace h := ite_f hc7 h
         refine WC.skip (WQ.thenNormal (WC.seq (WC.seq (WC.region ?_))))
         refine lr 27 rfl (by exact sideR) ?_
         refine WL.nil (WQ.thenNormal ?_)
         refine WC.cond rfl (fun hc8 => ?_) (fun hc8 => ?_)
         ·replace h := ite_t hc8 h
          refine WC.seq (WC.region ?_)
          refine lr 1 rfl trivial ?_
          refine WL.nil (WQ.thenNormal (WC.ret (WQ.thenRet (WQ.blockRet (WQ.thenRet ?_)))))
          cases h
          have he := he1 _ hf1
          subst he
          have h : some (2 : Int) = some _ := hk1
          refine WQ.thenRet (WQ.blockRet (WQ.thenRet ?_))
          cases h
          exact WQ.rets tbOk hR [] (.inl rfl) rfl rfl (Le.refl _) (by exact trivial) rfl rfl rfl rfl
         ·replace h := ite_f hc8 h
          refine WC.skip (WQ.thenNormal (WC.seq (WC.region ?_)))
          refine lr 2 rfl trivial ?_
          replace h := bnd h; obtain ⟨v6, hvv6, h⟩ := h
          refine WL.call0 fn33 rfl rfl rfl rfl (by exact trivial) rfl (dutyValidate_con hw hvv6) ?_
          refine lr 1 rfl trivial ?_
          refine WL.nil (WQ.thenNormal (WC.seq (WC.region ?_)))
          refine lr 2 rfl trivial ?_
          refine WL.nil (WQ.thenNormal ?_)
          refine WC.cond rfl (fun hc9 => ?_) (fun hc9 => ?_)
          ·replace h := ite_t hc9 h
           refine WC.seq (WC.region ?_)
           refine lr 2 rfl trivial ?_
           refine WL.nil (WQ.thenNormal (WC.ret (WQ.blockRet (WQ.thenRet ?_))))
           cases h
           have he := he1 _ hf1
           subst he
           have h : some v6 = some _ := hk1
           refine WQ.thenRet (WQ.blockRet (WQ.thenRet ?_))
           cases h
           exact WQ.rets tbOk hR [] (.inl rfl) rfl rfl (Le.refl _) (by exact trivial) rfl rfl rfl rfl
          ·replace h := ite_f hc9 h
           refine WC.skip (WQ.blockNormal (WQ.thenNormal (WC.region ?_)))
           refine lr 2 rfl trivial ?_
           refine WL.nil ?_
           cases h
           exact WQ.next [] (IntKind.i64.wrap (t11 + (1 : Int))) ⟨(by exact ⟨rfl, rfl, rfl, rfl, trivial⟩), (by exact trivial), rfl, rfl, rfl, rfl⟩ (hn1 _ hf1)
   ·replace h := ite_f hc2 h
    refine WC.exit (WQ.thenExit ?_)
    cases h
    have he := he1 _ hf1
    subst he
    replace h := hk1
    try dsimp only at h
    refine WQ.thenExit (WQ.blockExit ?_)
    exact WQ.cut [] () ⟨(by exact trivial), (by exact trivial), rfl, rfl, rfl, rfl⟩ h
  ·intro _ h
   replace h : meValidate_j1 = some _ := h
   unfold meValidate_j1 at h
   show WC _ _ _ ⟨[], []⟩ _ _
   refine WC.seq (WC.region ?_)
   refine lr 1 rfl trivial ?_
   refine WL.nil (WQ.thenNormal (WC.ret ?_))
   cases h
   exact WQ.rets tbOk hR [] (.inl rfl) rfl rfl (Le.refl _) (by exact trivial) rfl rfl rfl rfl

theorem refOne_con {wg : World} (hw : WG wg) {m1 : ApiMeasure} {r : Int × Bool} (h : refOne m1 = some r) : Con Tryz.prog wg gl 34 [.v (.agg [.int .i64 m1.ID, .int .i64 m1.Kind, .str m1.Prefix, .sl 1 (m1.Origins.map eStr), .int .i64 m1.Company, .int .i64 m1.From, .int .i64 m1.To, .int .i64 m1.Registered, .int .i64 m1.Duty.Rate, .int .i64 m1.Duty.Amount, .int .i64 m1.Duty.Per, .bool m1.Duty.HasMost, .int .i64 m1.Duty.Most, .bool m1.Duty.HasLeast, .int .i64 m1.Duty.Least])] [] (.tup [.v (.int .i64 r.1), .v (.bool r.2)]) [] := by
 unfold refOne at h
 refine con_of_WC (S := slotsOf 0 _) Tryz.func34 rfl Tryz.ntmps34 rfl (fun t x hx => (slotsOf_get hx).2) ?_
 intro F L w ρ0 R hR
 show WC _ _ _ ⟨[(0, .v (.agg [.int .i64 m1.ID, .int .i64 m1.Kind, .str m1.Prefix, .sl 1 (m1.Origins.map eStr), .int .i64 m1.Company, .int .i64 m1.From, .int .i64 m1.To, .int .i64 m1.Registered, .int .i64 m1.Duty.Rate, .int .i64 m1.Duty.Amount, .int .i64 m1.Duty.Per, .bool m1.Duty.HasMost, .int .i64 m1.Duty.Most, .bool m1.Duty.HasLeast, .int .i64 m1.Duty.Least]))], []⟩ _ _
 refine WC.seq (WC.region ?_)
 refine lr 3 rfl trivial ?_
 refine WL.nil (WQ.thenNormal (WC.seq (WC.region ?_)))
 refine lr 29 rfl (by exact sideR) ?_
 refine WL.nil (WQ.thenNormal (WC.seq (WC.seq (WC.region ?_))))
 refine lr 1 rfl trivial ?_
 refine WL.nil (WQ.thenNormal ?_)
 refine WC.cond rfl (fun hc1 => ?_) (fun hc1 => ?_)
 ·replace h := ite_t hc1 h
  refine WC.seq (WC.region ?_)
  refine lr 2 rfl trivial ?_
  refine WL.nil (WQ.thenNormal (WC.ret (WQ.thenRet ?_)))
  cases h
  exact WQ.rets tbOk (r := .tup [.v (.int .i64 (2 : Int)), .v (.bool false)]) hR [] (.inl rfl) rfl rfl (Le.tup (.cons (Le.refl _) (.cons (Le.refl _) .nil))) (by exact trivial) rfl rfl rfl rfl
 ·replace h := ite_f hc1 h
  refine WC.skip (WQ.thenNormal (WC.seq (WC.seq (WC.region ?_))))
  refine lr 2 rfl trivial ?_
  replace h := bnd h; obtain ⟨v, hvv, h⟩ := h
  refine WL.call0 fn59 rfl rfl rfl rfl (by exact trivial) rfl (refLevel_con hw hvv) ?_
  refine lr 1 rfl trivial ?_
  refine WL.nil (WQ.thenNormal ?_)
  refine WC.cond rfl (fun hc2 => ?_) (fun hc2 => ?_)
  ·replace h := ite_t hc2 h
   refine WC.seq (WC.region ?_)
   refine lr 2 rfl trivial ?_
   refine WL.nil (WQ.thenNormal (WC.ret (WQ.thenRet ?_)))
   cases h
   exact WQ.rets tbOk (r := .tup [.v (.int .i64 (1 : Int)), .v (.bool false)]) hR [] (.inl rfl) rfl rfl (Le.tup (.cons (Le.refl _) (.cons (Le.refl _) .nil))) (by exact trivial) rfl rfl rfl rfl
  ·replace h := ite_f hc2 h
   refine WC.skip (WQ.thenNormal (WC.seq (WC.seq (WC.region ?_))))
   refine lr 2 rfl trivial ?_
   refine WL.q [] rfl rfl rfl (q_ev tbOk (.v (.int .i64 (m1.Origins.length : Int))) rfl (by exact trivial) (by exact lenT)) ?_
   refine lr 1 rfl trivial ?_
   refine WL.nil (WQ.thenNormal ?_)
   refine WC.cond rfl (fun hc3 => ?_) (fun hc3 => ?_)
   ·replace h := ite_t hc3 h
    refine WC.seq (WC.region ?_)
    refine lr 2 rfl trivial ?_
    refine WL.nil (WQ.thenNormal (WC.ret (WQ.thenRet ?_)))
    cases h
    exact WQ.rets tbOk (r := .tup [.v (.int .i64 (8 : Int)), .v (.bool false)]) hR [] (.inl rfl) rfl rfl (Le.tup (.cons (Le.refl _) (.cons (Le.refl _) .nil))) (by exact trivial) rfl rfl rfl rfl
   ·replace h := ite_f hc3 h
    refine WC.skip (WQ.thenNormal (WC.seq (WC.seq (WC.region ?_))))
    refine lr 1 rfl trivial ?_
    refine WL.nil (WQ.thenNormal ?_)
    refine WC.thenCut (X := Unit) (fun gG => ⟨[(1, .p 1 0)], [(1, .blk 34 [.v (.int .i64 m1.ID), .v (.int .i64 m1.Kind), .v (.str m1.Prefix), .v (.sl 1 (m1.Origins.map eStr)), .v (.int .i64 m1.Company), .v (.int .i64 m1.From), .v (.int .i64 m1.To), .v (.int .i64 m1.Registered), .v (.int .i64 m1.Duty.Rate), .v (.int .i64 m1.Duty.Amount), .v (.int .i64 m1.Duty.Per), .v (.bool m1.Duty.HasMost), .v (.int .i64 m1.Duty.Most), .v (.bool m1.Duty.HasLeast), .v (.int .i64 m1.Duty.Least)])]⟩) (fun gG => refOne_j1 m1 = some r) ?_ ?_
    ·refine WC.block ?_
     obtain ⟨eQ1, hl1, hk1⟩ := bnd h
     clear h
     refine WC.loop (σ := Int) (τ := ((Int × Bool) ⊕ (Unit))) (fun sS => ⟨[(5, .v (.int .i64 sS)), (1, .p 1 0)], [(1, .blk 34 [.v (.int .i64 m1.ID), .v (.int .i64 m1.Kind), .v (.str m1.Prefix), .v (.sl 1 (m1.Origins.map eStr)), .v (.int .i64 m1.Company), .v (.int .i64 m1.From), .v (.int .i64 m1.To), .v (.int .i64 m1.Registered), .v (.int .i64 m1.Duty.Rate), .v (.int .i64 m1.Duty.Amount), .v (.int .i64 m1.Duty.Per), .v (.bool m1.Duty.HasMost), .v (.int .i64 m1.Duty.Most), .v (.bool m1.Duty.HasLeast), .v (.int .i64 m1.Duty.Least)])]⟩) (refOne_b1 m1) [] (0 : Int) hl1 ⟨(by exact ⟨rfl, rfl, trivial⟩), (by exact ⟨rfl, trivial⟩), rfl, rfl, rfl, rfl⟩ ?_
     intro i m hn1 he1 hx1
     obtain ⟨o1, hf1⟩ := some_of hx1
     have h := hf1
     unfold refOne_b1 at h
     show WC _ _ _ ⟨[(5, .v (.int .i64 i)), (1, .p 1 0)], [(1, .blk 34 [.v (.int .i64 m1.ID), .v (.int .i64 m1.Kind), .v (.str m1.Prefix), .v (.sl 1 (m1.Origins.map eStr)), .v (.int .i64 m1.Company), .v (.int .i64 m1.From), .v (.int .i64 m1.To), .v (.int .i64 m1.Registered), .v (.int .i64 m1.Duty.Rate), .v (.int .i64 m1.Duty.Amount), .v (.int .i64 m1.Duty.Per), .v (.bool m1.Duty.HasMost), .v (.int .i64 m1.Duty.Most), .v (.bool m1.Duty.HasLeast), .v (.int .i64 m1.Duty.Least)])]⟩ _ _
     refine WC.seq (WC.seq (WC.region ?_))
     refine lr 3 rfl trivial ?_
     refine WL.q [] rfl rfl rfl (q_ev tbOk (.v (.int .i64 (m1.Origins.length : Int))) rfl (by exact trivial) (by exact lenT)) ?_
     refine lr 1 rfl trivial ?_
     refine WL.nil (WQ.thenNormal ?_)
     refine WC.cond rfl (fun hc5 => ?_) (fun hc5 => ?_)
     ·replace h := ite_t hc5 h
      refine WC.skip (WQ.thenNormal (WC.seq (WC.block (WC.seq (WC.order mixed ?_)))))
      refine wr 3 rfl trivial ?_
      obtain ⟨g1, h⟩ := grd h
      replace h := bnd h; obtain ⟨x2, hxx2, h⟩ := h
      refine WR.q [] rfl rfl rfl (q_idx tbOk rfl (by exact trivial) g1 (map_get (f := eStr) hxx2)) ?_
      refine wr 1 rfl trivial ?_
      replace h := bnd h; obtain ⟨v4, hvv4, h⟩ := h
      refine WR.call0 fn60 rfl rfl rfl rfl (by exact trivial) rfl (refCountry_con hw hvv4) ?_
      refine wr 9 rfl (by exact sideR) ?_
      obtain ⟨g2, h⟩ := grd h
      refine WR.gq [] rfl rfl rfl rfl (fun hg => q_idx tbOk rfl (by exact sideR) (g2 hg).1 (map_getD (f := eStr) (g2 hg).2 (g2 hg).1)) ?_
      refine wr 4 rfl (by exact sideR) ?_
      obtain ⟨g3, h⟩ := grd h
      refine WR.gq [] rfl rfl rfl rfl (fun hg => q_idx tbOk rfl (by exact sideR) (g3 hg).1 (map_getD (f := eStr) (g3 hg).2 (g3 hg).1)) ?_
      refine wr 4 rfl (by exact sideR) ?_
      refine WR.nil (by kernel_rfl) (WQ.thenNormal ?_)
      refine WC.cond rfl (fun hc6 => ?_) (fun hc6 => ?_)
      ·replace h := ite_t hc6 h
       refine WC.seq (WC.region ?_)
       refine lr 2 rfl trivial ?_
       refine WL.nil (WQ.thenNormal (WC.ret (WQ.blockRet (WQ.thenRet ?_))))
       cases h
       have he := he1 _ hf1
       subst he
       have h : some ((1 : Int), false) = some _ := hk1
       refine WQ.thenRet (WQ.blockRet (WQ.thenRet ?_))
       cases h
       exact WQ.rets tbOk (r := .tup [.v (.int .i64 (1 : Int)), .v (.bool false)]) hR [] (.inl rfl) rfl rfl (Le.tup (.cons (Le.refl _) (.cons (Le.refl _) .nil))) (by exact trivial) rfl rfl rfl rfl
      ·replace h := ite_f hc6 h
       refine WC.skip (WQ.blockNormal (WQ.thenNormal (WC.region ?_)))
       refine lr 3 rfl trivial ?_
       refine WL.nil ?_
       cases h
       exact WQ.next [] (IntKind.i64.wrap (i + (1 : Int))) ⟨(by exact ⟨rfl, rfl, trivial⟩), (by exact ⟨rfl, trivial⟩), rfl, rfl, rfl, rfl⟩ (hn1 _ hf1)
     ·replace h := ite_f hc5 h
      refine WC.exit (WQ.thenExit ?_)
      cases h
      have he := he1 _ hf1
      subst he
      replace h := hk1
      try dsimp only at h
      refine WQ.thenExit (WQ.blockExit ?_)
      exact WQ.cut [] () ⟨(by exact ⟨rfl, trivial⟩), (by exact ⟨rfl, trivial⟩), rfl, rfl, rfl, rfl⟩ h
    ·intro _ h
     replace h : refOne_j1 m1 = some _ := h
     unfold refOne_j1 at h
     show WC _ _ _ ⟨[(1, .p 1 0)], [(1, .blk 34 [.v (.int .i64 m1.ID), .v (.int .i64 m1.Kind), .v (.str m1.Prefix), .v (.sl 1 (m1.Origins.map eStr)), .v (.int .i64 m1.Company), .v (.int .i64 m1.From), .v (.int .i64 m1.To), .v (.int .i64 m1.Registered), .v (.int .i64 m1.Duty.Rate), .v (.int .i64 m1.Duty.Amount), .v (.int .i64 m1.Duty.Per), .v (.bool m1.Duty.HasMost), .v (.int .i64 m1.Duty.Most), .v (.bool m1.Duty.HasLeast), .v (.int .i64 m1.Duty.Least)])]⟩ _ _
     refine WC.seq (WC.seq (WC.region ?_))
     refine lr 27 rfl (by exact sideR) ?_
     refine WL.nil (WQ.thenNormal ?_)
     refine WC.cond rfl (fun hc4 => ?_) (fun hc4 => ?_)
     ·replace h := ite_t hc4 h
      refine WC.seq (WC.region ?_)
      refine lr 2 rfl trivial ?_
      refine WL.nil (WQ.thenNormal (WC.ret (WQ.thenRet ?_)))
      cases h
      exact WQ.rets tbOk (r := .tup [.v (.int .i64 (2 : Int)), .v (.bool false)]) hR [] (.inl rfl) rfl rfl (Le.tup (.cons (Le.refl _) (.cons (Le.refl _) .nil))) (by exact trivial) rfl rfl rfl rfl
     ·replace h := ite_f hc4 h
      refine WC.skip (WQ.thenNormal (WC.seq (WC.region ?_)))
      refine lr 2 rfl trivial ?_
      replace h := bnd h; obtain ⟨v2, hvv2, h⟩ := h
      refine WL.call0 fn61 rfl rfl rfl rfl (by exact trivial) rfl (refDuty_con hw hvv2) ?_
      refine lr 1 rfl trivial ?_
      refine WL.nil (WQ.thenNormal (WC.seq (WC.region ?_)))
      refine lr 5 rfl trivial ?_
      refine WL.nil (WQ.thenNormal (WC.ret ?_))
      cases h
      exact WQ.rets tbOk (r := .tup [.v (.int .i64 v2), .v (.bool (v2 == (0 : Int)))]) hR [] (.inl rfl) rfl rfl (Le.tup (.cons (Le.refl _) (.cons (Le.refl _) .nil))) (by exact trivial) rfl rfl rfl rfl

theorem refMeasures_con {wg : World} (hw : WG wg) {l : (List ApiMeasure)} {r : Int} (h : refMeasures l = some r) : Con Tryz.prog wg gl 13 [.v (.sl 15 (l.map eApiMeasure))] [] (.v (.int .i64 r)) [] := by
 unfold refMeasures at h
 refine con_of_WC (S := slotsOf 0 _) Tryz.func13 rfl Tryz.ntmps13 rfl (fun t x hx => (slotsOf_get hx).2) ?_
 intro F L w ρ0 R hR
 show WC _ _ _ ⟨[(0, .v (.sl 15 (l.map eApiMeasure)))], []⟩ _ _
 refine WC.seq (WC.region ?_)
 refine lr 1 rfl trivial ?_
 refine WL.nil (WQ.thenNormal (WC.seq (WC.seq (WC.region ?_))))
 refine lr 1 rfl trivial ?_
 refine WL.q [] rfl rfl rfl (q_ev tbOk (.v (.int .i64 (l.length : Int))) rfl (by exact trivial) (by exact lenT)) ?_
 refine lr 1 rfl trivial ?_
 refine WL.nil (WQ.thenNormal ?_)
 refine WC.cond rfl (fun hc1 => ?_) (fun hc1 => ?_)
 ·replace h := ite_t hc1 h
  refine WC.seq (WC.region ?_)
  refine lr 1 rfl trivial ?_
  refine WL.nil (WQ.thenNormal (WC.ret (WQ.thenRet ?_)))
  cases h
  exact WQ.rets tbOk hR [] (.inl rfl) rfl rfl (Le.refl _) (by exact trivial) rfl rfl rfl rfl
 ·replace h := ite_f hc1 h
  refine WC.skip (WQ.thenNormal (WC.seq (WC.seq (WC.region ?_))))
  refine lr 1 rfl trivial ?_
  refine WL.nil (WQ.thenNormal ?_)
  refine WC.thenCut (X := Unit) (fun gG => ⟨[], []⟩) (fun gG => refMeasures_j1  = some r) ?_ ?_
  ·refine WC.block ?_
   obtain ⟨eQ1, hl1, hk1⟩ := bnd h
   clear h
   refine WC.loop (σ := Int) (τ := ((Int) ⊕ (Unit))) (fun sS => ⟨[(3, .v (.int .i64 sS)), (0, .v (.sl 15 (l.map eApiMeasure)))], []⟩) (refMeasures_b1 l) [] (0 : Int) hl1 ⟨(by exact ⟨rfl, rfl, trivial⟩), (by exact trivial), rfl, rfl, rfl, rfl⟩ ?_
   intro i m hn1 he1 hx1
   obtain ⟨o1, hf1⟩ := some_of hx1
   have h := hf1
   unfold refMeasures_b1 at h
   show WC _ _ _ ⟨[(3, .v (.int .i64 i)), (0, .v (.sl 15 (l.map eApiMeasure)))], []⟩ _ _
   refine WC.seq (WC.seq (WC.region ?_))
   refine lr 2 rfl trivial ?_
   refine WL.q [] rfl rfl rfl (q_ev tbOk (.v (.int .i64 (l.length : Int))) rfl (by exact trivial) (by exact lenT)) ?_
   refine lr 1 rfl trivial ?_
   refine WL.nil (WQ.thenNormal ?_)
   refine WC.cond rfl (fun hc2 => ?_) (fun hc2 => ?_)
   ·replace h := ite_t hc2 h
    refine WC.skip (WQ.thenNormal (WC.seq (WC.block (WC.seq (WC.region ?_)))))
    refine lr 2 rfl trivial ?_
    obtain ⟨g1, h⟩ := grd h
    replace h := bnd h; obtain ⟨x2, hxx2, h⟩ := h
    refine WL.q [] rfl rfl rfl (q_idx tbOk rfl (by exact trivial) g1 (map_get (f := eApiMeasure) hxx2)) ?_
    refine lr 3 rfl trivial ?_
    refine WL.nil (WQ.thenNormal (WC.seq (WC.seq (WC.region ?_))))
    refine lr 28 rfl (by exact sideR) ?_
    refine WL.nil (WQ.thenNormal ?_)
    refine WC.cond rfl (fun hc3 => ?_) (fun hc3 => ?_)
    ·replace h := ite_t hc3 h
     refine WC.seq (WC.region ?_)
     refine lr 1 rfl trivial ?_
     refine WL.nil (WQ.thenNormal (WC.ret (WQ.thenRet (WQ.blockRet (WQ.thenRet ?_)))))
     cases h
     have he := he1 _ hf1
     subst he
     have h : some (2 : Int) = some _ := hk1
     refine WQ.thenRet (WQ.blockRet (WQ.thenRet ?_))
     cases h
     exact WQ.rets tbOk hR [] (.inl rfl) rfl rfl (Le.refl _) (by exact trivial) rfl rfl rfl rfl
    ·replace h := ite_f hc3 h
     refine WC.skip (WQ.thenNormal (WC.seq (WC.seq (WC.order mixed ?_))))
     refine wr 8 rfl (by exact sideR) ?_
     obtain ⟨g2, h⟩ := grd h
     refine WR.gq [] rfl rfl rfl rfl (fun hg => q_idx tbOk rfl (by exact sideR) (g2 hg).1 (map_getD (f := eApiMeasure) (g2 hg).2 (g2 hg).1)) ?_
     refine wr 4 rfl (by exact sideR) ?_
     refine WR.nil (by kernel_rfl) (WQ.thenNormal ?_)
     refine WC.cond rfl (fun hc4 => ?_) (fun hc4 => ?_)
     ·replace h := ite_t hc4 h
      refine WC.seq (WC.region ?_)
      refine lr 1 rfl trivial ?_
      refine WL.nil (WQ.thenNormal (WC.ret (WQ.thenRet (WQ.blockRet (WQ.thenRet ?_)))))
      cases h
      have he := he1 _ hf1
      subst he
      have h : some (9 : Int) = some _ := hk1
      refine WQ.thenRet (WQ.blockRet (WQ.thenRet ?_))
      cases h
      exact WQ.rets tbOk hR [] (.inl rfl) rfl rfl (Le.refl _) (by exact trivial) rfl rfl rfl rfl
     ·replace h := ite_f hc4 h
      refine WC.skip (WQ.thenNormal (WC.seq (WC.region ?_)))
      refine lr 1 rfl trivial ?_
      replace h := bnd h; obtain ⟨v2, hvv2, h⟩ := h
      refine WL.call0 fn34 rfl rfl rfl rfl (by exact trivial) rfl (refOne_con hw hvv2) ?_
      refine lr 5 rfl trivial ?_
      refine WL.nil (WQ.thenNormal (WC.seq (WC.region ?_)))
      refine lr 2 rfl trivial ?_
      refine WL.nil (WQ.thenNormal ?_)
      refine WC.cond rfl (fun hc5 => ?_) (fun hc5 => ?_)
      ·replace h := ite_t hc5 h
       refine WC.seq (WC.region ?_)
       refine lr 2 rfl trivial ?_
       refine WL.nil (WQ.thenNormal (WC.ret (WQ.blockRet (WQ.thenRet ?_))))
       cases h
       have he := he1 _ hf1
       subst he
       have h : some v2.1 = some _ := hk1
       refine WQ.thenRet (WQ.blockRet (WQ.thenRet ?_))
       cases h
       exact WQ.rets tbOk hR [] (.inl rfl) rfl rfl (Le.refl _) (by exact trivial) rfl rfl rfl rfl
      ·replace h := ite_f hc5 h
       refine WC.skip (WQ.blockNormal (WQ.thenNormal (WC.region ?_)))
       refine lr 3 rfl trivial ?_
       refine WL.nil ?_
       cases h
       exact WQ.next [] (IntKind.i64.wrap (i + (1 : Int))) ⟨(by exact ⟨rfl, rfl, trivial⟩), (by exact trivial), rfl, rfl, rfl, rfl⟩ (hn1 _ hf1)
   ·replace h := ite_f hc2 h
    refine WC.exit (WQ.thenExit ?_)
    cases h
    have he := he1 _ hf1
    subst he
    replace h := hk1
    try dsimp only at h
    refine WQ.thenExit (WQ.blockExit ?_)
    exact WQ.cut [] () ⟨(by exact trivial), (by exact trivial), rfl, rfl, rfl, rfl⟩ h
  ·intro _ h
   replace h : refMeasures_j1 = some _ := h
   unfold refMeasures_j1 at h
   show WC _ _ _ ⟨[], []⟩ _ _
   refine WC.seq (WC.region ?_)
   refine lr 1 rfl trivial ?_
   refine WL.nil (WQ.thenNormal (WC.ret ?_))
   cases h
   exact WQ.rets tbOk hR [] (.inl rfl) rfl rfl (Le.refl _) (by exact trivial) rfl rfl rfl rfl

end Go.Proofs.YtbilobjddflpeaaGreatDoor
