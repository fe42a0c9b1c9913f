/- Contracts: the program's functions compute the plain ones; by program (gen.py). -/
import Derived.Test.YtinickkcieecdaaGreatDoorLib
import Derived.Test.YtinickkcieecdaaGreatDoorPc
import Derived.Test.YtinickkcieecdaaGreatDoorCa
import Derived.Test.YtinickkcieecdaaGreatDoorCb
set_option linter.unusedVariables false
set_option linter.unusedSimpArgs false
set_option maxHeartbeats 4000000
set_option maxRecDepth 20000
namespace Go.Proofs.YtinickkcieecdaaGreatDoor
open Go.V Go.C

theorem moneyWithin_con {wg : World} (hw : WG wg) {low : Int} {high : Int} {l : (List Int)} {r : Bool} (h : moneyWithin low high l = some r) : Con Tryz.prog wg gl 69 [.v (.int .i64 low), .v (.int .i64 high), .v (.sl 1 (l.map eInt_i64))] [] (.v (.bool r)) [] := by
 unfold moneyWithin at h
 refine con_of_WC (S := slotsOf 0 _) Tryz.func69 rfl Tryz.ntmps69 rfl (fun t x hx => (slotsOf_get hx).2) ?_
 intro F L w ρ0 R hR
 show WC _ _ _ ⟨[(0, .v (.int .i64 low)), (1, .v (.int .i64 high)), (2, .v (.sl 1 (l.map eInt_i64)))], []⟩ _ _
 refine WC.seq (WC.region ?_)
 refine lr 1 rfl trivial ?_
 refine WL.nil (WQ.thenNormal (WC.seq (WC.seq (WC.region ?_))))
 refine lr 1 rfl trivial ?_
 refine WL.q [] rfl rfl rfl (q_ev tbOk (.v (.int .i64 (l.length : Int))) rfl (by exact trivial) (by exact lenT)) ?_
 refine lr 1 rfl trivial ?_
 refine WL.nil (WQ.thenNormal ?_)
 refine WC.thenCut (X := Unit) (fun gG => ⟨[], []⟩) (fun gG => moneyWithin_j1  = some r) ?_ ?_
 ·refine WC.block ?_
  obtain ⟨eQ1, hl1, hk1⟩ := bnd h
  clear h
  refine WC.loop (σ := Int) (τ := ((Bool) ⊕ (Unit))) (fun sS => ⟨[(11, .v (.int .i64 sS)), (10, .v (.int .i64 (l.length : Int))), (9, .v (.sl 1 (l.map eInt_i64))), (0, .v (.int .i64 low)), (1, .v (.int .i64 high))], []⟩) (moneyWithin_b1 low high l) [] (0 : Int) hl1 ⟨(by exact ⟨rfl, rfl, rfl, rfl, rfl, trivial⟩), (by exact trivial), rfl, rfl, rfl, rfl⟩ ?_
  intro t11 m hn1 he1 hx1
  obtain ⟨o1, hf1⟩ := some_of hx1
  have h := hf1
  unfold moneyWithin_b1 at h
  show WC _ _ _ ⟨[(11, .v (.int .i64 t11)), (10, .v (.int .i64 (l.length : Int))), (9, .v (.sl 1 (l.map eInt_i64))), (0, .v (.int .i64 low)), (1, .v (.int .i64 high))], []⟩ _ _
  refine WC.seq (WC.region ?_)
  refine lr 1 rfl trivial ?_
  refine WL.nil (WQ.thenNormal (WC.seq ?_))
  refine WC.cond rfl (fun hc1 => ?_) (fun hc1 => ?_)
  ·replace h := ite_t hc1 h
   refine WC.skip (WQ.thenNormal (WC.seq (WC.block (WC.seq (WC.region ?_)))))
   obtain ⟨g1, h⟩ := grd h
   replace h := bnd h; obtain ⟨x2, hxx2, h⟩ := h
   refine WL.q [] rfl rfl rfl (q_idx tbOk rfl (by exact trivial) g1 (map_get (f := eInt_i64) hxx2)) ?_
   refine lr 2 rfl trivial ?_
   refine WL.nil (WQ.thenNormal (WC.seq (WC.region ?_)))
   refine lr 8 rfl (by exact sideR) ?_
   refine WL.nil (WQ.thenNormal ?_)
   refine WC.cond rfl (fun hc2 => ?_) (fun hc2 => ?_)
   ·replace h := ite_t hc2 h
    refine WC.seq (WC.region ?_)
    refine lr 1 rfl trivial ?_
    refine WL.nil (WQ.thenNormal (WC.ret (WQ.blockRet (WQ.thenRet ?_))))
    cases h
    have he := he1 _ hf1
    subst he
    have h : some false = some _ := hk1
    refine WQ.thenRet (WQ.blockRet (WQ.thenRet ?_))
    cases h
    exact WQ.rets tbOk hR [] (.inl rfl) rfl rfl (Le.refl _) (by exact trivial) rfl rfl rfl rfl
   ·replace h := ite_f hc2 h
    refine WC.skip (WQ.blockNormal (WQ.thenNormal (WC.region ?_)))
    refine lr 2 rfl trivial ?_
    refine WL.nil ?_
    cases h
    exact WQ.next [] (IntKind.i64.wrap (t11 + (1 : Int))) ⟨(by exact ⟨rfl, rfl, rfl, rfl, rfl, trivial⟩), (by exact trivial), rfl, rfl, rfl, rfl⟩ (hn1 _ hf1)
  ·replace h := ite_f hc1 h
   refine WC.exit (WQ.thenExit ?_)
   cases h
   have he := he1 _ hf1
   subst he
   replace h := hk1
   try dsimp only at h
   refine WQ.thenExit (WQ.blockExit ?_)
   exact WQ.cut [] () ⟨(by exact trivial), (by exact trivial), rfl, rfl, rfl, rfl⟩ h
 ·intro _ h
  replace h : moneyWithin_j1 = some _ := h
  unfold moneyWithin_j1 at h
  show WC _ _ _ ⟨[], []⟩ _ _
  refine WC.seq (WC.region ?_)
  refine lr 1 rfl trivial ?_
  refine WL.nil (WQ.thenNormal (WC.ret ?_))
  cases h
  exact WQ.rets tbOk hR [] (.inl rfl) rfl rfl (Le.refl _) (by exact trivial) rfl rfl rfl rfl

theorem moneyIsAmount_con {wg : World} (hw : WG wg) {n1 : Int} {r : Bool} (h : moneyIsAmount n1 = some r) : Con Tryz.prog wg gl 51 [.v (.int .i64 n1)] [] (.v (.bool r)) [] := by
 unfold moneyIsAmount at h
 refine con_of_WC (S := slotsOf 0 _) Tryz.func51 rfl Tryz.ntmps51 rfl (fun t x hx => (slotsOf_get hx).2) ?_
 intro F L w ρ0 R hR
 show WC _ _ _ ⟨[(0, .v (.int .i64 n1))], []⟩ _ _
 refine WC.seq (WC.region ?_)
 refine lr 1 rfl trivial ?_
 refine WL.nil (WQ.thenNormal (WC.seq (WC.region ?_)))
 refine lr 2 rfl trivial ?_
 replace h := bnd h; obtain ⟨v, hvv, h⟩ := h
 refine WL.call0 fn69 rfl rfl rfl rfl (by exact trivial) rfl (moneyWithin_con hw hvv) ?_
 refine lr 1 rfl trivial ?_
 refine WL.nil (WQ.thenNormal (WC.ret ?_))
 cases h
 exact WQ.rets tbOk hR [] (.inl rfl) rfl rfl (Le.refl _) (by exact trivial) rfl rfl rfl rfl

theorem moneyFormat_con {wg : World} (hw : WG wg) {amount : Int} {r : Str} (h : moneyFormat amount = some r) : Con Tryz.prog wg gl 26 [.v (.int .i64 amount)] [] (.v (.str r)) [] := by
 unfold moneyFormat at h
 refine con_of_WC (S := slotsOf 0 _) Tryz.func26 rfl Tryz.ntmps26 rfl (fun t x hx => (slotsOf_get hx).2) ?_
 intro F L w ρ0 R hR
 show WC _ _ _ ⟨[(0, .v (.int .i64 amount))], []⟩ _ _
 refine WC.seq (WC.region ?_)
 refine lr 1 rfl trivial ?_
 refine WL.nil (WQ.thenNormal (WC.seq (WC.seq (WC.region ?_))))
 refine lr 1 rfl trivial ?_
 replace h := bnd h; obtain ⟨v, hvv, h⟩ := h
 refine WL.call0 fn51 rfl rfl rfl rfl (by exact trivial) rfl (moneyIsAmount_con hw hvv) ?_
 refine lr 1 rfl trivial ?_
 refine WL.nil (WQ.thenNormal ?_)
 refine WC.cond rfl (fun hc1 => ?_) (fun hc1 => ?_)
 ·replace h := ite_t hc1 h
  refine WC.seq (WC.region ?_)
  refine lr 1 rfl trivial ?_
  refine WL.nil (WQ.thenNormal (WC.ret (WQ.thenRet ?_)))
  cases h
  exact WQ.rets tbOk hR [] (.inl rfl) rfl rfl (Le.refl _) (by exact trivial) rfl rfl rfl rfl
 ·replace h := ite_f hc1 h
  refine WC.skip (WQ.thenNormal (WC.seq (WC.region ?_)))
  refine lr 1 rfl trivial ?_
  refine WL.nil (WQ.thenNormal (WC.seq (WC.seq (WC.region ?_))))
  refine lr 2 rfl trivial ?_
  refine WL.nil (WQ.thenNormal ?_)
  refine WC.thenCut (X := Int × Str) (fun gG => ⟨[(0, .v (.int .i64 gG.1)), (3, .v (.str gG.2))], []⟩) (fun gG => moneyFormat_j1 gG.1 gG.2 = some r) ?_ ?_
  ·refine WC.cond rfl (fun hc3 => ?_) (fun hc3 => ?_)
   ·replace h := ite_t hc3 h
    refine WC.seq (WC.region ?_)
    refine lr 1 rfl trivial ?_
    refine WL.nil (WQ.thenNormal (WC.region ?_))
    refine lr 3 rfl trivial ?_
    refine WL.nil ?_
    exact WQ.cut [] ((IntKind.i64.wrap (0 - amount)), ([45] : Str)) ⟨(by exact ⟨rfl, rfl, trivial⟩), (by exact trivial), rfl, rfl, rfl, rfl⟩ h
   ·replace h := ite_f hc3 h
    refine WC.skip ?_
    exact WQ.cut [] (amount, ([] : Str)) ⟨(by exact ⟨rfl, rfl, trivial⟩), (by exact trivial), rfl, rfl, rfl, rfl⟩ h
  ·rintro ⟨amount2, sign⟩ h
   replace h : moneyFormat_j1 amount2 sign = some _ := h
   unfold moneyFormat_j1 at h
   show WC _ _ _ ⟨[(0, .v (.int .i64 amount2)), (3, .v (.str sign))], []⟩ _ _
   refine WC.seq (WC.region ?_)
   refine lr 2 rfl (by exact sideR) ?_
   replace h := bnd h; obtain ⟨v2, hvv2, h⟩ := h
   refine WL.call0 fn27 rfl rfl rfl rfl (by exact trivial) rfl (itoa_con hw hvv2) ?_
   refine lr 1 rfl trivial ?_
   refine WL.nil (WQ.thenNormal (WC.seq (WC.seq (WC.region ?_))))
   refine lr 3 rfl trivial ?_
   refine WL.nil (WQ.thenNormal ?_)
   refine WC.thenCut (X := Str) (fun gG => ⟨[(4, .v (.str gG)), (0, .v (.int .i64 amount2)), (3, .v (.str sign))], []⟩) (fun gG => moneyFormat_j2 amount2 sign gG = some r) ?_ ?_
   ·refine WC.cond rfl (fun hc2 => ?_) (fun hc2 => ?_)
    ·replace h := ite_t hc2 h
     refine WC.region ?_
     obtain ⟨g4, h⟩ := grd h
     refine lr 3 rfl (by repeat' (first | exact trivial | assumption | intro _ | exact g4 (by assumption) | apply And.intro | exact sideT | (refine and_i ?_ ?_))) ?_
     refine WL.nil ?_
     exact WQ.cut [] (([48] : Str) ++ v2) ⟨(by exact ⟨rfl, rfl, rfl, trivial⟩), (by exact trivial), rfl, rfl, rfl, rfl⟩ h
    ·replace h := ite_f hc2 h
     refine WC.skip ?_
     exact WQ.cut [] v2 ⟨(by exact ⟨rfl, rfl, rfl, trivial⟩), (by exact trivial), rfl, rfl, rfl, rfl⟩ h
   ·intro cents h
    replace h : moneyFormat_j2 amount2 sign cents = some _ := h
    unfold moneyFormat_j2 at h
    show WC _ _ _ ⟨[(4, .v (.str cents)), (0, .v (.int .i64 amount2)), (3, .v (.str sign))], []⟩ _ _
    refine WC.seq (WC.region ?_)
    refine lr 3 rfl (by exact sideR) ?_
    replace h := bnd h; obtain ⟨v3, hvv3, h⟩ := h
    refine WL.call0 fn27 rfl rfl rfl rfl (by exact trivial) rfl (itoa_con hw hvv3) ?_
    obtain ⟨g1, h⟩ := grd h
    obtain ⟨g2, h⟩ := grd h
    obtain ⟨g3, h⟩ := grd h
    refine lr 5 rfl (by repeat' (first | exact trivial | assumption | intro _ | exact g1 (by assumption) | exact g2 (by assumption) | exact g3 (by assumption) | apply And.intro | exact sideT | (refine and_i ?_ ?_))) ?_
    refine WL.nil (WQ.thenNormal (WC.ret ?_))
    cases h
    exact WQ.rets tbOk hR [] (.inl rfl) rfl rfl (Le.refl _) (by exact trivial) rfl rfl rfl rfl

theorem moneyParse_con {wg : World} (hw : WG wg) {s : Str} {r : Int × Int} (h : moneyParse s = some r) : Con Tryz.prog wg gl 75 [.v (.str s)] [] (.tup [.v (.int .i64 r.1), .v (.int .i64 r.2)]) [] := by
 unfold moneyParse at h
 refine con_of_WC (S := slotsOf 0 _) Tryz.func75 rfl Tryz.ntmps75 rfl (fun t x hx => (slotsOf_get hx).2) ?_
 intro F L w ρ0 R hR
 show WC _ _ _ ⟨[(0, .v (.str s))], []⟩ _ _
 refine WC.seq (WC.region ?_)
 refine lr 2 rfl trivial ?_
 refine WL.nil (WQ.thenNormal (WC.seq (WC.region ?_)))
 refine lr 4 rfl trivial ?_
 refine WL.nil (WQ.thenNormal (WC.seq (WC.seq (WC.region ?_))))
 refine lr 6 rfl (by exact sideR) ?_
 refine WL.nil (WQ.thenNormal ?_)
 refine WC.cond rfl (fun hc1 => ?_) (fun hc1 => ?_)
 ·replace h := ite_t hc1 h
  refine WC.seq (WC.region ?_)
  refine lr 2 rfl trivial ?_
  refine WL.nil (WQ.thenNormal (WC.ret (WQ.thenRet ?_)))
  cases h
  exact WQ.rets tbOk (r := .tup [.v (.int .i64 (0 : Int)), .v (.int .i64 (4 : Int))]) hR [] (.inl rfl) rfl rfl (Le.tup (.cons (Le.refl _) (.cons (Le.refl _) .nil))) (by exact trivial) rfl rfl rfl rfl
 ·replace h := ite_f hc1 h
  refine WC.skip (WQ.thenNormal (WC.seq (WC.order mixed ?_)))
  obtain ⟨g1, h⟩ := grd h
  obtain ⟨g2, h⟩ := grd h
  obtain ⟨g3, h⟩ := grd h
  refine wr 8 rfl (by repeat' (first | exact trivial | assumption | intro _ | exact g1 (by assumption) | exact g2 (by assumption) | exact g3 (by assumption) | apply And.intro | exact sideT | (refine and_i ?_ ?_))) ?_
  replace h := bnd h; obtain ⟨v, hvv, h⟩ := h
  refine WR.call0 fn76 rfl rfl rfl rfl (by exact trivial) rfl (atoiS_con hw hvv) ?_
  refine wr 5 rfl trivial ?_
  refine WR.nil (by kernel_rfl) (WQ.thenNormal (WC.seq (WC.seq (WC.region ?_))))
  refine lr 4 rfl (by exact sideR) ?_
  replace h := bnd h; obtain ⟨v2, hvv2, h⟩ := h
  refine WL.gcall0 fn26 rfl rfl rfl rfl rfl (fun _ => (by exact sideR)) rfl (fun hg => (moneyFormat_con hw (ite_t hg hvv2))) ?_
  refine lr 3 rfl (by exact sideR) ?_
  refine WL.nil (WQ.thenNormal ?_)
  refine WC.cond rfl (fun hc2 => ?_) (fun hc2 => ?_)
  ·replace h := ite_t hc2 h
   refine WC.seq (WC.region ?_)
   refine lr 2 rfl trivial ?_
   refine WL.nil (WQ.thenNormal (WC.ret (WQ.thenRet ?_)))
   cases h
   exact WQ.rets tbOk (r := .tup [.v (.int .i64 (0 : Int)), .v (.int .i64 (4 : Int))]) hR [] (.inl rfl) rfl rfl (Le.tup (.cons (Le.refl _) (.cons (Le.refl _) .nil))) (by exact trivial) rfl rfl rfl rfl
  ·replace h := ite_f hc2 h
   refine WC.skip (WQ.thenNormal (WC.seq (WC.region ?_)))
   refine lr 3 rfl trivial ?_
   refine WL.nil (WQ.thenNormal (WC.ret ?_))
   cases h
   exact WQ.rets tbOk (r := .tup [.v (.int .i64 v.1), .v (.int .i64 (0 : Int))]) hR [] (.inl rfl) rfl rfl (Le.tup (.cons (Le.refl _) (.cons (Le.refl _) .nil))) (by exact trivial) rfl rfl rfl rfl

theorem r02Amount_con {wg : World} (hw : WG wg) {n1 : Int} {r : Bool} (h : r02Amount n1 = some r) : Con Tryz.prog wg gl 56 [.v (.int .i64 n1)] [] (.v (.bool r)) [] := by
 unfold r02Amount at h
 refine con_of_WC (S := slotsOf 0 _) Tryz.func56 rfl Tryz.ntmps56 rfl (fun t x hx => (slotsOf_get hx).2) ?_
 intro F L w ρ0 R hR
 show WC _ _ _ ⟨[(0, .v (.int .i64 n1))], []⟩ _ _
 refine WC.seq (WC.region ?_)
 refine lr 1 rfl trivial ?_
 refine WL.nil (WQ.thenNormal (WC.seq (WC.region ?_)))
 refine lr 7 rfl (by exact sideR) ?_
 refine WL.nil (WQ.thenNormal (WC.ret ?_))
 cases h
 exact WQ.rets tbOk hR [] (.inl rfl) rfl rfl (Le.refl _) (by exact trivial) rfl rfl rfl rfl

theorem r02Digits_con {wg : World} (hw : WG wg) {n1 : Int} {r : Str} (h : r02Digits n1 = some r) : Con Tryz.prog wg gl 31 [.v (.int .i64 n1)] [] (.v (.str r)) [] := by
 unfold r02Digits at h
 refine con_of_WC (S := slotsOf 0 _) Tryz.func31 rfl Tryz.ntmps31 rfl (fun t x hx => (slotsOf_get hx).2) ?_
 intro F L w ρ0 R hR
 show WC _ _ _ ⟨[(0, .v (.int .i64 n1))], []⟩ _ _
 refine WC.seq (WC.region ?_)
 refine lr 1 rfl trivial ?_
 refine WL.nil (WQ.thenNormal (WC.seq (WC.region ?_)))
 refine lr 1 rfl trivial ?_
 refine WL.nil (WQ.thenNormal (WC.block ?_))
 obtain ⟨eQ1, hl1, hk1⟩ := bnd h
 clear h
 refine WC.loop (σ := Str × Int) (τ := (Str)) (fun sS => ⟨[(3, .v (.str sS.1)), (0, .v (.int .i64 sS.2))], []⟩) (r02Digits_b1) [] (([] : Str), n1) hl1 ⟨(by exact ⟨rfl, rfl, trivial⟩), (by exact trivial), rfl, rfl, rfl, rfl⟩ ?_
 rintro ⟨s, n12⟩ m hn1 he1 hx1
 obtain ⟨o1, hf1⟩ := some_of hx1
 have h := hf1
 unfold r02Digits_b1 at h
 show WC _ _ _ ⟨[(3, .v (.str s)), (0, .v (.int .i64 n12))], []⟩ _ _
 refine WC.block (WC.seq (WC.region ?_))
 refine lr 5 rfl (by exact sideR) ?_
 refine WL.q [] rfl rfl rfl (q_b2s tbOk (xs := [(IntKind.u8.wrap (IntKind.i64.wrap ((48 : Int) + (n12.tmod (10 : Int)))))]) by36 rfl (by exact trivial)) ?_
 obtain ⟨g1, h⟩ := grd h
 refine lr 3 rfl (by repeat' (first | exact trivial | assumption | intro _ | exact g1 (by assumption) | apply And.intro | exact sideT | (refine and_i ?_ ?_))) ?_
 refine WL.nil (WQ.thenNormal (WC.seq (WC.region ?_)))
 refine lr 3 rfl (by exact sideR) ?_
 refine WL.nil (WQ.thenNormal (WC.seq (WC.region ?_)))
 refine lr 2 rfl trivial ?_
 refine WL.nil (WQ.thenNormal ?_)
 refine WC.cond rfl (fun hc1 => ?_) (fun hc1 => ?_)
 ·replace h := ite_t hc1 h
  refine WC.seq (WC.region ?_)
  refine lr 2 rfl trivial ?_
  refine WL.nil (WQ.thenNormal (WC.ret (WQ.blockRet ?_)))
  cases h
  have he := he1 _ hf1
  subst he
  have h : some ((bytesI [(IntKind.u8.wrap (IntKind.i64.wrap ((48 : Int) + (n12.tmod (10 : Int)))))]) ++ s) = some _ := hk1
  refine WQ.thenRet (WQ.blockRet ?_)
  cases h
  exact WQ.rets tbOk hR [] (.inl rfl) rfl rfl (Le.refl _) (by exact trivial) rfl rfl rfl rfl
 ·replace h := ite_f hc1 h
  refine WC.skip (WQ.blockNormal ?_)
  cases h
  exact WQ.next [] (((bytesI [(IntKind.u8.wrap (IntKind.i64.wrap ((48 : Int) + (n12.tmod (10 : Int)))))]) ++ s), (IntKind.i64.wrap (n12.tdiv (10 : Int)))) ⟨(by exact ⟨rfl, rfl, trivial⟩), (by exact trivial), rfl, rfl, rfl, rfl⟩ (hn1 _ hf1)

theorem r02Format_n_con {wg : World} (hw : WG wg) (n : Nat) : ∀ {amount : Int} {r : Str} (h : r02Format_n n amount = some r), Con Tryz.prog wg gl 30 [.v (.int .i64 amount)] [] (.v (.str r)) [] := by
 induction n with
 | zero => intros; rename_i h; cases h
 | succ n ih =>
 intro amount r h
 replace h : r02Format_F (r02Format_n n) amount = some r := h
 unfold r02Format_F at h
 refine con_of_WC (S := slotsOf 0 _) Tryz.func30 rfl Tryz.ntmps30 rfl (fun t x hx => (slotsOf_get hx).2) ?_
 intro F L w ρ0 R hR
 show WC _ _ _ ⟨[(0, .v (.int .i64 amount))], []⟩ _ _
 refine WC.seq (WC.region ?_)
 refine lr 1 rfl trivial ?_
 refine WL.nil (WQ.thenNormal (WC.seq (WC.seq (WC.region ?_))))
 refine lr 1 rfl trivial ?_
 replace h := bnd h; obtain ⟨v, hvv, h⟩ := h
 refine WL.call0 fn56 rfl rfl rfl rfl (by exact trivial) rfl (r02Amount_con hw hvv) ?_
 refine lr 1 rfl trivial ?_
 refine WL.nil (WQ.thenNormal ?_)
 refine WC.cond rfl (fun hc1 => ?_) (fun hc1 => ?_)
 ·replace h := ite_t hc1 h
  refine WC.seq (WC.region ?_)
  refine lr 1 rfl trivial ?_
  refine WL.nil (WQ.thenNormal (WC.ret (WQ.thenRet ?_)))
  cases h
  exact WQ.rets tbOk hR [] (.inl rfl) rfl rfl (Le.refl _) (by exact trivial) rfl rfl rfl rfl
 ·replace h := ite_f hc1 h
  refine WC.skip (WQ.thenNormal (WC.seq (WC.seq (WC.region ?_))))
  refine lr 2 rfl trivial ?_
  refine WL.nil (WQ.thenNormal ?_)
  refine WC.cond rfl (fun hc2 => ?_) (fun hc2 => ?_)
  ·replace h := ite_t hc2 h
   refine WC.seq (WC.region ?_)
   refine lr 2 rfl trivial ?_
   replace h := bnd h; obtain ⟨v2, hvv2, h⟩ := h
   refine WL.call0 fn30 rfl rfl rfl rfl (by exact trivial) rfl (ih hvv2) ?_
   obtain ⟨g1, h⟩ := grd h
   refine lr 2 rfl (by repeat' (first | exact trivial | assumption | intro _ | exact g1 (by assumption) | apply And.intro | exact sideT | (refine and_i ?_ ?_))) ?_
   refine WL.nil (WQ.thenNormal (WC.ret (WQ.thenRet ?_)))
   cases h
   exact WQ.rets tbOk hR [] (.inl rfl) rfl rfl (Le.refl _) (by exact trivial) rfl rfl rfl rfl
  ·replace h := ite_f hc2 h
   refine WC.skip (WQ.thenNormal (WC.seq (WC.region ?_)))
   refine lr 2 rfl (by exact sideR) ?_
   replace h := bnd h; obtain ⟨v3, hvv3, h⟩ := h
   refine WL.call0 fn31 rfl rfl rfl rfl (by exact trivial) rfl (r02Digits_con hw hvv3) ?_
   obtain ⟨g2, h⟩ := grd h
   refine lr 4 rfl (by repeat' (first | exact trivial | assumption | intro _ | exact g2 (by assumption) | apply And.intro | exact sideT | (refine and_i ?_ ?_))) ?_
   replace h := bnd h; obtain ⟨v4, hvv4, h⟩ := h
   refine WL.call0 fn31 rfl rfl rfl rfl (by exact trivial) rfl (r02Digits_con hw hvv4) ?_
   obtain ⟨g3, h⟩ := grd h
   refine lr 3 rfl (by repeat' (first | exact trivial | assumption | intro _ | exact g3 (by assumption) | apply And.intro | exact sideT | (refine and_i ?_ ?_))) ?_
   replace h := bnd h; obtain ⟨v5, hvv5, h⟩ := h
   refine WL.call0 fn31 rfl rfl rfl rfl (by exact trivial) rfl (r02Digits_con hw hvv5) ?_
   obtain ⟨g4, h⟩ := grd h
   refine lr 2 rfl (by repeat' (first | exact trivial | assumption | intro _ | exact g4 (by assumption) | apply And.intro | exact sideT | (refine and_i ?_ ?_))) ?_
   refine WL.nil (WQ.thenNormal (WC.ret ?_))
   cases h
   exact WQ.rets tbOk hR [] (.inl rfl) rfl rfl (Le.refl _) (by exact trivial) rfl rfl rfl rfl
theorem r02Format_con {wg : World} (hw : WG wg) {amount : Int} {r : Str} (h : r02Format amount = some r) : Con Tryz.prog wg gl 30 [.v (.int .i64 amount)] [] (.v (.str r)) [] := r02Format_n_con hw _ h

theorem r02Parse_con {wg : World} (hw : WG wg) {s : Str} {r : Int × Int} (h : r02Parse s = some r) : Con Tryz.prog wg gl 35 [.v (.str s)] [] (.tup [.v (.int .i64 r.1), .v (.int .i64 r.2)]) [] := by
 unfold r02Parse at h
 refine con_of_WC (S := slotsOf 0 _) Tryz.func35 rfl Tryz.ntmps35 rfl (fun t x hx => (slotsOf_get hx).2) ?_
 intro F L w ρ0 R hR
 show WC _ _ _ ⟨[(0, .v (.str s))], []⟩ _ _
 refine WC.seq (WC.region ?_)
 refine lr 2 rfl trivial ?_
 refine WL.nil (WQ.thenNormal (WC.seq (WC.region ?_)))
 refine lr 2 rfl trivial ?_
 refine WL.nil (WQ.thenNormal (WC.seq (WC.seq (WC.region ?_))))
 refine lr 1 rfl trivial ?_
 refine WL.nil (WQ.thenNormal ?_)
 refine WC.thenCut (X := Int × Int) (fun gG => ⟨[(5, .v (.int .i64 gG.1)), (4, .v (.int .i64 gG.2)), (0, .v (.str s))], []⟩) (fun gG => r02Parse_j1 s gG.1 gG.2 = some r) ?_ ?_
 ·refine WC.block ?_
  obtain ⟨eQ1, hl1, hk1⟩ := bnd h
  clear h
  refine WC.loop (σ := Int × Int × Int) (τ := (Int × Int)) (fun sS => ⟨[(6, .v (.int .i64 sS.1)), (5, .v (.int .i64 sS.2.1)), (4, .v (.int .i64 sS.2.2)), (0, .v (.str s))], []⟩) (r02Parse_b1 s) [] ((0 : Int), (1 : Int), (0 : Int)) hl1 ⟨(by exact ⟨rfl, rfl, rfl, rfl, trivial⟩), (by exact trivial), rfl, rfl, rfl, rfl⟩ ?_
  rintro ⟨i, sign2, n12⟩ m hn1 he1 hx1
  obtain ⟨o1, hf1⟩ := some_of hx1
  have h := hf1
  unfold r02Parse_b1 at h
  show WC _ _ _ ⟨[(6, .v (.int .i64 i)), (5, .v (.int .i64 sign2)), (4, .v (.int .i64 n12)), (0, .v (.str s))], []⟩ _ _
  refine WC.seq (WC.seq (WC.region ?_))
  refine lr 8 rfl (by exact sideR) ?_
  refine WL.nil (WQ.thenNormal ?_)
  refine WC.cond rfl (fun hc2 => ?_) (fun hc2 => ?_)
  ·replace h := ite_t hc2 h
   refine WC.skip (WQ.thenNormal (WC.seq ?_))
   refine WC.thenCut (X := Int × Int) (fun gG => ⟨[(5, .v (.int .i64 gG.1)), (6, .v (.int .i64 i)), (4, .v (.int .i64 gG.2)), (0, .v (.str s))], []⟩) (fun gG => r02Parse_j2 s i gG.1 gG.2 = some o1) ?_ ?_
   ·refine WC.block (WC.block (WC.seq (WC.region ?_)))
    obtain ⟨g1, h⟩ := grd h
    refine lr 5 rfl (by repeat' (first | exact trivial | assumption | intro _ | exact g1 (by assumption) | apply And.intro | exact sideT | (refine and_i ?_ ?_))) ?_
    refine WL.nil (WQ.thenNormal ?_)
    refine WC.cond rfl (fun hc3 => ?_) (fun hc3 => ?_)
    ·replace h := ite_t hc3 h
     refine WC.region ?_
     refine lr 1 rfl trivial ?_
     refine WL.nil (WQ.blockNormal (WQ.blockNormal ?_))
     exact WQ.cut [] ((-1 : Int), n12) ⟨(by exact ⟨rfl, rfl, rfl, rfl, trivial⟩), (by exact trivial), rfl, rfl, rfl, rfl⟩ h
    ·replace h := ite_f hc3 h
     refine WC.seq (WC.region ?_)
     obtain ⟨g2, h⟩ := grd h
     obtain ⟨g3, h⟩ := grd h
     refine lr 15 rfl (by repeat' (first | exact trivial | assumption | intro _ | exact g2 (by assumption) | exact g3 (by assumption) | apply And.intro | exact sideT | (refine and_i ?_ ?_))) ?_
     refine WL.nil (WQ.thenNormal ?_)
     refine WC.cond rfl (fun hc4 => ?_) (fun hc4 => ?_)
     ·replace h := ite_t hc4 h
      refine WC.region ?_
      obtain ⟨g4, h⟩ := grd h
      refine lr 9 rfl (by repeat' (first | exact trivial | assumption | intro _ | exact g4 (by assumption) | apply And.intro | exact sideT | (refine and_i ?_ ?_))) ?_
      refine WL.nil (WQ.blockNormal (WQ.blockNormal ?_))
      exact WQ.cut [] (sign2, (IntKind.i64.wrap ((IntKind.i64.wrap ((10 : Int) * n12)) + (IntKind.i64.wrap (IntKind.u8.wrap (((s.getD i.toNat 0).toNat : Int) - (48 : Int))))))) ⟨(by exact ⟨rfl, rfl, rfl, rfl, trivial⟩), (by exact trivial), rfl, rfl, rfl, rfl⟩ h
     ·replace h := ite_f hc4 h
      refine WC.skip (WQ.blockNormal (WQ.blockNormal ?_))
      exact WQ.cut [] (sign2, n12) ⟨(by exact ⟨rfl, rfl, rfl, rfl, trivial⟩), (by exact trivial), rfl, rfl, rfl, rfl⟩ h
   ·rintro ⟨sign6, n16⟩ h
    replace h : r02Parse_j2 s i sign6 n16 = some _ := h
    unfold r02Parse_j2 at h
    show WC _ _ _ ⟨[(5, .v (.int .i64 sign6)), (6, .v (.int .i64 i)), (4, .v (.int .i64 n16)), (0, .v (.str s))], []⟩ _ _
    refine WC.region ?_
    refine lr 3 rfl trivial ?_
    refine WL.nil ?_
    cases h
    exact WQ.next [] ((IntKind.i64.wrap (i + (1 : Int))), sign6, n16) ⟨(by exact ⟨rfl, rfl, rfl, rfl, trivial⟩), (by exact trivial), rfl, rfl, rfl, rfl⟩ (hn1 _ hf1)
  ·replace h := ite_f hc2 h
   refine WC.exit (WQ.thenExit ?_)
   cases h
   have he := he1 _ hf1
   subst he
   replace h := hk1
   try dsimp only at h
   refine WQ.thenExit (WQ.blockExit ?_)
   exact WQ.cut [] (sign2, n12) ⟨(by exact ⟨rfl, rfl, rfl, trivial⟩), (by exact trivial), rfl, rfl, rfl, rfl⟩ h
 ·rintro ⟨sign, n1⟩ h
  replace h : r02Parse_j1 s sign n1 = some _ := h
  unfold r02Parse_j1 at h
  show WC _ _ _ ⟨[(5, .v (.int .i64 sign)), (4, .v (.int .i64 n1)), (0, .v (.str s))], []⟩ _ _
  refine WC.seq (WC.seq (WC.region ?_))
  refine lr 6 rfl (by exact sideR) ?_
  replace h := bnd h; obtain ⟨v, hvv, h⟩ := h
  refine WL.gcall0 fn30 rfl rfl rfl rfl rfl (fun _ => (by exact sideR)) rfl (fun hg => (r02Format_con hw (ite_t hg hvv))) ?_
  refine lr 3 rfl (by exact sideR) ?_
  refine WL.nil (WQ.thenNormal ?_)
  refine WC.cond rfl (fun hc1 => ?_) (fun hc1 => ?_)
  ·replace h := ite_t hc1 h
   refine WC.seq (WC.region ?_)
   refine lr 2 rfl trivial ?_
   refine WL.nil (WQ.thenNormal (WC.ret (WQ.thenRet ?_)))
   cases h
   exact WQ.rets tbOk (r := .tup [.v (.int .i64 (0 : Int)), .v (.int .i64 (4 : Int))]) hR [] (.inl rfl) rfl rfl (Le.tup (.cons (Le.refl _) (.cons (Le.refl _) .nil))) (by exact trivial) rfl rfl rfl rfl
  ·replace h := ite_f hc1 h
   refine WC.skip (WQ.thenNormal (WC.seq (WC.region ?_)))
   refine lr 5 rfl trivial ?_
   refine WL.nil (WQ.thenNormal (WC.ret ?_))
   cases h
   exact WQ.rets tbOk (r := .tup [.v (.int .i64 (IntKind.i64.wrap (sign * n1))), .v (.int .i64 (0 : Int))]) hR [] (.inl rfl) rfl rfl (Le.tup (.cons (Le.refl _) (.cons (Le.refl _) .nil))) (by exact trivial) rfl rfl rfl rfl

theorem r12Percent_con {wg : World} (hw : WG wg) {n1 : Int} {r : Str} (h : r12Percent n1 = some r) : Con Tryz.prog wg gl 29 [.v (.int .i64 n1)] [] (.v (.str r)) [] := by
 unfold r12Percent at h
 refine con_of_WC (S := slotsOf 0 _) Tryz.func29 rfl Tryz.ntmps29 rfl (fun t x hx => (slotsOf_get hx).2) ?_
 intro F L w ρ0 R hR
 show WC _ _ _ ⟨[(0, .v (.int .i64 n1))], []⟩ _ _
 refine WC.seq (WC.region ?_)
 refine lr 1 rfl trivial ?_
 refine WL.nil (WQ.thenNormal (WC.seq (WC.region ?_)))
 refine lr 2 rfl (by exact sideR) ?_
 replace h := bnd h; obtain ⟨v, hvv, h⟩ := h
 refine WL.call0 fn31 rfl rfl rfl rfl (by exact trivial) rfl (r02Digits_con hw hvv) ?_
 refine lr 1 rfl trivial ?_
 refine WL.nil (WQ.thenNormal (WC.seq (WC.seq (WC.region ?_))))
 refine lr 3 rfl (by exact sideR) ?_
 refine WL.nil (WQ.thenNormal (WC.seq (WC.region ?_)))
 refine lr 2 rfl trivial ?_
 refine WL.nil (WQ.thenNormal ?_)
 refine WC.thenCut (X := Str) (fun gG => ⟨[(3, .v (.str gG))], []⟩) (fun gG => r12Percent_j1 gG = some r) ?_ ?_
 ·refine WC.cond rfl (fun hc1 => ?_) (fun hc1 => ?_)
  ·replace h := ite_t hc1 h
   refine WC.seq (WC.region ?_)
   obtain ⟨g2, h⟩ := grd h
   refine lr 3 rfl (by repeat' (first | exact trivial | assumption | intro _ | exact g2 (by assumption) | apply And.intro | exact sideT | (refine and_i ?_ ?_))) ?_
   refine WL.nil (WQ.thenNormal (WC.seq (WC.region ?_)))
   refine lr 1 rfl trivial ?_
   refine WL.nil (WQ.thenNormal (WC.block ?_))
   obtain ⟨eQ1, hl1, hk1⟩ := bnd h
   clear h
   refine WC.loop (σ := Int × Str × Int) (τ := (Str)) (fun sS => ⟨[(5, .v (.int .i64 sS.1)), (3, .v (.str sS.2.1)), (4, .v (.int .i64 sS.2.2))], []⟩) (r12Percent_b1) [] ((1000 : Int), (v ++ ([46] : Str)), (n1.tmod (10000 : Int))) hl1 ⟨(by exact ⟨rfl, rfl, rfl, trivial⟩), (by exact trivial), rfl, rfl, rfl, rfl⟩ ?_
   rintro ⟨k, s2, rest⟩ m hn1 he1 hx1
   obtain ⟨o1, hf1⟩ := some_of hx1
   have h := hf1
   unfold r12Percent_b1 at h
   show WC _ _ _ ⟨[(5, .v (.int .i64 k)), (3, .v (.str s2)), (4, .v (.int .i64 rest))], []⟩ _ _
   refine WC.seq (WC.seq (WC.region ?_))
   refine lr 2 rfl trivial ?_
   refine WL.nil (WQ.thenNormal ?_)
   refine WC.cond rfl (fun hc2 => ?_) (fun hc2 => ?_)
   ·replace h := ite_t hc2 h
    refine WC.skip (WQ.thenNormal (WC.seq (WC.block (WC.seq (WC.region ?_)))))
    obtain ⟨g3, h⟩ := grd h
    refine lr 4 rfl (by repeat' (first | exact trivial | assumption | intro _ | exact g3 (by assumption) | apply And.intro | exact sideT | (refine and_i ?_ ?_))) ?_
    replace h := bnd h; obtain ⟨v3, hvv3, h⟩ := h
    refine WL.call0 fn31 rfl rfl rfl rfl (by exact trivial) rfl (r02Digits_con hw hvv3) ?_
    obtain ⟨g4, h⟩ := grd h
    refine lr 2 rfl (by repeat' (first | exact trivial | assumption | intro _ | exact g4 (by assumption) | apply And.intro | exact sideT | (refine and_i ?_ ?_))) ?_
    refine WL.nil (WQ.thenNormal (WC.region ?_))
    obtain ⟨g5, h⟩ := grd h
    refine lr 4 rfl (by repeat' (first | exact trivial | assumption | intro _ | exact g5 (by assumption) | apply And.intro | exact sideT | (refine and_i ?_ ?_))) ?_
    refine WL.nil (WQ.blockNormal (WQ.thenNormal (WC.region ?_)))
    refine lr 3 rfl (by exact sideR) ?_
    refine WL.nil ?_
    cases h
    exact WQ.next [] ((IntKind.i64.wrap (k.tdiv (10 : Int))), (s2 ++ v3), (rest.tmod k)) ⟨(by exact ⟨rfl, rfl, rfl, trivial⟩), (by exact trivial), rfl, rfl, rfl, rfl⟩ (hn1 _ hf1)
   ·replace h := ite_f hc2 h
    refine WC.exit (WQ.thenExit ?_)
    cases h
    have he := he1 _ hf1
    subst he
    replace h := hk1
    try dsimp only at h
    refine WQ.thenExit (WQ.blockExit ?_)
    exact WQ.cut [] s2 ⟨(by exact ⟨rfl, trivial⟩), (by exact trivial), rfl, rfl, rfl, rfl⟩ h
  ·replace h := ite_f hc1 h
   refine WC.skip ?_
   exact WQ.cut [] v ⟨(by exact ⟨rfl, trivial⟩), (by exact trivial), rfl, rfl, rfl, rfl⟩ h
 ·intro s h
  replace h : r12Percent_j1 s = some _ := h
  unfold r12Percent_j1 at h
  show WC _ _ _ ⟨[(3, .v (.str s))], []⟩ _ _
  refine WC.seq (WC.region ?_)
  obtain ⟨g1, h⟩ := grd h
  refine lr 3 rfl (by repeat' (first | exact trivial | assumption | intro _ | exact g1 (by assumption) | apply And.intro | exact sideT | (refine and_i ?_ ?_))) ?_
  refine WL.nil (WQ.thenNormal (WC.ret ?_))
  cases h
  exact WQ.rets tbOk hR [] (.inl rfl) rfl rfl (Le.refl _) (by exact trivial) rfl rfl rfl rfl

theorem r08Split_con {wg : World} (hw : WG wg) {s : Str} {by_ : Int} {r : (List Str)} (h : r08Split s by_ = some r) : Con Tryz.prog wg gl 34 [.v (.str s), .v (.int .u8 by_)] [] (.v (.sl 1 (r.map eStr))) [] := by
 unfold r08Split at h
 refine con_of_WC (S := slotsOf 0 _) Tryz.func34 rfl Tryz.ntmps34 rfl (fun t x hx => (slotsOf_get hx).2) ?_
 intro F L w ρ0 R hR
 show WC _ _ _ ⟨[(0, .v (.str s)), (1, .v (.int .u8 by_))], []⟩ _ _
 refine WC.seq (WC.region ?_)
 refine lr 1 rfl trivial ?_
 refine WL.nil (WQ.thenNormal (WC.seq (WC.region ?_)))
 refine lr 1 rfl trivial ?_
 refine WL.nil (WQ.thenNormal (WC.seq (WC.region ?_)))
 refine lr 1 rfl trivial ?_
 refine WL.nil (WQ.thenNormal (WC.seq (WC.seq (WC.region ?_))))
 refine lr 1 rfl trivial ?_
 refine WL.nil (WQ.thenNormal ?_)
 refine WC.thenCut (X := (List Str)) (fun gG => ⟨[(5, .r 1005)], [(1005, .row 9 1 (gG.map eStr))]⟩) (fun gG => r08Split_j1 gG = some r) ?_ ?_
 ·refine WC.block ?_
  obtain ⟨eQ1, hl1, hk1⟩ := bnd h
  clear h
  refine WC.rowNil 5 1005 9 1 rfl rfl ?_
  refine WC.loop (σ := Int × Int × (List Str)) (τ := ((List Str))) (fun sS => ⟨[(7, .v (.int .i64 sS.1)), (6, .v (.int .i64 sS.2.1)), (5, .r 1005), (0, .v (.str s)), (1, .v (.int .u8 by_))], [(1005, .row 9 1 (sS.2.2.map eStr))]⟩) (r08Split_b1 s by_) [] ((0 : Int), (0 : Int), []) hl1 ⟨(by exact ⟨rfl, rfl, rfl, rfl, rfl, trivial⟩), (by exact ⟨rfl, trivial⟩), rfl, rfl, rfl, rfl⟩ ?_
  rintro ⟨i2, from_3, out3⟩ m hn1 he1 hx1
  obtain ⟨o1, hf1⟩ := some_of hx1
  have h := hf1
  unfold r08Split_b1 at h
  show WC _ _ _ ⟨[(7, .v (.int .i64 i2)), (6, .v (.int .i64 from_3)), (5, .r 1005), (0, .v (.str s)), (1, .v (.int .u8 by_))], [(1005, .row 9 1 (out3.map eStr))]⟩ _ _
  refine WC.seq (WC.seq (WC.region ?_))
  refine lr 4 rfl trivial ?_
  refine WL.nil (WQ.thenNormal ?_)
  refine WC.cond rfl (fun hc1 => ?_) (fun hc1 => ?_)
  ·replace h := ite_t hc1 h
   refine WC.skip (WQ.thenNormal (WC.seq ?_))
   refine WC.thenCut (X := Int × (List Str)) (fun gG => ⟨[(6, .v (.int .i64 gG.1)), (5, .r 1005), (7, .v (.int .i64 i2)), (0, .v (.str s)), (1, .v (.int .u8 by_))], [(1005, .row 9 1 (gG.2.map eStr))]⟩) (fun gG => r08Split_j2 s by_ i2 gG.1 gG.2 = some o1) ?_ ?_
   ·refine WC.block (WC.seq (WC.region ?_))
    obtain ⟨g1, h⟩ := grd h
    refine lr 11 rfl (by repeat' (first | exact trivial | assumption | intro _ | exact g1 (by assumption) | apply And.intro | exact sideT | (refine and_i ?_ ?_))) ?_
    refine WL.nil (WQ.thenNormal ?_)
    refine WC.cond rfl (fun hc2 => ?_) (fun hc2 => ?_)
    ·replace h := ite_t hc2 h
     refine WC.seq (WC.region ?_)
     obtain ⟨g2, h⟩ := grd h
     refine lr 6 rfl (by repeat' (first | exact trivial | assumption | intro _ | exact g2 (by assumption) | apply And.intro | exact sideT | (refine and_i ?_ ?_))) ?_
     obtain ⟨g3, h⟩ := grd h
     refine WL.append tbOk ((out3 ++ [((s.take i2.toNat).drop from_3.toNat)]).map eStr) [31, 1005] ap37 rfl rfl rfl rfl (fun _ e => by cases e; rfl) (by exact trivial) (map_cells (f := eStr) (xs := [((s.take i2.toNat).drop from_3.toNat)]) fun _ => rfl) (by have := g3; simp only [List.length_map, List.length_nil, List.length_cons] at this ⊢; omega) rfl rfl (by simp only [List.map_append]; try rfl) rfl ?_
     refine lr 1 rfl trivial ?_
     refine WL.nil (WQ.thenNormal (WC.region ?_))
     refine lr 3 rfl trivial ?_
     refine WL.nil (WQ.blockNormal ?_)
     exact WQ.cut [(1005, 31)] ((IntKind.i64.wrap (i2 + (1 : Int))), (out3 ++ [((s.take i2.toNat).drop from_3.toNat)])) ⟨(by exact ⟨rfl, rfl, rfl, rfl, rfl, trivial⟩), (by exact ⟨rfl, trivial⟩), rfl, rfl, rfl, rfl⟩ h
    ·replace h := ite_f hc2 h
     refine WC.skip (WQ.blockNormal ?_)
     exact WQ.cut [] (from_3, out3) ⟨(by exact ⟨rfl, rfl, rfl, rfl, rfl, trivial⟩), (by exact ⟨rfl, trivial⟩), rfl, rfl, rfl, rfl⟩ h
   ·rintro ⟨from_5, out6⟩ h
    replace h : r08Split_j2 s by_ i2 from_5 out6 = some _ := h
    unfold r08Split_j2 at h
    show WC _ _ _ ⟨[(6, .v (.int .i64 from_5)), (5, .r 1005), (7, .v (.int .i64 i2)), (0, .v (.str s)), (1, .v (.int .u8 by_))], [(1005, .row 9 1 (out6.map eStr))]⟩ _ _
    refine WC.region ?_
    refine lr 3 rfl trivial ?_
    refine WL.nil ?_
    cases h
    exact WQ.next [] ((IntKind.i64.wrap (i2 + (1 : Int))), from_5, out6) ⟨(by exact ⟨rfl, rfl, rfl, rfl, rfl, trivial⟩), (by exact ⟨rfl, trivial⟩), rfl, rfl, rfl, rfl⟩ (hn1 _ hf1)
  ·replace h := ite_f hc1 h
   refine WC.exit (WQ.thenExit ?_)
   cases h
   have he := he1 _ hf1
   subst he
   replace h := hk1
   try dsimp only at h
   refine WQ.thenExit (WQ.blockExit ?_)
   exact WQ.cut [] out3 ⟨(by exact ⟨rfl, trivial⟩), (by exact ⟨rfl, trivial⟩), rfl, rfl, rfl, rfl⟩ h
 ·intro out h
  replace h : r08Split_j1 out = some _ := h
  unfold r08Split_j1 at h
  show WC _ _ _ ⟨[(5, .r 1005)], [(1005, .row 9 1 (out.map eStr))]⟩ _ _
  refine WC.seq (WC.region ?_)
  refine lr 2 rfl trivial ?_
  refine WL.nil (WQ.thenNormal (WC.ret ?_))
  refine WQ.publish 1005 rfl rfl ?_
  cases h
  exact WQ.rets tbOk hR [] (.inl rfl) rfl rfl (Le.refl _) (by exact trivial) rfl rfl rfl rfl

theorem r08Num_con {wg : World} (hw : WG wg) {s : Str} {r : Int} (h : r08Num s = some r) : Con Tryz.prog wg gl 36 [.v (.str s)] [] (.v (.int .i64 r)) [] := by
 unfold r08Num at h
 refine con_of_WC (S := slotsOf 0 _) Tryz.func36 rfl Tryz.ntmps36 rfl (fun t x hx => (slotsOf_get hx).2) ?_
 intro F L w ρ0 R hR
 show WC _ _ _ ⟨[(0, .v (.str s))], []⟩ _ _
 refine WC.seq (WC.region ?_)
 refine lr 1 rfl trivial ?_
 refine WL.nil (WQ.thenNormal (WC.seq (WC.region ?_)))
 refine lr 1 rfl trivial ?_
 refine WL.nil (WQ.thenNormal (WC.seq (WC.seq (WC.region ?_))))
 refine lr 1 rfl trivial ?_
 refine WL.nil (WQ.thenNormal ?_)
 refine WC.thenCut (X := Int) (fun gG => ⟨[(3, .v (.int .i64 gG))], []⟩) (fun gG => r08Num_j1 gG = some r) ?_ ?_
 ·refine WC.block ?_
  obtain ⟨eQ1, hl1, hk1⟩ := bnd h
  clear h
  refine WC.loop (σ := Int × Int) (τ := ((Int) ⊕ (Int))) (fun sS => ⟨[(4, .v (.int .i64 sS.1)), (3, .v (.int .i64 sS.2)), (0, .v (.str s))], []⟩) (r08Num_b1 s) [] ((0 : Int), (0 : Int)) hl1 ⟨(by exact ⟨rfl, rfl, rfl, trivial⟩), (by exact trivial), rfl, rfl, rfl, rfl⟩ ?_
  rintro ⟨i, n12⟩ m hn1 he1 hx1
  obtain ⟨o1, hf1⟩ := some_of hx1
  have h := hf1
  unfold r08Num_b1 at h
  show WC _ _ _ ⟨[(4, .v (.int .i64 i)), (3, .v (.int .i64 n12)), (0, .v (.str s))], []⟩ _ _
  refine WC.seq (WC.seq (WC.region ?_))
  refine lr 4 rfl trivial ?_
  refine WL.nil (WQ.thenNormal ?_)
  refine WC.cond rfl (fun hc1 => ?_) (fun hc1 => ?_)
  ·replace h := ite_t hc1 h
   refine WC.skip (WQ.thenNormal (WC.seq (WC.block (WC.seq (WC.seq (WC.region ?_))))))
   obtain ⟨g1, h⟩ := grd h
   obtain ⟨g2, h⟩ := grd h
   refine lr 14 rfl (by repeat' (first | exact trivial | assumption | intro _ | exact g1 (by assumption) | exact g2 (by assumption) | apply And.intro | exact sideT | (refine and_i ?_ ?_))) ?_
   refine WL.nil (WQ.thenNormal ?_)
   refine WC.cond rfl (fun hc2 => ?_) (fun hc2 => ?_)
   ·replace h := ite_t hc2 h
    refine WC.seq (WC.region ?_)
    refine lr 1 rfl trivial ?_
    refine WL.nil (WQ.thenNormal (WC.ret (WQ.thenRet (WQ.blockRet (WQ.thenRet ?_)))))
    cases h
    have he := he1 _ hf1
    subst he
    have h : some (-1 : Int) = some _ := hk1
    refine WQ.thenRet (WQ.blockRet (WQ.thenRet ?_))
    cases h
    exact WQ.rets tbOk hR [] (.inl rfl) rfl rfl (Le.refl _) (by exact trivial) rfl rfl rfl rfl
   ·replace h := ite_f hc2 h
    refine WC.skip (WQ.thenNormal (WC.region ?_))
    obtain ⟨g3, h⟩ := grd h
    refine lr 9 rfl (by repeat' (first | exact trivial | assumption | intro _ | exact g3 (by assumption) | apply And.intro | exact sideT | (refine and_i ?_ ?_))) ?_
    refine WL.nil (WQ.blockNormal (WQ.thenNormal (WC.region ?_)))
    refine lr 3 rfl trivial ?_
    refine WL.nil ?_
    cases h
    exact WQ.next [] ((IntKind.i64.wrap (i + (1 : Int))), (IntKind.i64.wrap ((IntKind.i64.wrap ((10 : Int) * n12)) + (IntKind.i64.wrap (IntKind.u8.wrap (((s.getD i.toNat 0).toNat : Int) - (48 : Int))))))) ⟨(by exact ⟨rfl, rfl, rfl, trivial⟩), (by exact trivial), rfl, rfl, rfl, rfl⟩ (hn1 _ hf1)
  ·replace h := ite_f hc1 h
   refine WC.exit (WQ.thenExit ?_)
   cases h
   have he := he1 _ hf1
   subst he
   replace h := hk1
   try dsimp only at h
   refine WQ.thenExit (WQ.blockExit ?_)
   exact WQ.cut [] n12 ⟨(by exact ⟨rfl, trivial⟩), (by exact trivial), rfl, rfl, rfl, rfl⟩ h
 ·intro n1 h
  replace h : r08Num_j1 n1 = some _ := h
  unfold r08Num_j1 at h
  show WC _ _ _ ⟨[(3, .v (.int .i64 n1))], []⟩ _ _
  refine WC.seq (WC.region ?_)
  refine lr 2 rfl trivial ?_
  refine WL.nil (WQ.thenNormal (WC.ret ?_))
  cases h
  exact WQ.rets tbOk hR [] (.inl rfl) rfl rfl (Le.refl _) (by exact trivial) rfl rfl rfl rfl

theorem refShare_con {wg : World} (hw : WG wg) {s : Str} {r : Int} (h : refShare s = some r) : Con Tryz.prog wg gl 37 [.v (.str s)] [] (.v (.int .i64 r)) [] := by
 unfold refShare at h
 refine con_of_WC (S := slotsOf 0 _) Tryz.func37 rfl Tryz.ntmps37 rfl (fun t x hx => (slotsOf_get hx).2) ?_
 intro F L w ρ0 R hR
 show WC _ _ _ ⟨[(0, .v (.str s))], []⟩ _ _
 refine WC.seq (WC.region ?_)
 refine lr 1 rfl trivial ?_
 refine WL.nil (WQ.thenNormal (WC.seq (WC.region ?_)))
 refine lr 3 rfl trivial ?_
 refine WL.nil (WQ.thenNormal (WC.seq (WC.seq (WC.region ?_))))
 refine lr 1 rfl trivial ?_
 refine WL.nil (WQ.thenNormal ?_)
 refine WC.thenCut (X := Int) (fun gG => ⟨[(3, .v (.int .i64 gG))], []⟩) (fun gG => refShare_j1 gG = some r) ?_ ?_
 ·refine WC.block ?_
  obtain ⟨eQ1, hl1, hk1⟩ := bnd h
  clear h
  refine WC.loop (σ := Int × Bool × Int × Int) (τ := (Int)) (fun sS => ⟨[(6, .v (.int .i64 sS.1)), (5, .v (.bool sS.2.1)), (4, .v (.int .i64 sS.2.2.1)), (3, .v (.int .i64 sS.2.2.2)), (0, .v (.str s))], []⟩) (refShare_b1 s) [] ((0 : Int), false, (10000 : Int), (0 : Int)) hl1 ⟨(by exact ⟨rfl, rfl, rfl, rfl, rfl, trivial⟩), (by exact trivial), rfl, rfl, rfl, rfl⟩ ?_
  rintro ⟨i, point, place, n12⟩ m hn1 he1 hx1
  obtain ⟨o1, hf1⟩ := some_of hx1
  have h := hf1
  unfold refShare_b1 at h
  show WC _ _ _ ⟨[(6, .v (.int .i64 i)), (5, .v (.bool point)), (4, .v (.int .i64 place)), (3, .v (.int .i64 n12)), (0, .v (.str s))], []⟩ _ _
  refine WC.seq (WC.seq (WC.region ?_))
  refine lr 8 rfl (by exact sideR) ?_
  refine WL.nil (WQ.thenNormal ?_)
  refine WC.cond rfl (fun hc1 => ?_) (fun hc1 => ?_)
  ·replace h := ite_t hc1 h
   refine WC.skip (WQ.thenNormal (WC.seq ?_))
   refine WC.thenCut (X := Bool × Int × Int) (fun gG => ⟨[(5, .v (.bool gG.1)), (6, .v (.int .i64 i)), (4, .v (.int .i64 gG.2.1)), (3, .v (.int .i64 gG.2.2)), (0, .v (.str s))], []⟩) (fun gG => refShare_j2 s i gG.1 gG.2.1 gG.2.2 = some o1) ?_ ?_
   ·refine WC.block (WC.block (WC.seq (WC.region ?_)))
    obtain ⟨g1, h⟩ := grd h
    refine lr 5 rfl (by repeat' (first | exact trivial | assumption | intro _ | exact g1 (by assumption) | apply And.intro | exact sideT | (refine and_i ?_ ?_))) ?_
    refine WL.nil (WQ.thenNormal ?_)
    refine WC.cond rfl (fun hc2 => ?_) (fun hc2 => ?_)
    ·replace h := ite_t hc2 h
     refine WC.region ?_
     refine lr 1 rfl trivial ?_
     refine WL.nil (WQ.blockNormal (WQ.blockNormal ?_))
     exact WQ.cut [] (true, place, n12) ⟨(by exact ⟨rfl, rfl, rfl, rfl, rfl, trivial⟩), (by exact trivial), rfl, rfl, rfl, rfl⟩ h
    ·replace h := ite_f hc2 h
     refine WC.seq (WC.region ?_)
     obtain ⟨g2, h⟩ := grd h
     obtain ⟨g3, h⟩ := grd h
     refine lr 15 rfl (by repeat' (first | exact trivial | assumption | intro _ | exact g2 (by assumption) | exact g3 (by assumption) | apply And.intro | exact sideT | (refine and_i ?_ ?_))) ?_
     refine WL.nil (WQ.thenNormal ?_)
     refine WC.cond rfl (fun hc3 => ?_) (fun hc3 => ?_)
     ·replace h := ite_t hc3 h
      refine WC.region ?_
      obtain ⟨g4, h⟩ := grd h
      refine lr 10 rfl (by repeat' (first | exact trivial | assumption | intro _ | exact g4 (by assumption) | apply And.intro | exact sideT | (refine and_i ?_ ?_))) ?_
      refine WL.nil (WQ.blockNormal (WQ.blockNormal ?_))
      exact WQ.cut [] (point, place, (IntKind.i64.wrap ((IntKind.i64.wrap ((10 : Int) * n12)) + (IntKind.i64.wrap ((10000 : Int) * (IntKind.i64.wrap (IntKind.u8.wrap (((s.getD i.toNat 0).toNat : Int) - (48 : Int))))))))) ⟨(by exact ⟨rfl, rfl, rfl, rfl, rfl, trivial⟩), (by exact trivial), rfl, rfl, rfl, rfl⟩ h
     ·replace h := ite_f hc3 h
      refine WC.seq (WC.region ?_)
      obtain ⟨g5, h⟩ := grd h
      obtain ⟨g6, h⟩ := grd h
      refine lr 11 rfl (by repeat' (first | exact trivial | assumption | intro _ | exact g5 (by assumption) | exact g6 (by assumption) | apply And.intro | exact sideT | (refine and_i ?_ ?_))) ?_
      refine WL.nil (WQ.thenNormal ?_)
      refine WC.cond rfl (fun hc4 => ?_) (fun hc4 => ?_)
      ·replace h := ite_t hc4 h
       refine WC.seq (WC.region ?_)
       refine lr 3 rfl (by exact sideR) ?_
       refine WL.nil (WQ.thenNormal (WC.region ?_))
       obtain ⟨g7, h⟩ := grd h
       refine lr 10 rfl (by repeat' (first | exact trivial | assumption | intro _ | exact g7 (by assumption) | apply And.intro | exact sideT | (refine and_i ?_ ?_))) ?_
       refine WL.nil (WQ.blockNormal (WQ.blockNormal ?_))
       exact WQ.cut [] (point, (IntKind.i64.wrap (place.tdiv (10 : Int))), (IntKind.i64.wrap (n12 + (IntKind.i64.wrap ((IntKind.i64.wrap (place.tdiv (10 : Int))) * (IntKind.i64.wrap (IntKind.u8.wrap (((s.getD i.toNat 0).toNat : Int) - (48 : Int))))))))) ⟨(by exact ⟨rfl, rfl, rfl, rfl, rfl, trivial⟩), (by exact trivial), rfl, rfl, rfl, rfl⟩ h
      ·replace h := ite_f hc4 h
       refine WC.skip (WQ.blockNormal (WQ.blockNormal ?_))
       exact WQ.cut [] (point, place, n12) ⟨(by exact ⟨rfl, rfl, rfl, rfl, rfl, trivial⟩), (by exact trivial), rfl, rfl, rfl, rfl⟩ h
   ·rintro ⟨point4, place4, n16⟩ h
    replace h : refShare_j2 s i point4 place4 n16 = some _ := h
    unfold refShare_j2 at h
    show WC _ _ _ ⟨[(5, .v (.bool point4)), (6, .v (.int .i64 i)), (4, .v (.int .i64 place4)), (3, .v (.int .i64 n16)), (0, .v (.str s))], []⟩ _ _
    refine WC.region ?_
    refine lr 3 rfl trivial ?_
    refine WL.nil ?_
    cases h
    exact WQ.next [] ((IntKind.i64.wrap (i + (1 : Int))), point4, place4, n16) ⟨(by exact ⟨rfl, rfl, rfl, rfl, rfl, trivial⟩), (by exact trivial), rfl, rfl, rfl, rfl⟩ (hn1 _ hf1)
  ·replace h := ite_f hc1 h
   refine WC.exit (WQ.thenExit ?_)
   cases h
   have he := he1 _ hf1
   subst he
   replace h := hk1
   try dsimp only at h
   refine WQ.thenExit (WQ.blockExit ?_)
   exact WQ.cut [] n12 ⟨(by exact ⟨rfl, trivial⟩), (by exact trivial), rfl, rfl, rfl, rfl⟩ h
 ·intro n1 h
  replace h : refShare_j1 n1 = some _ := h
  unfold refShare_j1 at h
  show WC _ _ _ ⟨[(3, .v (.int .i64 n1))], []⟩ _ _
  refine WC.seq (WC.region ?_)
  refine lr 2 rfl trivial ?_
  refine WL.nil (WQ.thenNormal (WC.ret ?_))
  cases h
  exact WQ.rets tbOk hR [] (.inl rfl) rfl rfl (Le.refl _) (by exact trivial) rfl rfl rfl rfl

end Go.Proofs.YtinickkcieecdaaGreatDoor
