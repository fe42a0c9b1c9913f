/- Contracts: the program's functions compute the plain ones; by program (gen.py). -/
import Derived.Test.YtlacgaihahemmaaGreatDoorLib
import Derived.Test.YtlacgaihahemmaaGreatDoorPb
import Derived.Test.YtlacgaihahemmaaGreatDoorCa
set_option linter.unusedVariables false
set_option linter.unusedSimpArgs false
namespace Go.Proofs.YtlacgaihahemmaaGreatDoor
open Go.V Go.C

theorem isWord_con {wg : World} (hw : WG wg) {s : Str} {r : Bool} (h : isWord s = some r) : Con Tryz.prog wg gl 116 [.v (.str s)] [] (.v (.bool r)) [] := by
  unfold isWord at h
  refine con_of_WC (S := slotsOf 0 _) Tryz.func116 rfl Tryz.ntmps116 rfl (fun t x hx => (slotsOf_get hx).2) ?_
  intro F L w ρ0 R hR
  show WC _ _ _ ⟨[(0, .v (.str s))], []⟩ _ _
  refine WC.seq ?_
  refine WC.region ?_
  refine WL.run tbOk 1 (acc := []) rfl trivial ?_
  refine WL.nil ?_
  refine WQ.thenNormal ?_
  refine WC.seq ?_
  refine WC.seq ?_
  refine WC.region ?_
  refine WL.run tbOk 8 (acc := []) rfl (by repeat' (first | exact trivial | assumption | intro _ | apply And.intro | (refine not_i ?_; assumption) | (refine and_l ?_; assumption) | (refine and_i ?_ ?_) | decide | omega | (simp [vcs]; done) | (simp only [List.length_map]; omega))) ?_
  refine WL.nil ?_
  refine WQ.thenNormal ?_
  refine WC.cond rfl (fun hc1 => ?_) (fun hc1 => ?_)
  · replace h := ite_t hc1 h
    refine WC.seq ?_
    refine WC.region ?_
    refine WL.run tbOk 1 (acc := []) rfl trivial ?_
    refine WL.nil ?_
    refine WQ.thenNormal ?_
    refine WC.ret ?_
    refine WQ.thenRet ?_
    cases h
    exact WQ.rets tbOk hR [] (.inl rfl) rfl rfl (Le.refl _) (by exact trivial) rfl rfl rfl rfl
  · replace h := ite_f hc1 h
    refine WC.skip ?_
    refine WQ.thenNormal ?_
    refine WC.seq ?_
    refine WC.seq ?_
    refine WC.region ?_
    refine WL.run tbOk 1 (acc := []) rfl trivial ?_
    refine WL.range tbOk rfl rfl rfl rfl (by exact trivial) rfl ?_
    refine WL.nil ?_
    refine WQ.thenNormal ?_
    refine WC.thenCut (X := Unit) (fun gG => ⟨[], []⟩) (fun gG => isWord_j1  = some r) ?_ ?_
    · refine WC.block ?_
      obtain ⟨eQ1, hl1, hk1⟩ := bnd h
      clear h
      refine WC.loop (σ := Nat) (τ := ((Bool) ⊕ (Unit))) (fun sS => ⟨[(14, .r 14)], [(14, .it s sS)]⟩) (isWord_b1 s) [] 0 hl1 ⟨(by exact ⟨rfl, trivial⟩), (by exact ⟨rfl, trivial⟩), rfl, rfl, rfl, rfl⟩ ?_
      intro pos m hn1 he1 hx1
      obtain ⟨o1, hf1⟩ := some_of hx1
      have h := hf1
      unfold isWord_b1 at h
      show WC _ _ _ ⟨[(14, .r 14)], [(14, .it s pos)]⟩ _ _
      refine WC.seq ?_
      refine WC.region ?_
      refine WL.next rfl rfl rfl rfl (by repeat' (first | exact trivial | assumption | intro _ | apply And.intro | (refine not_i ?_; assumption) | (refine and_l ?_; assumption) | (refine and_i ?_ ?_) | decide | omega | (simp [vcs]; done) | (simp only [List.length_map]; omega))) rfl (fun hx1 => ?_) (fun hx1 => ?_)
      · replace h := ifp hx1 h
        refine WL.run tbOk 1 (acc := []) rfl trivial ?_
        refine WL.nil ?_
        refine WQ.thenNormal ?_
        refine WC.seq ?_
        refine WC.cond (b := true) rfl (fun hc2 => ?_) (fun hc2 => by cases hc2)
        refine WC.skip ?_
        refine WQ.thenNormal ?_
        refine WC.block ?_
        refine WC.seq ?_
        refine WC.region ?_
        refine WL.run tbOk 2 (acc := []) rfl trivial ?_
        refine WL.nil ?_
        refine WQ.thenNormal ?_
        refine WC.seq ?_
        refine WC.region ?_
        refine WL.run tbOk 6 (acc := []) rfl (by repeat' (first | exact trivial | assumption | intro _ | apply And.intro | (refine not_i ?_; assumption) | (refine and_l ?_; assumption) | (refine and_i ?_ ?_) | decide | omega | (simp [vcs]; done) | (simp only [List.length_map]; omega))) ?_
        refine WL.nil ?_
        refine WQ.thenNormal ?_
        refine WC.cond rfl (fun hc3 => ?_) (fun hc3 => ?_)
        · replace h := ite_t hc3 h
          refine WC.seq ?_
          refine WC.region ?_
          refine WL.run tbOk 1 (acc := []) rfl trivial ?_
          refine WL.nil ?_
          refine WQ.thenNormal ?_
          refine WC.ret ?_
          refine WQ.blockRet ?_
          cases h
          have he := he1 _ hf1
          subst he
          have h : some false = some _ := hk1
          refine WQ.thenRet ?_
          refine WQ.blockRet ?_
          refine WQ.thenRet ?_
          cases h
          exact WQ.rets tbOk hR [] (.inl rfl) rfl rfl (Le.refl _) (by exact trivial) rfl rfl rfl rfl
        · replace h := ite_f hc3 h
          refine WC.skip ?_
          refine WQ.blockNormal ?_
          cases h
          exact WQ.next [] (pos + runeW s pos) ⟨(by exact ⟨rfl, trivial⟩), (by exact ⟨rfl, trivial⟩), rfl, rfl, rfl, rfl⟩ (hn1 _ hf1)
      · replace h := ifn hx1 h
        refine WL.run tbOk 1 (acc := []) rfl trivial ?_
        refine WL.nil ?_
        refine WQ.thenNormal ?_
        refine WC.seq ?_
        refine WC.cond (b := false) rfl (fun hc4 => by cases hc4) (fun hc4 => ?_)
        refine WC.exit ?_
        refine WQ.thenExit ?_
        cases h
        have he := he1 _ hf1
        subst he
        replace h := hk1
        try dsimp only at h
        refine WQ.thenExit ?_
        refine WQ.blockExit ?_
        exact WQ.cut [] () ⟨(by exact trivial), (by exact trivial), rfl, rfl, rfl, rfl⟩ h
    · intro _ h
      replace h : isWord_j1 = some _ := h
      unfold isWord_j1 at h
      show WC _ _ _ ⟨[], []⟩ _ _
      refine WC.seq ?_
      refine WC.region ?_
      refine WL.run tbOk 1 (acc := []) rfl trivial ?_
      refine WL.nil ?_
      refine WQ.thenNormal ?_
      refine WC.ret ?_
      cases h
      exact WQ.rets tbOk hR [] (.inl rfl) rfl rfl (Le.refl _) (by exact trivial) rfl rfl rfl rfl

theorem validWords_con {wg : World} (hw : WG wg) {l : (List Str)} {r : Bool} (h : validWords l = some r) : Con Tryz.prog wg gl 98 [.v (.sl 1 (l.map eStr))] [] (.v (.bool r)) [] := by
  unfold validWords at h
  refine con_of_WC (S := slotsOf 0 _) Tryz.func98 rfl Tryz.ntmps98 rfl (fun t x hx => (slotsOf_get hx).2) ?_
  intro F L w ρ0 R hR
  show WC _ _ _ ⟨[(0, .v (.sl 1 (l.map eStr)))], []⟩ _ _
  refine WC.seq ?_
  refine WC.region ?_
  refine WL.run tbOk 1 (acc := []) rfl trivial ?_
  refine WL.nil ?_
  refine WQ.thenNormal ?_
  refine WC.seq ?_
  refine WC.seq ?_
  refine WC.region ?_
  refine WL.run tbOk 1 (acc := []) rfl trivial ?_
  refine WL.q [] rfl rfl rfl (q_ev tbOk (.v (.int .i64 (l.length : Int))) rfl (by exact trivial) (by first | (simp only [List.length_map]; done) | (simp only [List.length_map]; rfl) | rfl)) ?_
  refine WL.run tbOk 1 (acc := []) rfl trivial ?_
  refine WL.nil ?_
  refine WQ.thenNormal ?_
  refine WC.cond rfl (fun hc1 => ?_) (fun hc1 => ?_)
  · replace h := ite_t hc1 h
    refine WC.seq ?_
    refine WC.region ?_
    refine WL.run tbOk 1 (acc := []) rfl trivial ?_
    refine WL.nil ?_
    refine WQ.thenNormal ?_
    refine WC.ret ?_
    refine WQ.thenRet ?_
    cases h
    exact WQ.rets tbOk hR [] (.inl rfl) rfl rfl (Le.refl _) (by exact trivial) rfl rfl rfl rfl
  · replace h := ite_f hc1 h
    refine WC.skip ?_
    refine WQ.thenNormal ?_
    refine WC.seq ?_
    refine WC.seq ?_
    refine WC.region ?_
    refine WL.run tbOk 1 (acc := []) rfl trivial ?_
    refine WL.q [] rfl rfl rfl (q_ev tbOk (.v (.int .i64 (l.length : Int))) rfl (by exact trivial) (by first | (simp only [List.length_map]; done) | (simp only [List.length_map]; rfl) | rfl)) ?_
    refine WL.run tbOk 1 (acc := []) rfl trivial ?_
    refine WL.nil ?_
    refine WQ.thenNormal ?_
    refine WC.thenCut (X := Unit) (fun gG => ⟨[], []⟩) (fun gG => validWords_j1  = some r) ?_ ?_
    · refine WC.block ?_
      obtain ⟨eQ1, hl1, hk1⟩ := bnd h
      clear h
      refine WC.loop (σ := Int) (τ := ((Bool) ⊕ (Unit))) (fun sS => ⟨[(10, .v (.int .i64 sS)), (9, .v (.int .i64 (l.length : Int))), (8, .v (.sl 1 (l.map eStr))), (0, .v (.sl 1 (l.map eStr)))], []⟩) (validWords_b1 l) [] (0 : Int) hl1 ⟨(by exact ⟨rfl, rfl, rfl, rfl, trivial⟩), (by exact trivial), rfl, rfl, rfl, rfl⟩ ?_
      intro t10 m hn1 he1 hx1
      obtain ⟨o1, hf1⟩ := some_of hx1
      have h := hf1
      unfold validWords_b1 at h
      show WC _ _ _ ⟨[(10, .v (.int .i64 t10)), (9, .v (.int .i64 (l.length : Int))), (8, .v (.sl 1 (l.map eStr))), (0, .v (.sl 1 (l.map eStr)))], []⟩ _ _
      refine WC.seq ?_
      refine WC.region ?_
      refine WL.run tbOk 1 (acc := []) rfl trivial ?_
      refine WL.nil ?_
      refine WQ.thenNormal ?_
      refine WC.seq ?_
      refine WC.cond rfl (fun hc2 => ?_) (fun hc2 => ?_)
      · replace h := ite_t hc2 h
        refine WC.skip ?_
        refine WQ.thenNormal ?_
        refine WC.seq ?_
        refine WC.block ?_
        refine WC.seq ?_
        refine WC.region ?_
        refine WL.run tbOk 1 (acc := []) rfl trivial ?_
        obtain ⟨g1, h⟩ := grd h
        obtain ⟨x2, hxx2, h⟩ := bnd h
        refine WL.q [] rfl rfl rfl (q_idx tbOk rfl (by exact trivial) g1 (map_get (f := eStr) hxx2)) ?_
        refine WL.run tbOk 3 (acc := []) rfl trivial ?_
        refine WL.nil ?_
        refine WQ.thenNormal ?_
        refine WC.seq ?_
        refine WC.region ?_
        refine WL.run tbOk 1 (acc := []) rfl trivial ?_
        obtain ⟨v2, hvv2, h⟩ := bnd h
        refine WL.call0 fn116 rfl rfl rfl rfl (by exact trivial) rfl (isWord_con hw hvv2) ?_
        refine WL.run tbOk 9 (acc := []) rfl (by repeat' (first | exact trivial | assumption | intro _ | apply And.intro | (refine not_i ?_; assumption) | (refine and_l ?_; assumption) | (refine and_i ?_ ?_) | decide | omega | (simp [vcs]; done) | (simp only [List.length_map]; omega))) ?_
        obtain ⟨g2, h⟩ := grd h
        refine WL.gq [] rfl rfl rfl rfl (fun hg => q_idx tbOk rfl (by repeat' (first | exact trivial | assumption | intro _ | apply And.intro | (refine not_i ?_; assumption) | (refine and_l ?_; assumption) | (refine and_i ?_ ?_) | decide | omega | (simp [vcs]; done) | (simp only [List.length_map]; omega))) (g2 hg).1 (map_getD (f := eStr) (g2 hg).2 (g2 hg).1)) ?_
        refine WL.run tbOk 4 (acc := []) rfl (by repeat' (first | exact trivial | assumption | intro _ | apply And.intro | (refine not_i ?_; assumption) | (refine and_l ?_; assumption) | (refine and_i ?_ ?_) | decide | omega | (simp [vcs]; done) | (simp only [List.length_map]; omega))) ?_
        refine WL.nil ?_
        refine WQ.thenNormal ?_
        refine WC.cond rfl (fun hc3 => ?_) (fun hc3 => ?_)
        · replace h := ite_t hc3 h
          refine WC.seq ?_
          refine WC.region ?_
          refine WL.run tbOk 1 (acc := []) rfl trivial ?_
          refine WL.nil ?_
          refine WQ.thenNormal ?_
          refine WC.ret ?_
          refine WQ.blockRet ?_
          refine WQ.thenRet ?_
          cases h
          have he := he1 _ hf1
          subst he
          have h : some false = some _ := hk1
          refine WQ.thenRet ?_
          refine WQ.blockRet ?_
          refine WQ.thenRet ?_
          cases h
          exact WQ.rets tbOk hR [] (.inl rfl) rfl rfl (Le.refl _) (by exact trivial) rfl rfl rfl rfl
        · replace h := ite_f hc3 h
          refine WC.skip ?_
          refine WQ.blockNormal ?_
          refine WQ.thenNormal ?_
          refine WC.region ?_
          refine WL.run tbOk 2 (acc := []) rfl trivial ?_
          refine WL.nil ?_
          cases h
          exact WQ.next [] (IntKind.i64.wrap (t10 + (1 : Int))) ⟨(by exact ⟨rfl, rfl, rfl, rfl, trivial⟩), (by exact trivial), rfl, rfl, rfl, rfl⟩ (hn1 _ hf1)
      · replace h := ite_f hc2 h
        refine WC.exit ?_
        refine WQ.thenExit ?_
        cases h
        have he := he1 _ hf1
        subst he
        replace h := hk1
        try dsimp only at h
        refine WQ.thenExit ?_
        refine WQ.blockExit ?_
        exact WQ.cut [] () ⟨(by exact trivial), (by exact trivial), rfl, rfl, rfl, rfl⟩ h
    · intro _ h
      replace h : validWords_j1 = some _ := h
      unfold validWords_j1 at h
      show WC _ _ _ ⟨[], []⟩ _ _
      refine WC.seq ?_
      refine WC.region ?_
      refine WL.run tbOk 1 (acc := []) rfl trivial ?_
      refine WL.nil ?_
      refine WQ.thenNormal ?_
      refine WC.ret ?_
      cases h
      exact WQ.rets tbOk hR [] (.inl rfl) rfl rfl (Le.refl _) (by exact trivial) rfl rfl rfl rfl

theorem isNaNS_con {wg : World} (hw : WG wg) {x : Str} {r : Bool} (h : isNaNS x = some r) : Con Tryz.prog wg gl 117 [.v (.str x)] [] (.v (.bool r)) [] := by
  unfold isNaNS at h
  refine con_of_WC (S := slotsOf 0 _) Tryz.func117 rfl Tryz.ntmps117 rfl (fun t x hx => (slotsOf_get hx).2) ?_
  intro F L w ρ0 R hR
  show WC _ _ _ ⟨[(0, .v (.str x))], []⟩ _ _
  refine WC.seq ?_
  refine WC.region ?_
  refine WL.run tbOk 1 (acc := []) rfl trivial ?_
  refine WL.nil ?_
  refine WQ.thenNormal ?_
  refine WC.seq ?_
  refine WC.region ?_
  refine WL.run tbOk 4 (acc := []) rfl trivial ?_
  refine WL.nil ?_
  refine WQ.thenNormal ?_
  refine WC.ret ?_
  cases h
  exact WQ.rets tbOk hR [] (.inl rfl) rfl rfl (Le.refl _) (by exact trivial) rfl rfl rfl rfl

theorem cmpStr_con {wg : World} (hw : WG wg) {x : Str} {y : Str} {r : Int} (h : cmpStr x y = some r) : Con Tryz.prog wg gl 99 [.v (.str x), .v (.str y)] [] (.v (.int .i64 r)) [] := by
  unfold cmpStr at h
  refine con_of_WC (S := slotsOf 0 _) Tryz.func99 rfl Tryz.ntmps99 rfl (fun t x hx => (slotsOf_get hx).2) ?_
  intro F L w ρ0 R hR
  show WC _ _ _ ⟨[(0, .v (.str x)), (1, .v (.str y))], []⟩ _ _
  refine WC.seq ?_
  refine WC.region ?_
  refine WL.run tbOk 1 (acc := []) rfl trivial ?_
  refine WL.nil ?_
  refine WQ.thenNormal ?_
  refine WC.seq ?_
  refine WC.region ?_
  refine WL.run tbOk 1 (acc := []) rfl trivial ?_
  obtain ⟨v, hvv, h⟩ := bnd h
  refine WL.call0 fn117 rfl rfl rfl rfl (by exact trivial) rfl (isNaNS_con hw hvv) ?_
  refine WL.run tbOk 1 (acc := []) rfl trivial ?_
  refine WL.nil ?_
  refine WQ.thenNormal ?_
  refine WC.seq ?_
  refine WC.region ?_
  refine WL.run tbOk 1 (acc := []) rfl trivial ?_
  obtain ⟨v2, hvv2, h⟩ := bnd h
  refine WL.call0 fn117 rfl rfl rfl rfl (by exact trivial) rfl (isNaNS_con hw hvv2) ?_
  refine WL.run tbOk 1 (acc := []) rfl trivial ?_
  refine WL.nil ?_
  refine WQ.thenNormal ?_
  refine WC.seq ?_
  refine WC.seq ?_
  refine WC.region ?_
  refine WL.run tbOk 1 (acc := []) rfl trivial ?_
  refine WL.nil ?_
  refine WQ.thenNormal ?_
  refine WC.cond rfl (fun hc1 => ?_) (fun hc1 => ?_)
  · replace h := ite_t hc1 h
    refine WC.seq ?_
    refine WC.seq ?_
    refine WC.region ?_
    refine WL.run tbOk 1 (acc := []) rfl trivial ?_
    refine WL.nil ?_
    refine WQ.thenNormal ?_
    refine WC.cond rfl (fun hc2 => ?_) (fun hc2 => ?_)
    · replace h := ite_t hc2 h
      refine WC.seq ?_
      refine WC.region ?_
      refine WL.run tbOk 1 (acc := []) rfl trivial ?_
      refine WL.nil ?_
      refine WQ.thenNormal ?_
      refine WC.ret ?_
      refine WQ.thenRet ?_
      refine WQ.thenRet ?_
      cases h
      exact WQ.rets tbOk hR [] (.inl rfl) rfl rfl (Le.refl _) (by exact trivial) rfl rfl rfl rfl
    · replace h := ite_f hc2 h
      refine WC.skip ?_
      refine WQ.thenNormal ?_
      refine WC.seq ?_
      refine WC.region ?_
      refine WL.run tbOk 1 (acc := []) rfl trivial ?_
      refine WL.nil ?_
      refine WQ.thenNormal ?_
      refine WC.ret ?_
      refine WQ.thenRet ?_
      cases h
      exact WQ.rets tbOk hR [] (.inl rfl) rfl rfl (Le.refl _) (by exact trivial) rfl rfl rfl rfl
  · replace h := ite_f hc1 h
    refine WC.skip ?_
    refine WQ.thenNormal ?_
    refine WC.seq ?_
    refine WC.seq ?_
    refine WC.region ?_
    refine WL.run tbOk 1 (acc := []) rfl trivial ?_
    refine WL.nil ?_
    refine WQ.thenNormal ?_
    refine WC.cond rfl (fun hc3 => ?_) (fun hc3 => ?_)
    · replace h := ite_t hc3 h
      refine WC.seq ?_
      refine WC.region ?_
      refine WL.run tbOk 1 (acc := []) rfl trivial ?_
      refine WL.nil ?_
      refine WQ.thenNormal ?_
      refine WC.ret ?_
      refine WQ.thenRet ?_
      cases h
      exact WQ.rets tbOk hR [] (.inl rfl) rfl rfl (Le.refl _) (by exact trivial) rfl rfl rfl rfl
    · replace h := ite_f hc3 h
      refine WC.skip ?_
      refine WQ.thenNormal ?_
      refine WC.seq ?_
      refine WC.seq ?_
      refine WC.region ?_
      refine WL.run tbOk 3 (acc := []) rfl trivial ?_
      refine WL.nil ?_
      refine WQ.thenNormal ?_
      refine WC.cond rfl (fun hc4 => ?_) (fun hc4 => ?_)
      · replace h := ite_t hc4 h
        refine WC.seq ?_
        refine WC.region ?_
        refine WL.run tbOk 1 (acc := []) rfl trivial ?_
        refine WL.nil ?_
        refine WQ.thenNormal ?_
        refine WC.ret ?_
        refine WQ.thenRet ?_
        cases h
        exact WQ.rets tbOk hR [] (.inl rfl) rfl rfl (Le.refl _) (by exact trivial) rfl rfl rfl rfl
      · replace h := ite_f hc4 h
        refine WC.skip ?_
        refine WQ.thenNormal ?_
        refine WC.seq ?_
        refine WC.seq ?_
        refine WC.region ?_
        refine WL.run tbOk 3 (acc := []) rfl trivial ?_
        refine WL.nil ?_
        refine WQ.thenNormal ?_
        refine WC.cond rfl (fun hc5 => ?_) (fun hc5 => ?_)
        · replace h := ite_t hc5 h
          refine WC.seq ?_
          refine WC.region ?_
          refine WL.run tbOk 1 (acc := []) rfl trivial ?_
          refine WL.nil ?_
          refine WQ.thenNormal ?_
          refine WC.ret ?_
          refine WQ.thenRet ?_
          cases h
          exact WQ.rets tbOk hR [] (.inl rfl) rfl rfl (Le.refl _) (by exact trivial) rfl rfl rfl rfl
        · replace h := ite_f hc5 h
          refine WC.skip ?_
          refine WQ.thenNormal ?_
          refine WC.seq ?_
          refine WC.region ?_
          refine WL.run tbOk 1 (acc := []) rfl trivial ?_
          refine WL.nil ?_
          refine WQ.thenNormal ?_
          refine WC.ret ?_
          cases h
          exact WQ.rets tbOk hR [] (.inl rfl) rfl rfl (Le.refl _) (by exact trivial) rfl rfl rfl rfl

theorem isNaN_con {wg : World} (hw : WG wg) {x : Int} {r : Bool} (h : isNaN x = some r) : Con Tryz.prog wg gl 118 [.v (.int .i64 x)] [] (.v (.bool r)) [] := by
  unfold isNaN at h
  refine con_of_WC (S := slotsOf 0 _) Tryz.func118 rfl Tryz.ntmps118 rfl (fun t x hx => (slotsOf_get hx).2) ?_
  intro F L w ρ0 R hR
  show WC _ _ _ ⟨[(0, .v (.int .i64 x))], []⟩ _ _
  refine WC.seq ?_
  refine WC.region ?_
  refine WL.run tbOk 1 (acc := []) rfl trivial ?_
  refine WL.nil ?_
  refine WQ.thenNormal ?_
  refine WC.seq ?_
  refine WC.region ?_
  refine WL.run tbOk 4 (acc := []) rfl trivial ?_
  refine WL.nil ?_
  refine WQ.thenNormal ?_
  refine WC.ret ?_
  cases h
  exact WQ.rets tbOk hR [] (.inl rfl) rfl rfl (Le.refl _) (by exact trivial) rfl rfl rfl rfl

theorem cmpInt_con {wg : World} (hw : WG wg) {x : Int} {y : Int} {r : Int} (h : cmpInt x y = some r) : Con Tryz.prog wg gl 100 [.v (.int .i64 x), .v (.int .i64 y)] [] (.v (.int .i64 r)) [] := by
  unfold cmpInt at h
  refine con_of_WC (S := slotsOf 0 _) Tryz.func100 rfl Tryz.ntmps100 rfl (fun t x hx => (slotsOf_get hx).2) ?_
  intro F L w ρ0 R hR
  show WC _ _ _ ⟨[(0, .v (.int .i64 x)), (1, .v (.int .i64 y))], []⟩ _ _
  refine WC.seq ?_
  refine WC.region ?_
  refine WL.run tbOk 1 (acc := []) rfl trivial ?_
  refine WL.nil ?_
  refine WQ.thenNormal ?_
  refine WC.seq ?_
  refine WC.region ?_
  refine WL.run tbOk 1 (acc := []) rfl trivial ?_
  obtain ⟨v, hvv, h⟩ := bnd h
  refine WL.call0 fn118 rfl rfl rfl rfl (by exact trivial) rfl (isNaN_con hw hvv) ?_
  refine WL.run tbOk 1 (acc := []) rfl trivial ?_
  refine WL.nil ?_
  refine WQ.thenNormal ?_
  refine WC.seq ?_
  refine WC.region ?_
  refine WL.run tbOk 1 (acc := []) rfl trivial ?_
  obtain ⟨v2, hvv2, h⟩ := bnd h
  refine WL.call0 fn118 rfl rfl rfl rfl (by exact trivial) rfl (isNaN_con hw hvv2) ?_
  refine WL.run tbOk 1 (acc := []) rfl trivial ?_
  refine WL.nil ?_
  refine WQ.thenNormal ?_
  refine WC.seq ?_
  refine WC.seq ?_
  refine WC.region ?_
  refine WL.run tbOk 1 (acc := []) rfl trivial ?_
  refine WL.nil ?_
  refine WQ.thenNormal ?_
  refine WC.cond rfl (fun hc1 => ?_) (fun hc1 => ?_)
  · replace h := ite_t hc1 h
    refine WC.seq ?_
    refine WC.seq ?_
    refine WC.region ?_
    refine WL.run tbOk 1 (acc := []) rfl trivial ?_
    refine WL.nil ?_
    refine WQ.thenNormal ?_
    refine WC.cond rfl (fun hc2 => ?_) (fun hc2 => ?_)
    · replace h := ite_t hc2 h
      refine WC.seq ?_
      refine WC.region ?_
      refine WL.run tbOk 1 (acc := []) rfl trivial ?_
      refine WL.nil ?_
      refine WQ.thenNormal ?_
      refine WC.ret ?_
      refine WQ.thenRet ?_
      refine WQ.thenRet ?_
      cases h
      exact WQ.rets tbOk hR [] (.inl rfl) rfl rfl (Le.refl _) (by exact trivial) rfl rfl rfl rfl
    · replace h := ite_f hc2 h
      refine WC.skip ?_
      refine WQ.thenNormal ?_
      refine WC.seq ?_
      refine WC.region ?_
      refine WL.run tbOk 1 (acc := []) rfl trivial ?_
      refine WL.nil ?_
      refine WQ.thenNormal ?_
      refine WC.ret ?_
      refine WQ.thenRet ?_
      cases h
      exact WQ.rets tbOk hR [] (.inl rfl) rfl rfl (Le.refl _) (by exact trivial) rfl rfl rfl rfl
  · replace h := ite_f hc1 h
    refine WC.skip ?_
    refine WQ.thenNormal ?_
    refine WC.seq ?_
    refine WC.seq ?_
    refine WC.region ?_
    refine WL.run tbOk 1 (acc := []) rfl trivial ?_
    refine WL.nil ?_
    refine WQ.thenNormal ?_
    refine WC.cond rfl (fun hc3 => ?_) (fun hc3 => ?_)
    · replace h := ite_t hc3 h
      refine WC.seq ?_
      refine WC.region ?_
      refine WL.run tbOk 1 (acc := []) rfl trivial ?_
      refine WL.nil ?_
      refine WQ.thenNormal ?_
      refine WC.ret ?_
      refine WQ.thenRet ?_
      cases h
      exact WQ.rets tbOk hR [] (.inl rfl) rfl rfl (Le.refl _) (by exact trivial) rfl rfl rfl rfl
    · replace h := ite_f hc3 h
      refine WC.skip ?_
      refine WQ.thenNormal ?_
      refine WC.seq ?_
      refine WC.seq ?_
      refine WC.region ?_
      refine WL.run tbOk 3 (acc := []) rfl trivial ?_
      refine WL.nil ?_
      refine WQ.thenNormal ?_
      refine WC.cond rfl (fun hc4 => ?_) (fun hc4 => ?_)
      · replace h := ite_t hc4 h
        refine WC.seq ?_
        refine WC.region ?_
        refine WL.run tbOk 1 (acc := []) rfl trivial ?_
        refine WL.nil ?_
        refine WQ.thenNormal ?_
        refine WC.ret ?_
        refine WQ.thenRet ?_
        cases h
        exact WQ.rets tbOk hR [] (.inl rfl) rfl rfl (Le.refl _) (by exact trivial) rfl rfl rfl rfl
      · replace h := ite_f hc4 h
        refine WC.skip ?_
        refine WQ.thenNormal ?_
        refine WC.seq ?_
        refine WC.seq ?_
        refine WC.region ?_
        refine WL.run tbOk 3 (acc := []) rfl trivial ?_
        refine WL.nil ?_
        refine WQ.thenNormal ?_
        refine WC.cond rfl (fun hc5 => ?_) (fun hc5 => ?_)
        · replace h := ite_t hc5 h
          refine WC.seq ?_
          refine WC.region ?_
          refine WL.run tbOk 1 (acc := []) rfl trivial ?_
          refine WL.nil ?_
          refine WQ.thenNormal ?_
          refine WC.ret ?_
          refine WQ.thenRet ?_
          cases h
          exact WQ.rets tbOk hR [] (.inl rfl) rfl rfl (Le.refl _) (by exact trivial) rfl rfl rfl rfl
        · replace h := ite_f hc5 h
          refine WC.skip ?_
          refine WQ.thenNormal ?_
          refine WC.seq ?_
          refine WC.region ?_
          refine WL.run tbOk 1 (acc := []) rfl trivial ?_
          refine WL.nil ?_
          refine WQ.thenNormal ?_
          refine WC.ret ?_
          cases h
          exact WQ.rets tbOk hR [] (.inl rfl) rfl rfl (Le.refl _) (by exact trivial) rfl rfl rfl rfl

theorem versionOf_con {wg : World} (hw : WG wg) {e1 : ApiCodeEntry} {r : NomenclatureVersion} (h : versionOf e1 = some r) : Con Tryz.prog wg gl 79 [.v (.agg [.str e1.Code, .int .i64 e1.From, .int .i64 e1.To, .sl 1 (e1.Terms.map eLStr), .bool e1.Other])] [] (.v (.agg [.str r.code, .int .i64 r.from_])) [] := by
  unfold versionOf at h
  refine con_of_WC (S := slotsOf 0 _) Tryz.func79 rfl Tryz.ntmps79 rfl (fun t x hx => (slotsOf_get hx).2) ?_
  intro F L w ρ0 R hR
  show WC _ _ _ ⟨[(0, .v (.agg [.str e1.Code, .int .i64 e1.From, .int .i64 e1.To, .sl 1 (e1.Terms.map eLStr), .bool e1.Other]))], []⟩ _ _
  refine WC.seq ?_
  refine WC.region ?_
  refine WL.run tbOk 2 (acc := []) rfl trivial ?_
  refine WL.nil ?_
  refine WQ.thenNormal ?_
  refine WC.seq ?_
  refine WC.region ?_
  refine WL.run tbOk 6 (acc := []) rfl trivial ?_
  refine WL.nil ?_
  refine WQ.thenNormal ?_
  refine WC.ret ?_
  cases h
  exact WQ.rets tbOk hR [] (.inl rfl) rfl rfl (Le.refl _) (by exact trivial) rfl rfl rfl rfl

theorem versionCmp_con {wg : World} (hw : WG wg) {v : NomenclatureVersion} {w1 : NomenclatureVersion} {r : Int} (h : versionCmp v w1 = some r) : Con Tryz.prog wg gl 80 [.v (.agg [.str v.code, .int .i64 v.from_]), .v (.agg [.str w1.code, .int .i64 w1.from_])] [] (.v (.int .i64 r)) [] := by
  unfold versionCmp at h
  refine con_of_WC (S := slotsOf 0 _) Tryz.func80 rfl Tryz.ntmps80 rfl (fun t x hx => (slotsOf_get hx).2) ?_
  intro F L w ρ0 R hR
  show WC _ _ _ ⟨[(0, .v (.agg [.str v.code, .int .i64 v.from_])), (1, .v (.agg [.str w1.code, .int .i64 w1.from_]))], []⟩ _ _
  refine WC.seq ?_
  refine WC.region ?_
  refine WL.run tbOk 3 (acc := []) rfl trivial ?_
  refine WL.nil ?_
  refine WQ.thenNormal ?_
  refine WC.seq ?_
  refine WC.seq ?_
  refine WC.region ?_
  refine WL.run tbOk 2 (acc := []) rfl trivial ?_
  refine WL.q [] rfl rfl rfl (q_eq rfl (by exact trivial) eg118 eqT118) ?_
  refine WL.nil ?_
  refine WQ.thenNormal ?_
  refine WC.cond rfl (fun hc1 => ?_) (fun hc1 => ?_)
  · replace h := ite_t hc1 h
    refine WC.seq ?_
    refine WC.region ?_
    refine WL.run tbOk 1 (acc := []) rfl trivial ?_
    refine WL.nil ?_
    refine WQ.thenNormal ?_
    refine WC.ret ?_
    refine WQ.thenRet ?_
    cases h
    exact WQ.rets tbOk hR [] (.inl rfl) rfl rfl (Le.refl _) (by exact trivial) rfl rfl rfl rfl
  · replace h := ite_f hc1 h
    refine WC.skip ?_
    refine WQ.thenNormal ?_
    refine WC.seq ?_
    refine WC.seq ?_
    refine WC.region ?_
    refine WL.run tbOk 5 (acc := []) rfl trivial ?_
    refine WL.nil ?_
    refine WQ.thenNormal ?_
    refine WC.cond rfl (fun hc2 => ?_) (fun hc2 => ?_)
    · replace h := ite_t hc2 h
      refine WC.seq ?_
      refine WC.region ?_
      refine WL.run tbOk 4 (acc := []) rfl trivial ?_
      obtain ⟨v2, hvv2, h⟩ := bnd h
      refine WL.call0 fn99 rfl rfl rfl rfl (by exact trivial) rfl (cmpStr_con hw hvv2) ?_
      refine WL.run tbOk 1 (acc := []) rfl trivial ?_
      refine WL.nil ?_
      refine WQ.thenNormal ?_
      refine WC.ret ?_
      refine WQ.thenRet ?_
      cases h
      exact WQ.rets tbOk hR [] (.inl rfl) rfl rfl (Le.refl _) (by exact trivial) rfl rfl rfl rfl
    · replace h := ite_f hc2 h
      refine WC.skip ?_
      refine WQ.thenNormal ?_
      refine WC.seq ?_
      refine WC.region ?_
      refine WL.run tbOk 4 (acc := []) rfl trivial ?_
      obtain ⟨v3, hvv3, h⟩ := bnd h
      refine WL.call0 fn100 rfl rfl rfl rfl (by exact trivial) rfl (cmpInt_con hw hvv3) ?_
      refine WL.run tbOk 1 (acc := []) rfl trivial ?_
      refine WL.nil ?_
      refine WQ.thenNormal ?_
      refine WC.ret ?_
      cases h
      exact WQ.rets tbOk hR [] (.inl rfl) rfl rfl (Le.refl _) (by exact trivial) rfl rfl rfl rfl

theorem nomLevel_con {wg : World} (hw : WG wg) {code : Str} {r : Int} (h : nomLevel code = some r) : Con Tryz.prog wg gl 12 [.v (.str code)] [] (.v (.int .i64 r)) [] := by
  unfold nomLevel at h
  refine con_of_WC (S := slotsOf 0 _) Tryz.func12 rfl Tryz.ntmps12 rfl (fun t x hx => (slotsOf_get hx).2) ?_
  intro F L w ρ0 R hR
  show WC _ _ _ ⟨[(0, .v (.str code))], []⟩ _ _
  refine WC.seq ?_
  refine WC.region ?_
  refine WL.run tbOk 1 (acc := []) rfl trivial ?_
  refine WL.nil ?_
  refine WQ.thenNormal ?_
  refine WC.seq ?_
  refine WC.seq ?_
  refine WC.region ?_
  refine WL.run tbOk 2 (acc := []) rfl trivial ?_
  refine WL.nil ?_
  refine WQ.thenNormal ?_
  refine WC.thenCut (X := Unit) (fun gG => ⟨[], []⟩) (fun gG => nomLevel_j1  = some r) ?_ ?_
  · refine WC.block ?_
    refine WC.rounds 5 ?_
    refine WC.seq ?_
    refine WC.region ?_
    refine WL.run tbOk 1 (acc := []) rfl trivial ?_
    refine WL.nil ?_
    refine WQ.thenNormal ?_
    refine WC.seq ?_
    refine WC.cond (b := true) rfl (fun hc1 => ?_) (fun hc1 => by cases hc1)
    refine WC.skip ?_
    refine WQ.thenNormal ?_
    refine WC.seq ?_
    refine WC.block ?_
    refine WC.seq ?_
    refine WC.region ?_
    refine WL.q [] rfl rfl rfl (q_aidx tbOk Tryz.underlying71 rfl rfl rfl rfl (by repeat' (first | exact trivial | assumption | intro _ | apply And.intro | (refine not_i ?_; assumption) | (refine and_l ?_; assumption) | (refine and_i ?_ ?_) | decide | omega | (simp [vcs]; done) | (simp only [List.length_map]; omega))) (by decide) rfl) ?_
    refine WL.run tbOk 1 (acc := []) rfl trivial ?_
    refine WL.nil ?_
    refine WQ.thenNormal ?_
    refine WC.seq ?_
    refine WC.region ?_
    refine WL.run tbOk 6 (acc := []) rfl (by repeat' (first | exact trivial | assumption | intro _ | apply And.intro | (refine not_i ?_; assumption) | (refine and_l ?_; assumption) | (refine and_i ?_ ?_) | decide | omega | (simp [vcs]; done) | (simp only [List.length_map]; omega))) ?_
    obtain ⟨v, hvv, h⟩ := bnd h
    refine WL.gcall0 fn42 rfl rfl rfl rfl rfl (fun _ => (by repeat' (first | exact trivial | assumption | intro _ | apply And.intro | (refine not_i ?_; assumption) | (refine and_l ?_; assumption) | (refine and_i ?_ ?_) | decide | omega | (simp [vcs]; done) | (simp only [List.length_map]; omega)))) rfl (fun hg => (trimS_con hw (ite_t hg hvv))) ?_
    refine WL.run tbOk 2 (acc := []) rfl (by repeat' (first | exact trivial | assumption | intro _ | apply And.intro | (refine not_i ?_; assumption) | (refine and_l ?_; assumption) | (refine and_i ?_ ?_) | decide | omega | (simp [vcs]; done) | (simp only [List.length_map]; omega))) ?_
    refine WL.nil ?_
    refine WQ.thenNormal ?_
    refine WC.cond rfl (fun hc2 => ?_) (fun hc2 => ?_)
    · replace h := ite_t hc2 h
      refine WC.seq ?_
      refine WC.region ?_
      refine WL.run tbOk 2 (acc := []) rfl trivial ?_
      refine WL.nil ?_
      refine WQ.thenNormal ?_
      refine WC.ret ?_
      refine WQ.blockRet ?_
      refine WQ.thenRet ?_
      refine WQ.thenRet ?_
      refine WQ.blockRet ?_
      refine WQ.thenRet ?_
      cases h
      exact WQ.rets tbOk hR [] (.inl rfl) rfl rfl (Le.refl _) (by exact trivial) rfl rfl rfl rfl
    · replace h := ite_f hc2 h
      refine WC.skip ?_
      refine WQ.blockNormal ?_
      refine WQ.thenNormal ?_
      refine WC.region ?_
      refine WL.run tbOk 2 (acc := []) rfl trivial ?_
      refine WL.nil ?_
      refine WQ.round ?_
      refine WC.seq ?_
      refine WC.region ?_
      refine WL.run tbOk 1 (acc := []) rfl trivial ?_
      refine WL.nil ?_
      refine WQ.thenNormal ?_
      refine WC.seq ?_
      refine WC.cond (b := true) rfl (fun hc3 => ?_) (fun hc3 => by cases hc3)
      refine WC.skip ?_
      refine WQ.thenNormal ?_
      refine WC.seq ?_
      refine WC.block ?_
      refine WC.seq ?_
      refine WC.region ?_
      refine WL.q [] rfl rfl rfl (q_aidx tbOk Tryz.underlying71 rfl rfl rfl rfl (by repeat' (first | exact trivial | assumption | intro _ | apply And.intro | (refine not_i ?_; assumption) | (refine and_l ?_; assumption) | (refine and_i ?_ ?_) | decide | omega | (simp [vcs]; done) | (simp only [List.length_map]; omega))) (by decide) rfl) ?_
      refine WL.run tbOk 1 (acc := []) rfl trivial ?_
      refine WL.nil ?_
      refine WQ.thenNormal ?_
      refine WC.seq ?_
      refine WC.region ?_
      refine WL.run tbOk 6 (acc := []) rfl (by repeat' (first | exact trivial | assumption | intro _ | apply And.intro | (refine not_i ?_; assumption) | (refine and_l ?_; assumption) | (refine and_i ?_ ?_) | decide | omega | (simp [vcs]; done) | (simp only [List.length_map]; omega))) ?_
      obtain ⟨v2, hvv2, h⟩ := bnd h
      refine WL.gcall0 fn42 rfl rfl rfl rfl rfl (fun _ => (by repeat' (first | exact trivial | assumption | intro _ | apply And.intro | (refine not_i ?_; assumption) | (refine and_l ?_; assumption) | (refine and_i ?_ ?_) | decide | omega | (simp [vcs]; done) | (simp only [List.length_map]; omega)))) rfl (fun hg => (trimS_con hw (ite_t hg hvv2))) ?_
      refine WL.run tbOk 2 (acc := []) rfl (by repeat' (first | exact trivial | assumption | intro _ | apply And.intro | (refine not_i ?_; assumption) | (refine and_l ?_; assumption) | (refine and_i ?_ ?_) | decide | omega | (simp [vcs]; done) | (simp only [List.length_map]; omega))) ?_
      refine WL.nil ?_
      refine WQ.thenNormal ?_
      refine WC.cond rfl (fun hc4 => ?_) (fun hc4 => ?_)
      · replace h := ite_t hc4 h
        refine WC.seq ?_
        refine WC.region ?_
        refine WL.run tbOk 2 (acc := []) rfl trivial ?_
        refine WL.nil ?_
        refine WQ.thenNormal ?_
        refine WC.ret ?_
        refine WQ.blockRet ?_
        refine WQ.thenRet ?_
        refine WQ.thenRet ?_
        refine WQ.blockRet ?_
        refine WQ.thenRet ?_
        cases h
        exact WQ.rets tbOk hR [] (.inl rfl) rfl rfl (Le.refl _) (by exact trivial) rfl rfl rfl rfl
      · replace h := ite_f hc4 h
        refine WC.skip ?_
        refine WQ.blockNormal ?_
        refine WQ.thenNormal ?_
        refine WC.region ?_
        refine WL.run tbOk 2 (acc := []) rfl trivial ?_
        refine WL.nil ?_
        refine WQ.round ?_
        refine WC.seq ?_
        refine WC.region ?_
        refine WL.run tbOk 1 (acc := []) rfl trivial ?_
        refine WL.nil ?_
        refine WQ.thenNormal ?_
        refine WC.seq ?_
        refine WC.cond (b := true) rfl (fun hc5 => ?_) (fun hc5 => by cases hc5)
        refine WC.skip ?_
        refine WQ.thenNormal ?_
        refine WC.seq ?_
        refine WC.block ?_
        refine WC.seq ?_
        refine WC.region ?_
        refine WL.q [] rfl rfl rfl (q_aidx tbOk Tryz.underlying71 rfl rfl rfl rfl (by repeat' (first | exact trivial | assumption | intro _ | apply And.intro | (refine not_i ?_; assumption) | (refine and_l ?_; assumption) | (refine and_i ?_ ?_) | decide | omega | (simp [vcs]; done) | (simp only [List.length_map]; omega))) (by decide) rfl) ?_
        refine WL.run tbOk 1 (acc := []) rfl trivial ?_
        refine WL.nil ?_
        refine WQ.thenNormal ?_
        refine WC.seq ?_
        refine WC.region ?_
        refine WL.run tbOk 6 (acc := []) rfl (by repeat' (first | exact trivial | assumption | intro _ | apply And.intro | (refine not_i ?_; assumption) | (refine and_l ?_; assumption) | (refine and_i ?_ ?_) | decide | omega | (simp [vcs]; done) | (simp only [List.length_map]; omega))) ?_
        obtain ⟨v3, hvv3, h⟩ := bnd h
        refine WL.gcall0 fn42 rfl rfl rfl rfl rfl (fun _ => (by repeat' (first | exact trivial | assumption | intro _ | apply And.intro | (refine not_i ?_; assumption) | (refine and_l ?_; assumption) | (refine and_i ?_ ?_) | decide | omega | (simp [vcs]; done) | (simp only [List.length_map]; omega)))) rfl (fun hg => (trimS_con hw (ite_t hg hvv3))) ?_
        refine WL.run tbOk 2 (acc := []) rfl (by repeat' (first | exact trivial | assumption | intro _ | apply And.intro | (refine not_i ?_; assumption) | (refine and_l ?_; assumption) | (refine and_i ?_ ?_) | decide | omega | (simp [vcs]; done) | (simp only [List.length_map]; omega))) ?_
        refine WL.nil ?_
        refine WQ.thenNormal ?_
        refine WC.cond rfl (fun hc6 => ?_) (fun hc6 => ?_)
        · replace h := ite_t hc6 h
          refine WC.seq ?_
          refine WC.region ?_
          refine WL.run tbOk 2 (acc := []) rfl trivial ?_
          refine WL.nil ?_
          refine WQ.thenNormal ?_
          refine WC.ret ?_
          refine WQ.blockRet ?_
          refine WQ.thenRet ?_
          refine WQ.thenRet ?_
          refine WQ.blockRet ?_
          refine WQ.thenRet ?_
          cases h
          exact WQ.rets tbOk hR [] (.inl rfl) rfl rfl (Le.refl _) (by exact trivial) rfl rfl rfl rfl
        · replace h := ite_f hc6 h
          refine WC.skip ?_
          refine WQ.blockNormal ?_
          refine WQ.thenNormal ?_
          refine WC.region ?_
          refine WL.run tbOk 2 (acc := []) rfl trivial ?_
          refine WL.nil ?_
          refine WQ.round ?_
          refine WC.seq ?_
          refine WC.region ?_
          refine WL.run tbOk 1 (acc := []) rfl trivial ?_
          refine WL.nil ?_
          refine WQ.thenNormal ?_
          refine WC.seq ?_
          refine WC.cond (b := true) rfl (fun hc7 => ?_) (fun hc7 => by cases hc7)
          refine WC.skip ?_
          refine WQ.thenNormal ?_
          refine WC.seq ?_
          refine WC.block ?_
          refine WC.seq ?_
          refine WC.region ?_
          refine WL.q [] rfl rfl rfl (q_aidx tbOk Tryz.underlying71 rfl rfl rfl rfl (by repeat' (first | exact trivial | assumption | intro _ | apply And.intro | (refine not_i ?_; assumption) | (refine and_l ?_; assumption) | (refine and_i ?_ ?_) | decide | omega | (simp [vcs]; done) | (simp only [List.length_map]; omega))) (by decide) rfl) ?_
          refine WL.run tbOk 1 (acc := []) rfl trivial ?_
          refine WL.nil ?_
          refine WQ.thenNormal ?_
          refine WC.seq ?_
          refine WC.region ?_
          refine WL.run tbOk 6 (acc := []) rfl (by repeat' (first | exact trivial | assumption | intro _ | apply And.intro | (refine not_i ?_; assumption) | (refine and_l ?_; assumption) | (refine and_i ?_ ?_) | decide | omega | (simp [vcs]; done) | (simp only [List.length_map]; omega))) ?_
          obtain ⟨v4, hvv4, h⟩ := bnd h
          refine WL.gcall0 fn42 rfl rfl rfl rfl rfl (fun _ => (by repeat' (first | exact trivial | assumption | intro _ | apply And.intro | (refine not_i ?_; assumption) | (refine and_l ?_; assumption) | (refine and_i ?_ ?_) | decide | omega | (simp [vcs]; done) | (simp only [List.length_map]; omega)))) rfl (fun hg => (trimS_con hw (ite_t hg hvv4))) ?_
          refine WL.run tbOk 2 (acc := []) rfl (by repeat' (first | exact trivial | assumption | intro _ | apply And.intro | (refine not_i ?_; assumption) | (refine and_l ?_; assumption) | (refine and_i ?_ ?_) | decide | omega | (simp [vcs]; done) | (simp only [List.length_map]; omega))) ?_
          refine WL.nil ?_
          refine WQ.thenNormal ?_
          refine WC.cond rfl (fun hc8 => ?_) (fun hc8 => ?_)
          · replace h := ite_t hc8 h
            refine WC.seq ?_
            refine WC.region ?_
            refine WL.run tbOk 2 (acc := []) rfl trivial ?_
            refine WL.nil ?_
            refine WQ.thenNormal ?_
            refine WC.ret ?_
            refine WQ.blockRet ?_
            refine WQ.thenRet ?_
            refine WQ.thenRet ?_
            refine WQ.blockRet ?_
            refine WQ.thenRet ?_
            cases h
            exact WQ.rets tbOk hR [] (.inl rfl) rfl rfl (Le.refl _) (by exact trivial) rfl rfl rfl rfl
          · replace h := ite_f hc8 h
            refine WC.skip ?_
            refine WQ.blockNormal ?_
            refine WQ.thenNormal ?_
            refine WC.region ?_
            refine WL.run tbOk 2 (acc := []) rfl trivial ?_
            refine WL.nil ?_
            refine WQ.round ?_
            refine WC.seq ?_
            refine WC.region ?_
            refine WL.run tbOk 1 (acc := []) rfl trivial ?_
            refine WL.nil ?_
            refine WQ.thenNormal ?_
            refine WC.seq ?_
            refine WC.cond (b := false) rfl (fun hc9 => by cases hc9) (fun hc9 => ?_)
            refine WC.exit ?_
            refine WQ.thenExit ?_
            refine WQ.thenExit ?_
            refine WQ.blockExit ?_
            exact WQ.cut [] () ⟨(by exact trivial), (by exact trivial), rfl, rfl, rfl, rfl⟩ h
  · intro _ h
    replace h : nomLevel_j1 = some _ := h
    unfold nomLevel_j1 at h
    show WC _ _ _ ⟨[], []⟩ _ _
    refine WC.seq ?_
    refine WC.region ?_
    refine WL.run tbOk 1 (acc := []) rfl trivial ?_
    refine WL.nil ?_
    refine WQ.thenNormal ?_
    refine WC.ret ?_
    cases h
    exact WQ.rets tbOk hR [] (.inl rfl) rfl rfl (Le.refl _) (by exact trivial) rfl rfl rfl rfl

theorem nomDescribed_con {wg : World} (hw : WG wg) {l : (List Str)} {r : Bool} (h : nomDescribed l = some r) : Con Tryz.prog wg gl 78 [.v (.sl 1 (l.map eStr))] [] (.v (.bool r)) [] := by
  unfold nomDescribed at h
  refine con_of_WC (S := slotsOf 0 _) Tryz.func78 rfl Tryz.ntmps78 rfl (fun t x hx => (slotsOf_get hx).2) ?_
  intro F L w ρ0 R hR
  show WC _ _ _ ⟨[(0, .v (.sl 1 (l.map eStr)))], []⟩ _ _
  refine WC.seq ?_
  refine WC.region ?_
  refine WL.run tbOk 1 (acc := []) rfl trivial ?_
  refine WL.nil ?_
  refine WQ.thenNormal ?_
  refine WC.seq ?_
  refine WC.region ?_
  refine WL.run tbOk 1 (acc := []) rfl trivial ?_
  refine WL.q [] rfl rfl rfl (q_ev tbOk (.v (.int .i64 (l.length : Int))) rfl (by exact trivial) (by first | (simp only [List.length_map]; done) | (simp only [List.length_map]; rfl) | rfl)) ?_
  refine WL.run tbOk 3 (acc := []) rfl (by repeat' (first | exact trivial | assumption | intro _ | apply And.intro | (refine not_i ?_; assumption) | (refine and_l ?_; assumption) | (refine and_i ?_ ?_) | decide | omega | (simp [vcs]; done) | (simp only [List.length_map]; omega))) ?_
  obtain ⟨v, hvv, h⟩ := bnd h
  refine WL.gcall0 fn98 rfl rfl rfl rfl rfl (fun _ => (by repeat' (first | exact trivial | assumption | intro _ | apply And.intro | (refine not_i ?_; assumption) | (refine and_l ?_; assumption) | (refine and_i ?_ ?_) | decide | omega | (simp [vcs]; done) | (simp only [List.length_map]; omega)))) rfl (fun hg => (validWords_con hw (ite_t hg hvv))) ?_
  refine WL.run tbOk 2 (acc := []) rfl (by repeat' (first | exact trivial | assumption | intro _ | apply And.intro | (refine not_i ?_; assumption) | (refine and_l ?_; assumption) | (refine and_i ?_ ?_) | decide | omega | (simp [vcs]; done) | (simp only [List.length_map]; omega))) ?_
  refine WL.nil ?_
  refine WQ.thenNormal ?_
  refine WC.ret ?_
  cases h
  exact WQ.rets tbOk hR [] (.inl rfl) rfl rfl (Le.refl _) (by exact trivial) rfl rfl rfl rfl

theorem validateEntry_con {wg : World} (hw : WG wg) {a0 : ApiCodeEntry} {r : Int} (h : validateEntry a0 = some r) : Con Tryz.prog wg gl 43 [.v (.agg [.str a0.Code, .int .i64 a0.From, .int .i64 a0.To, .sl 1 (a0.Terms.map eLStr), .bool a0.Other])] [] (.v (.int .i64 r)) [] := by
  unfold validateEntry at h
  refine con_of_WC (S := slotsOf 0 _) Tryz.func43 rfl Tryz.ntmps43 rfl (fun t x hx => (slotsOf_get hx).2) ?_
  intro F L w ρ0 R hR
  show WC _ _ _ ⟨[(0, .v (.agg [.str a0.Code, .int .i64 a0.From, .int .i64 a0.To, .sl 1 (a0.Terms.map eLStr), .bool a0.Other]))], []⟩ _ _
  refine WC.seq ?_
  refine WC.region ?_
  refine WL.run tbOk 2 (acc := []) rfl trivial ?_
  refine WL.nil ?_
  refine WQ.thenNormal ?_
  refine WC.seq ?_
  refine WC.region ?_
  refine WL.run tbOk 2 (acc := []) rfl trivial ?_
  obtain ⟨v, hvv, h⟩ := bnd h
  refine WL.call0 fn12 rfl rfl rfl rfl (by exact trivial) rfl (nomLevel_con hw hvv) ?_
  refine WL.run tbOk 1 (acc := []) rfl trivial ?_
  refine WL.nil ?_
  refine WQ.thenNormal ?_
  refine WC.seq ?_
  refine WC.block ?_
  refine WC.seq ?_
  refine WC.region ?_
  refine WL.run tbOk 3 (acc := []) rfl trivial ?_
  refine WL.nil ?_
  refine WQ.thenNormal ?_
  refine WC.cond rfl (fun hc1 => ?_) (fun hc1 => ?_)
  · replace h := ite_t hc1 h
    refine WC.seq ?_
    refine WC.region ?_
    refine WL.run tbOk 1 (acc := []) rfl trivial ?_
    refine WL.nil ?_
    refine WQ.thenNormal ?_
    refine WC.ret ?_
    refine WQ.blockRet ?_
    refine WQ.thenRet ?_
    cases h
    exact WQ.rets tbOk hR [] (.inl rfl) rfl rfl (Le.refl _) (by exact trivial) rfl rfl rfl rfl
  · replace h := ite_f hc1 h
    refine WC.seq ?_
    refine WC.region ?_
    refine WL.run tbOk 16 (acc := []) rfl (by repeat' (first | exact trivial | assumption | intro _ | apply And.intro | (refine not_i ?_; assumption) | (refine and_l ?_; assumption) | (refine and_i ?_ ?_) | decide | omega | (simp [vcs]; done) | (simp only [List.length_map]; omega))) ?_
    refine WL.nil ?_
    refine WQ.thenNormal ?_
    refine WC.cond rfl (fun hc2 => ?_) (fun hc2 => ?_)
    · replace h := ite_t hc2 h
      refine WC.seq ?_
      refine WC.region ?_
      refine WL.run tbOk 1 (acc := []) rfl trivial ?_
      refine WL.nil ?_
      refine WQ.thenNormal ?_
      refine WC.ret ?_
      refine WQ.blockRet ?_
      refine WQ.thenRet ?_
      cases h
      exact WQ.rets tbOk hR [] (.inl rfl) rfl rfl (Le.refl _) (by exact trivial) rfl rfl rfl rfl
    · replace h := ite_f hc2 h
      refine WC.seq ?_
      refine WC.region ?_
      refine WL.run tbOk 2 (acc := []) rfl trivial ?_
      refine WL.q [] rfl rfl rfl (q_ev tbOk (.v (.int .i64 (a0.Terms.length : Int))) rfl (by exact trivial) (by first | (simp only [List.length_map]; done) | (simp only [List.length_map]; rfl) | rfl)) ?_
      refine WL.run tbOk 2 (acc := []) rfl trivial ?_
      refine WL.nil ?_
      refine WQ.thenNormal ?_
      refine WC.cond rfl (fun hc3 => ?_) (fun hc3 => ?_)
      · replace h := ite_t hc3 h
        refine WC.seq ?_
        refine WC.region ?_
        refine WL.run tbOk 1 (acc := []) rfl trivial ?_
        refine WL.nil ?_
        refine WQ.thenNormal ?_
        refine WC.ret ?_
        refine WQ.blockRet ?_
        refine WQ.thenRet ?_
        cases h
        exact WQ.rets tbOk hR [] (.inl rfl) rfl rfl (Le.refl _) (by exact trivial) rfl rfl rfl rfl
      · replace h := ite_f hc3 h
        refine WC.skip ?_
        refine WQ.blockNormal ?_
        refine WQ.thenNormal ?_
        refine WC.seq ?_
        refine WC.seq ?_
        refine WC.region ?_
        refine WL.run tbOk 2 (acc := []) rfl trivial ?_
        refine WL.q [] rfl rfl rfl (q_ev tbOk (.v (.int .i64 (a0.Terms.length : Int))) rfl (by exact trivial) (by first | (simp only [List.length_map]; done) | (simp only [List.length_map]; rfl) | rfl)) ?_
        refine WL.run tbOk 1 (acc := []) rfl trivial ?_
        refine WL.nil ?_
        refine WQ.thenNormal ?_
        refine WC.thenCut (X := Unit) (fun gG => ⟨[(3, .v (.int .i64 v)), (1, .p 1 0)], [(1, .blk 40 [.v (.str a0.Code), .v (.int .i64 a0.From), .v (.int .i64 a0.To), .v (.sl 1 (a0.Terms.map eLStr)), .v (.bool a0.Other)])]⟩) (fun gG => validateEntry_j1 a0 v = some r) ?_ ?_
        · refine WC.block ?_
          obtain ⟨eQ1, hl1, hk1⟩ := bnd h
          clear h
          refine WC.loop (σ := Int) (τ := ((Int) ⊕ (Unit))) (fun sS => ⟨[(38, .v (.int .i64 sS)), (37, .v (.int .i64 (a0.Terms.length : Int))), (36, .v (.sl 1 (a0.Terms.map eLStr))), (3, .v (.int .i64 v)), (1, .p 1 0)], [(1, .blk 40 [.v (.str a0.Code), .v (.int .i64 a0.From), .v (.int .i64 a0.To), .v (.sl 1 (a0.Terms.map eLStr)), .v (.bool a0.Other)])]⟩) (validateEntry_b1 a0 v) [] (0 : Int) hl1 ⟨(by exact ⟨rfl, rfl, rfl, rfl, rfl, trivial⟩), (by exact ⟨rfl, trivial⟩), rfl, rfl, rfl, rfl⟩ ?_
          intro t38 m hn1 he1 hx1
          obtain ⟨o1, hf1⟩ := some_of hx1
          have h := hf1
          unfold validateEntry_b1 at h
          show WC _ _ _ ⟨[(38, .v (.int .i64 t38)), (37, .v (.int .i64 (a0.Terms.length : Int))), (36, .v (.sl 1 (a0.Terms.map eLStr))), (3, .v (.int .i64 v)), (1, .p 1 0)], [(1, .blk 40 [.v (.str a0.Code), .v (.int .i64 a0.From), .v (.int .i64 a0.To), .v (.sl 1 (a0.Terms.map eLStr)), .v (.bool a0.Other)])]⟩ _ _
          refine WC.seq ?_
          refine WC.region ?_
          refine WL.run tbOk 1 (acc := []) rfl trivial ?_
          refine WL.nil ?_
          refine WQ.thenNormal ?_
          refine WC.seq ?_
          refine WC.cond rfl (fun hc7 => ?_) (fun hc7 => ?_)
          · replace h := ite_t hc7 h
            refine WC.skip ?_
            refine WQ.thenNormal ?_
            refine WC.seq ?_
            refine WC.block ?_
            refine WC.seq ?_
            refine WC.region ?_
            obtain ⟨g1, h⟩ := grd h
            obtain ⟨x2, hxx2, h⟩ := bnd h
            refine WL.q [] rfl rfl rfl (q_idx tbOk rfl (by exact trivial) g1 (map_get (f := eLStr) hxx2)) ?_
            refine WL.run tbOk 2 (acc := []) rfl trivial ?_
            refine WL.nil ?_
            refine WQ.thenNormal ?_
            refine WC.seq ?_
            refine WC.region ?_
            refine WL.run tbOk 1 (acc := []) rfl trivial ?_
            obtain ⟨v3, hvv3, h⟩ := bnd h
            refine WL.call0 fn78 rfl rfl rfl rfl (by exact trivial) rfl (nomDescribed_con hw hvv3) ?_
            refine WL.run tbOk 1 (acc := []) rfl trivial ?_
            refine WL.nil ?_
            refine WQ.thenNormal ?_
            refine WC.cond rfl (fun hc8 => ?_) (fun hc8 => ?_)
            · replace h := ite_t hc8 h
              refine WC.seq ?_
              refine WC.region ?_
              refine WL.run tbOk 1 (acc := []) rfl trivial ?_
              refine WL.nil ?_
              refine WQ.thenNormal ?_
              refine WC.ret ?_
              refine WQ.blockRet ?_
              refine WQ.thenRet ?_
              cases h
              have he := he1 _ hf1
              subst he
              have h : some (1 : Int) = some _ := hk1
              refine WQ.thenRet ?_
              refine WQ.blockRet ?_
              refine WQ.thenRet ?_
              cases h
              exact WQ.rets tbOk hR [] (.inl rfl) rfl rfl (Le.refl _) (by exact trivial) rfl rfl rfl rfl
            · replace h := ite_f hc8 h
              refine WC.skip ?_
              refine WQ.blockNormal ?_
              refine WQ.thenNormal ?_
              refine WC.region ?_
              refine WL.run tbOk 2 (acc := []) rfl trivial ?_
              refine WL.nil ?_
              cases h
              exact WQ.next [] (IntKind.i64.wrap (t38 + (1 : Int))) ⟨(by exact ⟨rfl, rfl, rfl, rfl, rfl, trivial⟩), (by exact ⟨rfl, trivial⟩), rfl, rfl, rfl, rfl⟩ (hn1 _ hf1)
          · replace h := ite_f hc7 h
            refine WC.exit ?_
            refine WQ.thenExit ?_
            cases h
            have he := he1 _ hf1
            subst he
            replace h := hk1
            try dsimp only at h
            refine WQ.thenExit ?_
            refine WQ.blockExit ?_
            exact WQ.cut [] () ⟨(by exact ⟨rfl, rfl, trivial⟩), (by exact ⟨rfl, trivial⟩), rfl, rfl, rfl, rfl⟩ h
        · intro _ h
          replace h : validateEntry_j1 a0 v = some _ := h
          unfold validateEntry_j1 at h
          show WC _ _ _ ⟨[(3, .v (.int .i64 v)), (1, .p 1 0)], [(1, .blk 40 [.v (.str a0.Code), .v (.int .i64 a0.From), .v (.int .i64 a0.To), .v (.sl 1 (a0.Terms.map eLStr)), .v (.bool a0.Other)])]⟩ _ _
          refine WC.seq ?_
          refine WC.region ?_
          refine WL.run tbOk 2 (acc := []) rfl trivial ?_
          refine WL.q [] rfl rfl rfl (q_ev tbOk (.v (.int .i64 (a0.Terms.length : Int))) rfl (by exact trivial) (by first | (simp only [List.length_map]; done) | (simp only [List.length_map]; rfl) | rfl)) ?_
          refine WL.run tbOk 2 (acc := []) rfl trivial ?_
          refine WL.nil ?_
          refine WQ.thenNormal ?_
          refine WC.seq ?_
          refine WC.region ?_
          refine WL.run tbOk 5 (acc := []) rfl trivial ?_
          refine WL.nil ?_
          refine WQ.thenNormal ?_
          refine WC.seq ?_
          refine WC.seq ?_
          refine WC.region ?_
          refine WL.run tbOk 1 (acc := []) rfl trivial ?_
          refine WL.nil ?_
          refine WQ.thenNormal ?_
          refine WC.thenCut (X := Bool) (fun gG => ⟨[(7, .v (.bool gG))], []⟩) (fun gG => validateEntry_j2 gG = some r) ?_ ?_
          · refine WC.block ?_
            refine WC.seq ?_
            refine WC.region ?_
            refine WL.run tbOk 2 (acc := []) rfl trivial ?_
            refine WL.nil ?_
            refine WQ.thenNormal ?_
            refine WC.cond rfl (fun hc5 => ?_) (fun hc5 => ?_)
            · replace h := ite_t hc5 h
              refine WC.region ?_
              refine WL.run tbOk 6 (acc := []) rfl (by repeat' (first | exact trivial | assumption | intro _ | apply And.intro | (refine not_i ?_; assumption) | (refine and_l ?_; assumption) | (refine and_i ?_ ?_) | decide | omega | (simp [vcs]; done) | (simp only [List.length_map]; omega))) ?_
              refine WL.nil ?_
              refine WQ.blockNormal ?_
              exact WQ.cut [] (bif (decide ((0 : Int) < (a0.Terms.length : Int))) then true else a0.Other) ⟨(by exact ⟨rfl, trivial⟩), (by exact trivial), rfl, rfl, rfl, rfl⟩ h
            · replace h := ite_f hc5 h
              refine WC.seq ?_
              refine WC.region ?_
              refine WL.run tbOk 2 (acc := []) rfl trivial ?_
              refine WL.nil ?_
              refine WQ.thenNormal ?_
              refine WC.cond rfl (fun hc6 => ?_) (fun hc6 => ?_)
              · replace h := ite_t hc6 h
                refine WC.region ?_
                refine WL.run tbOk 7 (acc := []) rfl (by repeat' (first | exact trivial | assumption | intro _ | apply And.intro | (refine not_i ?_; assumption) | (refine and_l ?_; assumption) | (refine and_i ?_ ?_) | decide | omega | (simp [vcs]; done) | (simp only [List.length_map]; omega))) ?_
                refine WL.nil ?_
                refine WQ.blockNormal ?_
                exact WQ.cut [] (bif (!(decide ((0 : Int) < (a0.Terms.length : Int)))) then true else a0.Other) ⟨(by exact ⟨rfl, trivial⟩), (by exact trivial), rfl, rfl, rfl, rfl⟩ h
              · replace h := ite_f hc6 h
                refine WC.skip ?_
                refine WQ.blockNormal ?_
                exact WQ.cut [] ((decide ((0 : Int) < (a0.Terms.length : Int))) == a0.Other) ⟨(by exact ⟨rfl, trivial⟩), (by exact trivial), rfl, rfl, rfl, rfl⟩ h
          · intro t7 h
            replace h : validateEntry_j2 t7 = some _ := h
            unfold validateEntry_j2 at h
            show WC _ _ _ ⟨[(7, .v (.bool t7))], []⟩ _ _
            refine WC.seq ?_
            refine WC.seq ?_
            refine WC.region ?_
            refine WL.run tbOk 1 (acc := []) rfl trivial ?_
            refine WL.nil ?_
            refine WQ.thenNormal ?_
            refine WC.cond rfl (fun hc4 => ?_) (fun hc4 => ?_)
            · replace h := ite_t hc4 h
              refine WC.seq ?_
              refine WC.region ?_
              refine WL.run tbOk 1 (acc := []) rfl trivial ?_
              refine WL.nil ?_
              refine WQ.thenNormal ?_
              refine WC.ret ?_
              refine WQ.thenRet ?_
              cases h
              exact WQ.rets tbOk hR [] (.inl rfl) rfl rfl (Le.refl _) (by exact trivial) rfl rfl rfl rfl
            · replace h := ite_f hc4 h
              refine WC.skip ?_
              refine WQ.thenNormal ?_
              refine WC.seq ?_
              refine WC.region ?_
              refine WL.run tbOk 1 (acc := []) rfl trivial ?_
              refine WL.nil ?_
              refine WQ.thenNormal ?_
              refine WC.ret ?_
              cases h
              exact WQ.rets tbOk hR [] (.inl rfl) rfl rfl (Le.refl _) (by exact trivial) rfl rfl rfl rfl

theorem validateNote_con {wg : World} (hw : WG wg) {n1 : ApiCodeNote} {r : Int} (h : validateNote n1 = some r) : Con Tryz.prog wg gl 46 [.v (.agg [.str n1.Scope, .sl 1 (n1.Words.map eStr), .str n1.Target])] [] (.v (.int .i64 r)) [] := by
  unfold validateNote at h
  refine con_of_WC (S := slotsOf 0 _) Tryz.func46 rfl Tryz.ntmps46 rfl (fun t x hx => (slotsOf_get hx).2) ?_
  intro F L w ρ0 R hR
  show WC _ _ _ ⟨[(0, .v (.agg [.str n1.Scope, .sl 1 (n1.Words.map eStr), .str n1.Target]))], []⟩ _ _
  refine WC.seq ?_
  refine WC.region ?_
  refine WL.run tbOk 2 (acc := []) rfl trivial ?_
  refine WL.nil ?_
  refine WQ.thenNormal ?_
  refine WC.seq ?_
  refine WC.seq ?_
  refine WC.region ?_
  refine WL.run tbOk 2 (acc := []) rfl trivial ?_
  obtain ⟨v, hvv, h⟩ := bnd h
  refine WL.call0 fn12 rfl rfl rfl rfl (by exact trivial) rfl (nomLevel_con hw hvv) ?_
  refine WL.run tbOk 4 (acc := []) rfl (by repeat' (first | exact trivial | assumption | intro _ | apply And.intro | (refine not_i ?_; assumption) | (refine and_l ?_; assumption) | (refine and_i ?_ ?_) | decide | omega | (simp [vcs]; done) | (simp only [List.length_map]; omega))) ?_
  obtain ⟨v2, hvv2, h⟩ := bnd h
  refine WL.gcall0 fn78 rfl rfl rfl rfl rfl (fun _ => (by repeat' (first | exact trivial | assumption | intro _ | apply And.intro | (refine not_i ?_; assumption) | (refine and_l ?_; assumption) | (refine and_i ?_ ?_) | decide | omega | (simp [vcs]; done) | (simp only [List.length_map]; omega)))) rfl (fun hg => (nomDescribed_con hw (ite_t hg hvv2))) ?_
  refine WL.run tbOk 2 (acc := []) rfl (by repeat' (first | exact trivial | assumption | intro _ | apply And.intro | (refine not_i ?_; assumption) | (refine and_l ?_; assumption) | (refine and_i ?_ ?_) | decide | omega | (simp [vcs]; done) | (simp only [List.length_map]; omega))) ?_
  refine WL.nil ?_
  refine WQ.thenNormal ?_
  refine WC.cond rfl (fun hc1 => ?_) (fun hc1 => ?_)
  · replace h := ite_t hc1 h
    refine WC.seq ?_
    refine WC.region ?_
    refine WL.run tbOk 1 (acc := []) rfl trivial ?_
    refine WL.nil ?_
    refine WQ.thenNormal ?_
    refine WC.ret ?_
    refine WQ.thenRet ?_
    cases h
    exact WQ.rets tbOk hR [] (.inl rfl) rfl rfl (Le.refl _) (by exact trivial) rfl rfl rfl rfl
  · replace h := ite_f hc1 h
    refine WC.skip ?_
    refine WQ.thenNormal ?_
    refine WC.seq ?_
    refine WC.seq ?_
    refine WC.region ?_
    refine WL.run tbOk 6 (acc := []) rfl (by repeat' (first | exact trivial | assumption | intro _ | apply And.intro | (refine not_i ?_; assumption) | (refine and_l ?_; assumption) | (refine and_i ?_ ?_) | decide | omega | (simp [vcs]; done) | (simp only [List.length_map]; omega))) ?_
    obtain ⟨v3, hvv3, h⟩ := bnd h
    refine WL.gcall0 fn12 rfl rfl rfl rfl rfl (fun _ => (by repeat' (first | exact trivial | assumption | intro _ | apply And.intro | (refine not_i ?_; assumption) | (refine and_l ?_; assumption) | (refine and_i ?_ ?_) | decide | omega | (simp [vcs]; done) | (simp only [List.length_map]; omega)))) rfl (fun hg => (nomLevel_con hw (ite_t hg hvv3))) ?_
    refine WL.run tbOk 2 (acc := []) rfl (by repeat' (first | exact trivial | assumption | intro _ | apply And.intro | (refine not_i ?_; assumption) | (refine and_l ?_; assumption) | (refine and_i ?_ ?_) | decide | omega | (simp [vcs]; done) | (simp only [List.length_map]; omega))) ?_
    refine WL.nil ?_
    refine WQ.thenNormal ?_
    refine WC.cond rfl (fun hc2 => ?_) (fun hc2 => ?_)
    · replace h := ite_t hc2 h
      refine WC.seq ?_
      refine WC.region ?_
      refine WL.run tbOk 1 (acc := []) rfl trivial ?_
      refine WL.nil ?_
      refine WQ.thenNormal ?_
      refine WC.ret ?_
      refine WQ.thenRet ?_
      cases h
      exact WQ.rets tbOk hR [] (.inl rfl) rfl rfl (Le.refl _) (by exact trivial) rfl rfl rfl rfl
    · replace h := ite_f hc2 h
      refine WC.skip ?_
      refine WQ.thenNormal ?_
      refine WC.seq ?_
      refine WC.region ?_
      refine WL.run tbOk 1 (acc := []) rfl trivial ?_
      refine WL.nil ?_
      refine WQ.thenNormal ?_
      refine WC.ret ?_
      cases h
      exact WQ.rets tbOk hR [] (.inl rfl) rfl rfl (Le.refl _) (by exact trivial) rfl rfl rfl rfl

theorem validateOrder_con {wg : World} (hw : WG wg) {before : ApiCodeEntry} {e1 : ApiCodeEntry} {r : Int} (h : validateOrder before e1 = some r) : Con Tryz.prog wg gl 44 [.v (.agg [.str before.Code, .int .i64 before.From, .int .i64 before.To, .sl 1 (before.Terms.map eLStr), .bool before.Other]), .v (.agg [.str e1.Code, .int .i64 e1.From, .int .i64 e1.To, .sl 1 (e1.Terms.map eLStr), .bool e1.Other])] [] (.v (.int .i64 r)) [] := by
  unfold validateOrder at h
  refine con_of_WC (S := slotsOf 0 _) Tryz.func44 rfl Tryz.ntmps44 rfl (fun t x hx => (slotsOf_get hx).2) ?_
  intro F L w ρ0 R hR
  show WC _ _ _ ⟨[(0, .v (.agg [.str before.Code, .int .i64 before.From, .int .i64 before.To, .sl 1 (before.Terms.map eLStr), .bool before.Other])), (1, .v (.agg [.str e1.Code, .int .i64 e1.From, .int .i64 e1.To, .sl 1 (e1.Terms.map eLStr), .bool e1.Other]))], []⟩ _ _
  refine WC.seq ?_
  refine WC.region ?_
  refine WL.run tbOk 3 (acc := []) rfl trivial ?_
  refine WL.nil ?_
  refine WQ.thenNormal ?_
  refine WC.seq ?_
  refine WC.seq ?_
  refine WC.order mixed ?_
  refine WR.run tbOk 1 (acc := []) rfl trivial ?_
  obtain ⟨v, hvv, h⟩ := bnd h
  refine WR.call0 fn79 rfl rfl rfl rfl (by exact trivial) rfl (versionOf_con hw hvv) ?_
  refine WR.run tbOk 1 (acc := []) rfl trivial ?_
  obtain ⟨v2, hvv2, h⟩ := bnd h
  refine WR.call0 fn79 rfl rfl rfl rfl (by exact trivial) rfl (versionOf_con hw hvv2) ?_
  obtain ⟨v3, hvv3, h⟩ := bnd h
  refine WR.call0 fn80 rfl rfl rfl rfl (by exact trivial) rfl (versionCmp_con hw hvv3) ?_
  refine WR.run tbOk 1 (acc := []) rfl trivial ?_
  refine WR.nil (by kernel_rfl) ?_
  refine WQ.thenNormal ?_
  refine WC.cond rfl (fun hc1 => ?_) (fun hc1 => ?_)
  · replace h := ite_t hc1 h
    refine WC.seq ?_
    refine WC.region ?_
    refine WL.run tbOk 1 (acc := []) rfl trivial ?_
    refine WL.nil ?_
    refine WQ.thenNormal ?_
    refine WC.ret ?_
    refine WQ.thenRet ?_
    cases h
    exact WQ.rets tbOk hR [] (.inl rfl) rfl rfl (Le.refl _) (by exact trivial) rfl rfl rfl rfl
  · replace h := ite_f hc1 h
    refine WC.skip ?_
    refine WQ.thenNormal ?_
    refine WC.seq ?_
    refine WC.seq ?_
    refine WC.region ?_
    refine WL.run tbOk 12 (acc := []) rfl (by repeat' (first | exact trivial | assumption | intro _ | apply And.intro | (refine not_i ?_; assumption) | (refine and_l ?_; assumption) | (refine and_i ?_ ?_) | decide | omega | (simp [vcs]; done) | (simp only [List.length_map]; omega))) ?_
    refine WL.nil ?_
    refine WQ.thenNormal ?_
    refine WC.cond rfl (fun hc2 => ?_) (fun hc2 => ?_)
    · replace h := ite_t hc2 h
      refine WC.seq ?_
      refine WC.region ?_
      refine WL.run tbOk 1 (acc := []) rfl trivial ?_
      refine WL.nil ?_
      refine WQ.thenNormal ?_
      refine WC.ret ?_
      refine WQ.thenRet ?_
      cases h
      exact WQ.rets tbOk hR [] (.inl rfl) rfl rfl (Le.refl _) (by exact trivial) rfl rfl rfl rfl
    · replace h := ite_f hc2 h
      refine WC.skip ?_
      refine WQ.thenNormal ?_
      refine WC.seq ?_
      refine WC.region ?_
      refine WL.run tbOk 1 (acc := []) rfl trivial ?_
      refine WL.nil ?_
      refine WQ.thenNormal ?_
      refine WC.ret ?_
      cases h
      exact WQ.rets tbOk hR [] (.inl rfl) rfl rfl (Le.refl _) (by exact trivial) rfl rfl rfl rfl

theorem hasParent_con {wg : World} (hw : WG wg) {b : ApiNomenclature} {e1 : ApiCodeEntry} {r : Bool} (h : hasParent b e1 = some r) : Con Tryz.prog wg gl 45 [.v (.agg [.sl 5 (b.Entries.map eApiCodeEntry), .sl 3 (b.Notes.map eApiCodeNote)]), .v (.agg [.str e1.Code, .int .i64 e1.From, .int .i64 e1.To, .sl 1 (e1.Terms.map eLStr), .bool e1.Other])] [] (.v (.bool r)) [] := by
  unfold hasParent at h
  refine con_of_WC (S := slotsOf 0 _) Tryz.func45 rfl Tryz.ntmps45 rfl (fun t x hx => (slotsOf_get hx).2) ?_
  intro F L w ρ0 R hR
  show WC _ _ _ ⟨[(0, .v (.agg [.sl 5 (b.Entries.map eApiCodeEntry), .sl 3 (b.Notes.map eApiCodeNote)])), (1, .v (.agg [.str e1.Code, .int .i64 e1.From, .int .i64 e1.To, .sl 1 (e1.Terms.map eLStr), .bool e1.Other]))], []⟩ _ _
  refine WC.seq ?_
  refine WC.region ?_
  refine WL.run tbOk 3 (acc := []) rfl trivial ?_
  refine WL.nil ?_
  refine WQ.thenNormal ?_
  refine WC.seq ?_
  refine WC.seq ?_
  refine WC.region ?_
  refine WL.run tbOk 4 (acc := []) rfl trivial ?_
  refine WL.nil ?_
  refine WQ.thenNormal ?_
  refine WC.cond rfl (fun hc1 => ?_) (fun hc1 => ?_)
  · replace h := ite_t hc1 h
    refine WC.seq ?_
    refine WC.region ?_
    refine WL.run tbOk 1 (acc := []) rfl trivial ?_
    refine WL.nil ?_
    refine WQ.thenNormal ?_
    refine WC.ret ?_
    refine WQ.thenRet ?_
    cases h
    exact WQ.rets tbOk hR [] (.inl rfl) rfl rfl (Le.refl _) (by exact trivial) rfl rfl rfl rfl
  · replace h := ite_f hc1 h
    refine WC.skip ?_
    refine WQ.thenNormal ?_
    refine WC.seq ?_
    refine WC.region ?_
    obtain ⟨g1, h⟩ := grd h
    refine WL.run tbOk 8 (acc := []) rfl (by repeat' (first | exact trivial | assumption | intro _ | exact g1 (by assumption) | apply And.intro | (refine not_i ?_; assumption) | (refine and_l ?_; assumption) | (refine and_i ?_ ?_) | decide | omega | (simp [vcs]; done) | (simp only [List.length_map]; omega))) ?_
    refine WL.nil ?_
    refine WQ.thenNormal ?_
    refine WC.seq ?_
    refine WC.region ?_
    refine WL.run tbOk 3 (acc := []) rfl trivial ?_
    refine WL.nil ?_
    refine WQ.thenNormal ?_
    refine WC.seq ?_
    refine WC.seq ?_
    refine WC.region ?_
    refine WL.run tbOk 2 (acc := []) rfl trivial ?_
    refine WL.q [] rfl rfl rfl (q_ev tbOk (.v (.int .i64 (b.Entries.length : Int))) rfl (by exact trivial) (by first | (simp only [List.length_map]; done) | (simp only [List.length_map]; rfl) | rfl)) ?_
    refine WL.run tbOk 1 (acc := []) rfl trivial ?_
    refine WL.nil ?_
    refine WQ.thenNormal ?_
    refine WC.thenCut (X := Int) (fun gG => ⟨[(6, .v (.int .i64 gG)), (3, .p 3 0)], [(3, .blk 40 [.v (.str e1.Code), .v (.int .i64 e1.From), .v (.int .i64 e1.To), .v (.sl 1 (e1.Terms.map eLStr)), .v (.bool e1.Other)])]⟩) (fun gG => hasParent_j1 e1 gG = some r) ?_ ?_
    · refine WC.block ?_
      obtain ⟨eQ1, hl1, hk1⟩ := bnd h
      clear h
      refine WC.loop (σ := Int × Int) (τ := (Int)) (fun sS => ⟨[(25, .v (.int .i64 sS.1)), (24, .v (.int .i64 (b.Entries.length : Int))), (23, .v (.sl 5 (b.Entries.map eApiCodeEntry))), (6, .v (.int .i64 sS.2)), (5, .v (.str ((e1.Code.take (IntKind.i64.wrap ((e1.Code.length : Int) - (2 : Int))).toNat).drop (0 : Int).toNat))), (3, .p 3 0)], [(3, .blk 40 [.v (.str e1.Code), .v (.int .i64 e1.From), .v (.int .i64 e1.To), .v (.sl 1 (e1.Terms.map eLStr)), .v (.bool e1.Other)])]⟩) (hasParent_b1 b e1) [] ((0 : Int), e1.From) hl1 ⟨(by exact ⟨rfl, rfl, rfl, rfl, rfl, rfl, trivial⟩), (by exact ⟨rfl, trivial⟩), rfl, rfl, rfl, rfl⟩ ?_
      rintro ⟨t25, day2⟩ m hn1 he1 hx1
      obtain ⟨o1, hf1⟩ := some_of hx1
      have h := hf1
      unfold hasParent_b1 at h
      show WC _ _ _ ⟨[(25, .v (.int .i64 t25)), (24, .v (.int .i64 (b.Entries.length : Int))), (23, .v (.sl 5 (b.Entries.map eApiCodeEntry))), (6, .v (.int .i64 day2)), (5, .v (.str ((e1.Code.take (IntKind.i64.wrap ((e1.Code.length : Int) - (2 : Int))).toNat).drop (0 : Int).toNat))), (3, .p 3 0)], [(3, .blk 40 [.v (.str e1.Code), .v (.int .i64 e1.From), .v (.int .i64 e1.To), .v (.sl 1 (e1.Terms.map eLStr)), .v (.bool e1.Other)])]⟩ _ _
      refine WC.seq ?_
      refine WC.region ?_
      refine WL.run tbOk 1 (acc := []) rfl trivial ?_
      refine WL.nil ?_
      refine WQ.thenNormal ?_
      refine WC.seq ?_
      refine WC.cond rfl (fun hc2 => ?_) (fun hc2 => ?_)
      · replace h := ite_t hc2 h
        refine WC.skip ?_
        refine WQ.thenNormal ?_
        refine WC.seq ?_
        refine WC.thenCut (X := Int) (fun gG => ⟨[(6, .v (.int .i64 gG)), (25, .v (.int .i64 t25)), (24, .v (.int .i64 (b.Entries.length : Int))), (23, .v (.sl 5 (b.Entries.map eApiCodeEntry))), (5, .v (.str ((e1.Code.take (IntKind.i64.wrap ((e1.Code.length : Int) - (2 : Int))).toNat).drop (0 : Int).toNat))), (3, .p 3 0)], [(3, .blk 40 [.v (.str e1.Code), .v (.int .i64 e1.From), .v (.int .i64 e1.To), .v (.sl 1 (e1.Terms.map eLStr)), .v (.bool e1.Other)])]⟩) (fun gG => hasParent_j2 b e1 t25 gG = some o1) ?_ ?_
        · refine WC.block ?_
          refine WC.seq ?_
          refine WC.region ?_
          obtain ⟨g2, h⟩ := grd h
          obtain ⟨x2, hxx2, h⟩ := bnd h
          refine WL.q [] rfl rfl rfl (q_idx tbOk rfl (by exact trivial) g2 (map_get (f := eApiCodeEntry) hxx2)) ?_
          refine WL.run tbOk 3 (acc := []) rfl trivial ?_
          refine WL.nil ?_
          refine WQ.thenNormal ?_
          refine WC.seq ?_
          refine WC.region ?_
          refine WL.run tbOk 16 (acc := []) rfl (by repeat' (first | exact trivial | assumption | intro _ | apply And.intro | (refine not_i ?_; assumption) | (refine and_l ?_; assumption) | (refine and_i ?_ ?_) | decide | omega | (simp [vcs]; done) | (simp only [List.length_map]; omega))) ?_
          refine WL.nil ?_
          refine WQ.thenNormal ?_
          refine WC.cond rfl (fun hc3 => ?_) (fun hc3 => ?_)
          · replace h := ite_t hc3 h
            refine WC.region ?_
            refine WL.run tbOk 3 (acc := []) rfl trivial ?_
            refine WL.nil ?_
            refine WQ.blockNormal ?_
            exact WQ.cut [] x2.To ⟨(by exact ⟨rfl, rfl, rfl, rfl, rfl, rfl, trivial⟩), (by exact ⟨rfl, trivial⟩), rfl, rfl, rfl, rfl⟩ h
          · replace h := ite_f hc3 h
            refine WC.skip ?_
            refine WQ.blockNormal ?_
            exact WQ.cut [] day2 ⟨(by exact ⟨rfl, rfl, rfl, rfl, rfl, rfl, trivial⟩), (by exact ⟨rfl, trivial⟩), rfl, rfl, rfl, rfl⟩ h
        · intro day6 h
          replace h : hasParent_j2 b e1 t25 day6 = some _ := h
          unfold hasParent_j2 at h
          show WC _ _ _ ⟨[(6, .v (.int .i64 day6)), (25, .v (.int .i64 t25)), (24, .v (.int .i64 (b.Entries.length : Int))), (23, .v (.sl 5 (b.Entries.map eApiCodeEntry))), (5, .v (.str ((e1.Code.take (IntKind.i64.wrap ((e1.Code.length : Int) - (2 : Int))).toNat).drop (0 : Int).toNat))), (3, .p 3 0)], [(3, .blk 40 [.v (.str e1.Code), .v (.int .i64 e1.From), .v (.int .i64 e1.To), .v (.sl 1 (e1.Terms.map eLStr)), .v (.bool e1.Other)])]⟩ _ _
          refine WC.region ?_
          refine WL.run tbOk 2 (acc := []) rfl trivial ?_
          refine WL.nil ?_
          cases h
          exact WQ.next [] ((IntKind.i64.wrap (t25 + (1 : Int))), day6) ⟨(by exact ⟨rfl, rfl, rfl, rfl, rfl, rfl, trivial⟩), (by exact ⟨rfl, trivial⟩), rfl, rfl, rfl, rfl⟩ (hn1 _ hf1)
      · replace h := ite_f hc2 h
        refine WC.exit ?_
        refine WQ.thenExit ?_
        cases h
        have he := he1 _ hf1
        subst he
        replace h := hk1
        try dsimp only at h
        refine WQ.thenExit ?_
        refine WQ.blockExit ?_
        exact WQ.cut [] day2 ⟨(by exact ⟨rfl, rfl, trivial⟩), (by exact ⟨rfl, trivial⟩), rfl, rfl, rfl, rfl⟩ h
    · intro day h
      replace h : hasParent_j1 e1 day = some _ := h
      unfold hasParent_j1 at h
      show WC _ _ _ ⟨[(6, .v (.int .i64 day)), (3, .p 3 0)], [(3, .blk 40 [.v (.str e1.Code), .v (.int .i64 e1.From), .v (.int .i64 e1.To), .v (.sl 1 (e1.Terms.map eLStr)), .v (.bool e1.Other)])]⟩ _ _
      refine WC.seq ?_
      refine WC.region ?_
      refine WL.run tbOk 5 (acc := []) rfl trivial ?_
      refine WL.nil ?_
      refine WQ.thenNormal ?_
      refine WC.ret ?_
      cases h
      exact WQ.rets tbOk hR [] (.inl rfl) rfl rfl (Le.refl _) (by exact trivial) rfl rfl rfl rfl

theorem nomValidate_con {wg : World} (hw : WG wg) {a0 : ApiNomenclature} {r : Int} (h : nomValidate a0 = some r) : Con Tryz.prog wg gl 16 [.v (.agg [.sl 5 (a0.Entries.map eApiCodeEntry), .sl 3 (a0.Notes.map eApiCodeNote)])] [] (.v (.int .i64 r)) [] := by
  unfold nomValidate at h
  refine con_of_WC (S := slotsOf 0 _) Tryz.func16 rfl Tryz.ntmps16 rfl (fun t x hx => (slotsOf_get hx).2) ?_
  intro F L w ρ0 R hR
  show WC _ _ _ ⟨[(0, .v (.agg [.sl 5 (a0.Entries.map eApiCodeEntry), .sl 3 (a0.Notes.map eApiCodeNote)]))], []⟩ _ _
  refine WC.seq ?_
  refine WC.region ?_
  refine WL.run tbOk 2 (acc := []) rfl trivial ?_
  refine WL.nil ?_
  refine WQ.thenNormal ?_
  refine WC.seq ?_
  refine WC.seq ?_
  refine WC.region ?_
  refine WL.run tbOk 2 (acc := []) rfl trivial ?_
  refine WL.q [] rfl rfl rfl (q_ev tbOk (.v (.int .i64 (a0.Entries.length : Int))) rfl (by exact trivial) (by first | (simp only [List.length_map]; done) | (simp only [List.length_map]; rfl) | rfl)) ?_
  refine WL.run tbOk 4 (acc := []) rfl (by repeat' (first | exact trivial | assumption | intro _ | apply And.intro | (refine not_i ?_; assumption) | (refine and_l ?_; assumption) | (refine and_i ?_ ?_) | decide | omega | (simp [vcs]; done) | (simp only [List.length_map]; omega))) ?_
  refine WL.gq [] rfl rfl rfl rfl (fun hg => q_ev tbOk (.v (.int .i64 (a0.Notes.length : Int))) rfl (by repeat' (first | exact trivial | assumption | intro _ | apply And.intro | (refine not_i ?_; assumption) | (refine and_l ?_; assumption) | (refine and_i ?_ ?_) | decide | omega | (simp [vcs]; done) | (simp only [List.length_map]; omega))) (by first | (simp only [List.length_map]; done) | (simp only [List.length_map]; rfl) | rfl)) ?_
  refine WL.run tbOk 2 (acc := []) rfl (by repeat' (first | exact trivial | assumption | intro _ | apply And.intro | (refine not_i ?_; assumption) | (refine and_l ?_; assumption) | (refine and_i ?_ ?_) | decide | omega | (simp [vcs]; done) | (simp only [List.length_map]; omega))) ?_
  refine WL.nil ?_
  refine WQ.thenNormal ?_
  refine WC.cond rfl (fun hc1 => ?_) (fun hc1 => ?_)
  · replace h := ite_t hc1 h
    refine WC.seq ?_
    refine WC.region ?_
    refine WL.run tbOk 1 (acc := []) rfl trivial ?_
    refine WL.nil ?_
    refine WQ.thenNormal ?_
    refine WC.ret ?_
    refine WQ.thenRet ?_
    cases h
    exact WQ.rets tbOk hR [] (.inl rfl) rfl rfl (Le.refl _) (by exact trivial) rfl rfl rfl rfl
  · replace h := ite_f hc1 h
    refine WC.skip ?_
    refine WQ.thenNormal ?_
    refine WC.seq ?_
    refine WC.seq ?_
    refine WC.region ?_
    refine WL.run tbOk 2 (acc := []) rfl trivial ?_
    refine WL.q [] rfl rfl rfl (q_ev tbOk (.v (.int .i64 (a0.Entries.length : Int))) rfl (by exact trivial) (by first | (simp only [List.length_map]; done) | (simp only [List.length_map]; rfl) | rfl)) ?_
    refine WL.run tbOk 1 (acc := []) rfl trivial ?_
    refine WL.nil ?_
    refine WQ.thenNormal ?_
    refine WC.thenCut (X := Unit) (fun gG => ⟨[(1, .p 1 0)], [(1, .blk 31 [.v (.sl 5 (a0.Entries.map eApiCodeEntry)), .v (.sl 3 (a0.Notes.map eApiCodeNote))])]⟩) (fun gG => nomValidate_j1 a0 = some r) ?_ ?_
    · refine WC.block ?_
      obtain ⟨eQ3, hl3, hk3⟩ := bnd h
      clear h
      refine WC.loop (σ := Int) (τ := ((Int) ⊕ (Unit))) (fun sS => ⟨[(25, .v (.int .i64 sS)), (24, .v (.int .i64 (a0.Entries.length : Int))), (23, .v (.sl 5 (a0.Entries.map eApiCodeEntry))), (1, .p 1 0)], [(1, .blk 31 [.v (.sl 5 (a0.Entries.map eApiCodeEntry)), .v (.sl 3 (a0.Notes.map eApiCodeNote))])]⟩) (nomValidate_b3 a0) [] (0 : Int) hl3 ⟨(by exact ⟨rfl, rfl, rfl, rfl, trivial⟩), (by exact ⟨rfl, trivial⟩), rfl, rfl, rfl, rfl⟩ ?_
      intro t25 m hn3 he3 hx3
      obtain ⟨o3, hf3⟩ := some_of hx3
      have h := hf3
      unfold nomValidate_b3 at h
      show WC _ _ _ ⟨[(25, .v (.int .i64 t25)), (24, .v (.int .i64 (a0.Entries.length : Int))), (23, .v (.sl 5 (a0.Entries.map eApiCodeEntry))), (1, .p 1 0)], [(1, .blk 31 [.v (.sl 5 (a0.Entries.map eApiCodeEntry)), .v (.sl 3 (a0.Notes.map eApiCodeNote))])]⟩ _ _
      refine WC.seq ?_
      refine WC.region ?_
      refine WL.run tbOk 1 (acc := []) rfl trivial ?_
      refine WL.nil ?_
      refine WQ.thenNormal ?_
      refine WC.seq ?_
      refine WC.cond rfl (fun hc6 => ?_) (fun hc6 => ?_)
      · replace h := ite_t hc6 h
        refine WC.skip ?_
        refine WQ.thenNormal ?_
        refine WC.seq ?_
        refine WC.thenCut (X := Unit) (fun gG => ⟨[(25, .v (.int .i64 t25)), (24, .v (.int .i64 (a0.Entries.length : Int))), (23, .v (.sl 5 (a0.Entries.map eApiCodeEntry))), (1, .p 1 0)], [(1, .blk 31 [.v (.sl 5 (a0.Entries.map eApiCodeEntry)), .v (.sl 3 (a0.Notes.map eApiCodeNote))])]⟩) (fun gG => nomValidate_j4 a0 t25 = some o3) ?_ ?_
        · refine WC.block ?_
          refine WC.seq ?_
          refine WC.region ?_
          refine WL.run tbOk 1 (acc := []) rfl trivial ?_
          obtain ⟨g3, h⟩ := grd h
          obtain ⟨x7, hxx7, h⟩ := bnd h
          refine WL.q [] rfl rfl rfl (q_idx tbOk rfl (by exact trivial) g3 (map_get (f := eApiCodeEntry) hxx7)) ?_
          refine WL.run tbOk 4 (acc := []) rfl trivial ?_
          refine WL.nil ?_
          refine WQ.thenNormal ?_
          refine WC.seq ?_
          refine WC.seq ?_
          refine WC.region ?_
          refine WL.run tbOk 1 (acc := []) rfl trivial ?_
          obtain ⟨v7, hvv7, h⟩ := bnd h
          refine WL.call0 fn43 rfl rfl rfl rfl (by exact trivial) rfl (validateEntry_con hw hvv7) ?_
          refine WL.run tbOk 1 (acc := []) rfl trivial ?_
          refine WL.nil ?_
          refine WQ.thenNormal ?_
          refine WC.seq ?_
          refine WC.region ?_
          refine WL.run tbOk 2 (acc := []) rfl trivial ?_
          refine WL.nil ?_
          refine WQ.thenNormal ?_
          refine WC.cond rfl (fun hc7 => ?_) (fun hc7 => ?_)
          · replace h := ite_t hc7 h
            refine WC.seq ?_
            refine WC.region ?_
            refine WL.run tbOk 2 (acc := []) rfl trivial ?_
            refine WL.nil ?_
            refine WQ.thenNormal ?_
            refine WC.ret ?_
            refine WQ.thenRet ?_
            refine WQ.blockRet ?_
            refine WQ.thenRet ?_
            cases h
            have he := he3 _ hf3
            subst he
            have h : some v7 = some _ := hk3
            refine WQ.thenRet ?_
            refine WQ.blockRet ?_
            refine WQ.thenRet ?_
            cases h
            exact WQ.rets tbOk hR [] (.inl rfl) rfl rfl (Le.refl _) (by exact trivial) rfl rfl rfl rfl
          · replace h := ite_f hc7 h
            refine WC.skip ?_
            refine WQ.thenNormal ?_
            refine WC.seq ?_
            refine WC.seq ?_
            refine WC.region ?_
            refine WL.run tbOk 2 (acc := []) rfl trivial ?_
            refine WL.nil ?_
            refine WQ.thenNormal ?_
            refine WC.cond rfl (fun hc8 => ?_) (fun hc8 => ?_)
            · replace h := ite_t hc8 h
              refine WC.exit ?_
              refine WQ.thenExit ?_
              refine WQ.blockExit ?_
              exact WQ.cut [] () ⟨(by exact ⟨rfl, rfl, rfl, rfl, trivial⟩), (by exact ⟨rfl, trivial⟩), rfl, rfl, rfl, rfl⟩ h
            · replace h := ite_f hc8 h
              refine WC.skip ?_
              refine WQ.thenNormal ?_
              refine WC.seq ?_
              refine WC.order mixed ?_
              refine WR.run tbOk 4 (acc := []) rfl trivial ?_
              obtain ⟨g4, h⟩ := grd h
              obtain ⟨x8, hxx8, h⟩ := bnd h
              refine WR.q [] rfl rfl rfl (q_idx tbOk rfl (by exact trivial) g4 (map_get (f := eApiCodeEntry) hxx8)) ?_
              refine WR.run tbOk 2 (acc := []) rfl trivial ?_
              obtain ⟨v8, hvv8, h⟩ := bnd h
              refine WR.call0 fn44 rfl rfl rfl rfl (by exact trivial) rfl (validateOrder_con hw hvv8) ?_
              refine WR.run tbOk 1 (acc := []) rfl trivial ?_
              refine WR.nil (by kernel_rfl) ?_
              refine WQ.thenNormal ?_
              refine WC.seq ?_
              refine WC.region ?_
              refine WL.run tbOk 2 (acc := []) rfl trivial ?_
              refine WL.nil ?_
              refine WQ.thenNormal ?_
              refine WC.cond rfl (fun hc9 => ?_) (fun hc9 => ?_)
              · replace h := ite_t hc9 h
                refine WC.seq ?_
                refine WC.region ?_
                refine WL.run tbOk 2 (acc := []) rfl trivial ?_
                refine WL.nil ?_
                refine WQ.thenNormal ?_
                refine WC.ret ?_
                refine WQ.blockRet ?_
                refine WQ.thenRet ?_
                cases h
                have he := he3 _ hf3
                subst he
                have h : some v8 = some _ := hk3
                refine WQ.thenRet ?_
                refine WQ.blockRet ?_
                refine WQ.thenRet ?_
                cases h
                exact WQ.rets tbOk hR [] (.inl rfl) rfl rfl (Le.refl _) (by exact trivial) rfl rfl rfl rfl
              · replace h := ite_f hc9 h
                refine WC.skip ?_
                refine WQ.blockNormal ?_
                exact WQ.cut [] () ⟨(by exact ⟨rfl, rfl, rfl, rfl, trivial⟩), (by exact ⟨rfl, trivial⟩), rfl, rfl, rfl, rfl⟩ h
        · intro _ h
          replace h : nomValidate_j4 a0 t25 = some _ := h
          unfold nomValidate_j4 at h
          show WC _ _ _ ⟨[(25, .v (.int .i64 t25)), (24, .v (.int .i64 (a0.Entries.length : Int))), (23, .v (.sl 5 (a0.Entries.map eApiCodeEntry))), (1, .p 1 0)], [(1, .blk 31 [.v (.sl 5 (a0.Entries.map eApiCodeEntry)), .v (.sl 3 (a0.Notes.map eApiCodeNote))])]⟩ _ _
          refine WC.region ?_
          refine WL.run tbOk 2 (acc := []) rfl trivial ?_
          refine WL.nil ?_
          cases h
          exact WQ.next [] (IntKind.i64.wrap (t25 + (1 : Int))) ⟨(by exact ⟨rfl, rfl, rfl, rfl, trivial⟩), (by exact ⟨rfl, trivial⟩), rfl, rfl, rfl, rfl⟩ (hn3 _ hf3)
      · replace h := ite_f hc6 h
        refine WC.exit ?_
        refine WQ.thenExit ?_
        cases h
        have he := he3 _ hf3
        subst he
        replace h := hk3
        try dsimp only at h
        refine WQ.thenExit ?_
        refine WQ.blockExit ?_
        exact WQ.cut [] () ⟨(by exact ⟨rfl, trivial⟩), (by exact ⟨rfl, trivial⟩), rfl, rfl, rfl, rfl⟩ h
    · intro _ h
      replace h : nomValidate_j1 a0 = some _ := h
      unfold nomValidate_j1 at h
      show WC _ _ _ ⟨[(1, .p 1 0)], [(1, .blk 31 [.v (.sl 5 (a0.Entries.map eApiCodeEntry)), .v (.sl 3 (a0.Notes.map eApiCodeNote))])]⟩ _ _
      refine WC.seq ?_
      refine WC.seq ?_
      refine WC.region ?_
      refine WL.run tbOk 2 (acc := []) rfl trivial ?_
      refine WL.q [] rfl rfl rfl (q_ev tbOk (.v (.int .i64 (a0.Entries.length : Int))) rfl (by exact trivial) (by first | (simp only [List.length_map]; done) | (simp only [List.length_map]; rfl) | rfl)) ?_
      refine WL.run tbOk 1 (acc := []) rfl trivial ?_
      refine WL.nil ?_
      refine WQ.thenNormal ?_
      refine WC.thenCut (X := Unit) (fun gG => ⟨[(1, .p 1 0)], [(1, .blk 31 [.v (.sl 5 (a0.Entries.map eApiCodeEntry)), .v (.sl 3 (a0.Notes.map eApiCodeNote))])]⟩) (fun gG => nomValidate_j2 a0 = some r) ?_ ?_
      · refine WC.block ?_
        obtain ⟨eQ2, hl2, hk2⟩ := bnd h
        clear h
        refine WC.loop (σ := Int) (τ := ((Int) ⊕ (Unit))) (fun sS => ⟨[(52, .v (.int .i64 sS)), (51, .v (.int .i64 (a0.Entries.length : Int))), (50, .v (.sl 5 (a0.Entries.map eApiCodeEntry))), (1, .p 1 0)], [(1, .blk 31 [.v (.sl 5 (a0.Entries.map eApiCodeEntry)), .v (.sl 3 (a0.Notes.map eApiCodeNote))])]⟩) (nomValidate_b2 a0) [] (0 : Int) hl2 ⟨(by exact ⟨rfl, rfl, rfl, rfl, trivial⟩), (by exact ⟨rfl, trivial⟩), rfl, rfl, rfl, rfl⟩ ?_
        intro t52 m hn2 he2 hx2
        obtain ⟨o2, hf2⟩ := some_of hx2
        have h := hf2
        unfold nomValidate_b2 at h
        show WC _ _ _ ⟨[(52, .v (.int .i64 t52)), (51, .v (.int .i64 (a0.Entries.length : Int))), (50, .v (.sl 5 (a0.Entries.map eApiCodeEntry))), (1, .p 1 0)], [(1, .blk 31 [.v (.sl 5 (a0.Entries.map eApiCodeEntry)), .v (.sl 3 (a0.Notes.map eApiCodeNote))])]⟩ _ _
        refine WC.seq ?_
        refine WC.region ?_
        refine WL.run tbOk 1 (acc := []) rfl trivial ?_
        refine WL.nil ?_
        refine WQ.thenNormal ?_
        refine WC.seq ?_
        refine WC.cond rfl (fun hc4 => ?_) (fun hc4 => ?_)
        · replace h := ite_t hc4 h
          refine WC.skip ?_
          refine WQ.thenNormal ?_
          refine WC.seq ?_
          refine WC.block ?_
          refine WC.seq ?_
          refine WC.region ?_
          obtain ⟨g2, h⟩ := grd h
          obtain ⟨x4, hxx4, h⟩ := bnd h
          refine WL.q [] rfl rfl rfl (q_idx tbOk rfl (by exact trivial) g2 (map_get (f := eApiCodeEntry) hxx4)) ?_
          refine WL.run tbOk 3 (acc := []) rfl trivial ?_
          refine WL.nil ?_
          refine WQ.thenNormal ?_
          refine WC.seq ?_
          refine WC.region ?_
          refine WL.run tbOk 2 (acc := []) rfl trivial ?_
          obtain ⟨v4, hvv4, h⟩ := bnd h
          refine WL.call0 fn45 rfl rfl rfl rfl (by exact trivial) rfl (hasParent_con hw hvv4) ?_
          refine WL.run tbOk 1 (acc := []) rfl trivial ?_
          refine WL.nil ?_
          refine WQ.thenNormal ?_
          refine WC.cond rfl (fun hc5 => ?_) (fun hc5 => ?_)
          · replace h := ite_t hc5 h
            refine WC.seq ?_
            refine WC.region ?_
            refine WL.run tbOk 1 (acc := []) rfl trivial ?_
            refine WL.nil ?_
            refine WQ.thenNormal ?_
            refine WC.ret ?_
            refine WQ.blockRet ?_
            refine WQ.thenRet ?_
            cases h
            have he := he2 _ hf2
            subst he
            have h : some (6 : Int) = some _ := hk2
            refine WQ.thenRet ?_
            refine WQ.blockRet ?_
            refine WQ.thenRet ?_
            cases h
            exact WQ.rets tbOk hR [] (.inl rfl) rfl rfl (Le.refl _) (by exact trivial) rfl rfl rfl rfl
          · replace h := ite_f hc5 h
            refine WC.skip ?_
            refine WQ.blockNormal ?_
            refine WQ.thenNormal ?_
            refine WC.region ?_
            refine WL.run tbOk 2 (acc := []) rfl trivial ?_
            refine WL.nil ?_
            cases h
            exact WQ.next [] (IntKind.i64.wrap (t52 + (1 : Int))) ⟨(by exact ⟨rfl, rfl, rfl, rfl, trivial⟩), (by exact ⟨rfl, trivial⟩), rfl, rfl, rfl, rfl⟩ (hn2 _ hf2)
        · replace h := ite_f hc4 h
          refine WC.exit ?_
          refine WQ.thenExit ?_
          cases h
          have he := he2 _ hf2
          subst he
          replace h := hk2
          try dsimp only at h
          refine WQ.thenExit ?_
          refine WQ.blockExit ?_
          exact WQ.cut [] () ⟨(by exact ⟨rfl, trivial⟩), (by exact ⟨rfl, trivial⟩), rfl, rfl, rfl, rfl⟩ h
      · intro _ h
        replace h : nomValidate_j2 a0 = some _ := h
        unfold nomValidate_j2 at h
        show WC _ _ _ ⟨[(1, .p 1 0)], [(1, .blk 31 [.v (.sl 5 (a0.Entries.map eApiCodeEntry)), .v (.sl 3 (a0.Notes.map eApiCodeNote))])]⟩ _ _
        refine WC.seq ?_
        refine WC.seq ?_
        refine WC.region ?_
        refine WL.run tbOk 2 (acc := []) rfl trivial ?_
        refine WL.q [] rfl rfl rfl (q_ev tbOk (.v (.int .i64 (a0.Notes.length : Int))) rfl (by exact trivial) (by first | (simp only [List.length_map]; done) | (simp only [List.length_map]; rfl) | rfl)) ?_
        refine WL.run tbOk 1 (acc := []) rfl trivial ?_
        refine WL.nil ?_
        refine WQ.thenNormal ?_
        refine WC.thenCut (X := Unit) (fun gG => ⟨[], []⟩) (fun gG => nomValidate_j3  = some r) ?_ ?_
        · refine WC.block ?_
          obtain ⟨eQ1, hl1, hk1⟩ := bnd h
          clear h
          refine WC.loop (σ := Int) (τ := ((Int) ⊕ (Unit))) (fun sS => ⟨[(64, .v (.int .i64 sS)), (63, .v (.int .i64 (a0.Notes.length : Int))), (62, .v (.sl 3 (a0.Notes.map eApiCodeNote)))], []⟩) (nomValidate_b1 a0) [] (0 : Int) hl1 ⟨(by exact ⟨rfl, rfl, rfl, trivial⟩), (by exact trivial), rfl, rfl, rfl, rfl⟩ ?_
          intro t64 m hn1 he1 hx1
          obtain ⟨o1, hf1⟩ := some_of hx1
          have h := hf1
          unfold nomValidate_b1 at h
          show WC _ _ _ ⟨[(64, .v (.int .i64 t64)), (63, .v (.int .i64 (a0.Notes.length : Int))), (62, .v (.sl 3 (a0.Notes.map eApiCodeNote)))], []⟩ _ _
          refine WC.seq ?_
          refine WC.region ?_
          refine WL.run tbOk 1 (acc := []) rfl trivial ?_
          refine WL.nil ?_
          refine WQ.thenNormal ?_
          refine WC.seq ?_
          refine WC.cond rfl (fun hc2 => ?_) (fun hc2 => ?_)
          · replace h := ite_t hc2 h
            refine WC.skip ?_
            refine WQ.thenNormal ?_
            refine WC.seq ?_
            refine WC.block ?_
            refine WC.seq ?_
            refine WC.region ?_
            obtain ⟨g1, h⟩ := grd h
            obtain ⟨x2, hxx2, h⟩ := bnd h
            refine WL.q [] rfl rfl rfl (q_idx tbOk rfl (by exact trivial) g1 (map_get (f := eApiCodeNote) hxx2)) ?_
            refine WL.run tbOk 3 (acc := []) rfl trivial ?_
            refine WL.nil ?_
            refine WQ.thenNormal ?_
            refine WC.seq ?_
            refine WC.region ?_
            refine WL.run tbOk 1 (acc := []) rfl trivial ?_
            obtain ⟨v2, hvv2, h⟩ := bnd h
            refine WL.call0 fn46 rfl rfl rfl rfl (by exact trivial) rfl (validateNote_con hw hvv2) ?_
            refine WL.run tbOk 1 (acc := []) rfl trivial ?_
            refine WL.nil ?_
            refine WQ.thenNormal ?_
            refine WC.seq ?_
            refine WC.region ?_
            refine WL.run tbOk 2 (acc := []) rfl trivial ?_
            refine WL.nil ?_
            refine WQ.thenNormal ?_
            refine WC.cond rfl (fun hc3 => ?_) (fun hc3 => ?_)
            · replace h := ite_t hc3 h
              refine WC.seq ?_
              refine WC.region ?_
              refine WL.run tbOk 2 (acc := []) rfl trivial ?_
              refine WL.nil ?_
              refine WQ.thenNormal ?_
              refine WC.ret ?_
              refine WQ.blockRet ?_
              refine WQ.thenRet ?_
              cases h
              have he := he1 _ hf1
              subst he
              have h : some v2 = some _ := hk1
              refine WQ.thenRet ?_
              refine WQ.blockRet ?_
              refine WQ.thenRet ?_
              cases h
              exact WQ.rets tbOk hR [] (.inl rfl) rfl rfl (Le.refl _) (by exact trivial) rfl rfl rfl rfl
            · replace h := ite_f hc3 h
              refine WC.skip ?_
              refine WQ.blockNormal ?_
              refine WQ.thenNormal ?_
              refine WC.region ?_
              refine WL.run tbOk 2 (acc := []) rfl trivial ?_
              refine WL.nil ?_
              cases h
              exact WQ.next [] (IntKind.i64.wrap (t64 + (1 : Int))) ⟨(by exact ⟨rfl, rfl, rfl, trivial⟩), (by exact trivial), rfl, rfl, rfl, rfl⟩ (hn1 _ hf1)
          · replace h := ite_f hc2 h
            refine WC.exit ?_
            refine WQ.thenExit ?_
            cases h
            have he := he1 _ hf1
            subst he
            replace h := hk1
            try dsimp only at h
            refine WQ.thenExit ?_
            refine WQ.blockExit ?_
            exact WQ.cut [] () ⟨(by exact trivial), (by exact trivial), rfl, rfl, rfl, rfl⟩ h
        · intro _ h
          replace h : nomValidate_j3 = some _ := h
          unfold nomValidate_j3 at h
          show WC _ _ _ ⟨[], []⟩ _ _
          refine WC.seq ?_
          refine WC.region ?_
          refine WL.run tbOk 1 (acc := []) rfl trivial ?_
          refine WL.nil ?_
          refine WQ.thenNormal ?_
          refine WC.ret ?_
          cases h
          exact WQ.rets tbOk hR [] (.inl rfl) rfl rfl (Le.refl _) (by exact trivial) rfl rfl rfl rfl

theorem refWord_con {wg : World} (hw : WG wg) {s : Str} {r : Bool} (h : refWord s = some r) : Con Tryz.prog wg gl 101 [.v (.str s)] [] (.v (.bool r)) [] := by
  unfold refWord at h
  refine con_of_WC (S := slotsOf 0 _) Tryz.func101 rfl Tryz.ntmps101 rfl (fun t x hx => (slotsOf_get hx).2) ?_
  intro F L w ρ0 R hR
  show WC _ _ _ ⟨[(0, .v (.str s))], []⟩ _ _
  refine WC.seq ?_
  refine WC.region ?_
  refine WL.run tbOk 1 (acc := []) rfl trivial ?_
  refine WL.nil ?_
  refine WQ.thenNormal ?_
  refine WC.seq ?_
  refine WC.seq ?_
  refine WC.region ?_
  refine WL.run tbOk 1 (acc := []) rfl trivial ?_
  refine WL.nil ?_
  refine WQ.thenNormal ?_
  refine WC.thenCut (X := Unit) (fun gG => ⟨[(0, .v (.str s))], []⟩) (fun gG => refWord_j1 s = some r) ?_ ?_
  · refine WC.block ?_
    obtain ⟨eQ1, hl1, hk1⟩ := bnd h
    clear h
    refine WC.loop (σ := Int) (τ := ((Bool) ⊕ (Unit))) (fun sS => ⟨[(3, .v (.int .i64 sS)), (0, .v (.str s))], []⟩) (refWord_b1 s) [] (0 : Int) hl1 ⟨(by exact ⟨rfl, rfl, trivial⟩), (by exact trivial), rfl, rfl, rfl, rfl⟩ ?_
    intro i m hn1 he1 hx1
    obtain ⟨o1, hf1⟩ := some_of hx1
    have h := hf1
    unfold refWord_b1 at h
    show WC _ _ _ ⟨[(3, .v (.int .i64 i)), (0, .v (.str s))], []⟩ _ _
    refine WC.seq ?_
    refine WC.seq ?_
    refine WC.region ?_
    refine WL.run tbOk 4 (acc := []) rfl trivial ?_
    refine WL.nil ?_
    refine WQ.thenNormal ?_
    refine WC.cond rfl (fun hc1 => ?_) (fun hc1 => ?_)
    · replace h := ite_t hc1 h
      refine WC.skip ?_
      refine WQ.thenNormal ?_
      refine WC.seq ?_
      refine WC.block ?_
      refine WC.seq ?_
      refine WC.region ?_
      obtain ⟨g1, h⟩ := grd h
      obtain ⟨g2, h⟩ := grd h
      refine WL.run tbOk 10 (acc := []) rfl (by repeat' (first | exact trivial | assumption | intro _ | exact g1 (by assumption) | exact g2 (by assumption) | apply And.intro | (refine not_i ?_; assumption) | (refine and_l ?_; assumption) | (refine and_i ?_ ?_) | decide | omega | (simp [vcs]; done) | (simp only [List.length_map]; omega))) ?_
      refine WL.nil ?_
      refine WQ.thenNormal ?_
      refine WC.cond rfl (fun hc2 => ?_) (fun hc2 => ?_)
      · replace h := ite_t hc2 h
        refine WC.seq ?_
        refine WC.region ?_
        refine WL.run tbOk 1 (acc := []) rfl trivial ?_
        refine WL.nil ?_
        refine WQ.thenNormal ?_
        refine WC.ret ?_
        refine WQ.blockRet ?_
        refine WQ.thenRet ?_
        cases h
        have he := he1 _ hf1
        subst he
        have h : some false = some _ := hk1
        refine WQ.thenRet ?_
        refine WQ.blockRet ?_
        refine WQ.thenRet ?_
        cases h
        exact WQ.rets tbOk hR [] (.inl rfl) rfl rfl (Le.refl _) (by exact trivial) rfl rfl rfl rfl
      · replace h := ite_f hc2 h
        refine WC.skip ?_
        refine WQ.blockNormal ?_
        refine WQ.thenNormal ?_
        refine WC.region ?_
        refine WL.run tbOk 3 (acc := []) rfl trivial ?_
        refine WL.nil ?_
        cases h
        exact WQ.next [] (IntKind.i64.wrap (i + (1 : Int))) ⟨(by exact ⟨rfl, rfl, trivial⟩), (by exact trivial), rfl, rfl, rfl, rfl⟩ (hn1 _ hf1)
    · replace h := ite_f hc1 h
      refine WC.exit ?_
      refine WQ.thenExit ?_
      cases h
      have he := he1 _ hf1
      subst he
      replace h := hk1
      try dsimp only at h
      refine WQ.thenExit ?_
      refine WQ.blockExit ?_
      exact WQ.cut [] () ⟨(by exact ⟨rfl, trivial⟩), (by exact trivial), rfl, rfl, rfl, rfl⟩ h
  · intro _ h
    replace h : refWord_j1 s = some _ := h
    unfold refWord_j1 at h
    show WC _ _ _ ⟨[(0, .v (.str s))], []⟩ _ _
    refine WC.seq ?_
    refine WC.region ?_
    refine WL.run tbOk 9 (acc := []) rfl (by repeat' (first | exact trivial | assumption | intro _ | apply And.intro | (refine not_i ?_; assumption) | (refine and_l ?_; assumption) | (refine and_i ?_ ?_) | decide | omega | (simp [vcs]; done) | (simp only [List.length_map]; omega))) ?_
    refine WL.nil ?_
    refine WQ.thenNormal ?_
    refine WC.ret ?_
    cases h
    exact WQ.rets tbOk hR [] (.inl rfl) rfl rfl (Le.refl _) (by exact trivial) rfl rfl rfl rfl

theorem refWords_con {wg : World} (hw : WG wg) {l : (List Str)} {r : Bool} (h : refWords l = some r) : Con Tryz.prog wg gl 81 [.v (.sl 1 (l.map eStr))] [] (.v (.bool r)) [] := by
  unfold refWords at h
  refine con_of_WC (S := slotsOf 0 _) Tryz.func81 rfl Tryz.ntmps81 rfl (fun t x hx => (slotsOf_get hx).2) ?_
  intro F L w ρ0 R hR
  show WC _ _ _ ⟨[(0, .v (.sl 1 (l.map eStr)))], []⟩ _ _
  refine WC.seq ?_
  refine WC.region ?_
  refine WL.run tbOk 1 (acc := []) rfl trivial ?_
  refine WL.nil ?_
  refine WQ.thenNormal ?_
  refine WC.seq ?_
  refine WC.seq ?_
  refine WC.region ?_
  refine WL.run tbOk 1 (acc := []) rfl trivial ?_
  refine WL.nil ?_
  refine WQ.thenNormal ?_
  refine WC.thenCut (X := Unit) (fun gG => ⟨[(0, .v (.sl 1 (l.map eStr)))], []⟩) (fun gG => refWords_j1 l = some r) ?_ ?_
  · refine WC.block ?_
    obtain ⟨eQ1, hl1, hk1⟩ := bnd h
    clear h
    refine WC.loop (σ := Int) (τ := ((Bool) ⊕ (Unit))) (fun sS => ⟨[(3, .v (.int .i64 sS)), (0, .v (.sl 1 (l.map eStr)))], []⟩) (refWords_b1 l) [] (0 : Int) hl1 ⟨(by exact ⟨rfl, rfl, trivial⟩), (by exact trivial), rfl, rfl, rfl, rfl⟩ ?_
    intro i m hn1 he1 hx1
    obtain ⟨o1, hf1⟩ := some_of hx1
    have h := hf1
    unfold refWords_b1 at h
    show WC _ _ _ ⟨[(3, .v (.int .i64 i)), (0, .v (.sl 1 (l.map eStr)))], []⟩ _ _
    refine WC.seq ?_
    refine WC.seq ?_
    refine WC.region ?_
    refine WL.run tbOk 2 (acc := []) rfl trivial ?_
    refine WL.q [] rfl rfl rfl (q_ev tbOk (.v (.int .i64 (l.length : Int))) rfl (by exact trivial) (by first | (simp only [List.length_map]; done) | (simp only [List.length_map]; rfl) | rfl)) ?_
    refine WL.run tbOk 1 (acc := []) rfl trivial ?_
    refine WL.nil ?_
    refine WQ.thenNormal ?_
    refine WC.cond rfl (fun hc1 => ?_) (fun hc1 => ?_)
    · replace h := ite_t hc1 h
      refine WC.skip ?_
      refine WQ.thenNormal ?_
      refine WC.seq ?_
      refine WC.block ?_
      refine WC.seq ?_
      refine WC.order mixed ?_
      refine WR.run tbOk 2 (acc := []) rfl trivial ?_
      obtain ⟨g1, h⟩ := grd h
      obtain ⟨x2, hxx2, h⟩ := bnd h
      refine WR.q [] rfl rfl rfl (q_idx tbOk rfl (by exact trivial) g1 (map_get (f := eStr) hxx2)) ?_
      refine WR.run tbOk 1 (acc := []) rfl trivial ?_
      obtain ⟨v2, hvv2, h⟩ := bnd h
      refine WR.call0 fn101 rfl rfl rfl rfl (by exact trivial) rfl (refWord_con hw hvv2) ?_
      refine WR.run tbOk 8 (acc := []) rfl (by repeat' (first | exact trivial | assumption | intro _ | apply And.intro | (refine not_i ?_; assumption) | (refine and_l ?_; assumption) | (refine and_i ?_ ?_) | decide | omega | (simp [vcs]; done) | (simp only [List.length_map]; omega))) ?_
      obtain ⟨g2, h⟩ := grd h
      refine WR.gq [] rfl rfl rfl rfl (fun hg => q_idx tbOk rfl (by repeat' (first | exact trivial | assumption | intro _ | apply And.intro | (refine not_i ?_; assumption) | (refine and_l ?_; assumption) | (refine and_i ?_ ?_) | decide | omega | (simp [vcs]; done) | (simp only [List.length_map]; omega))) (g2 hg).1 (map_getD (f := eStr) (g2 hg).2 (g2 hg).1)) ?_
      refine WR.run tbOk 3 (acc := []) rfl (by repeat' (first | exact trivial | assumption | intro _ | apply And.intro | (refine not_i ?_; assumption) | (refine and_l ?_; assumption) | (refine and_i ?_ ?_) | decide | omega | (simp [vcs]; done) | (simp only [List.length_map]; omega))) ?_
      obtain ⟨g3, h⟩ := grd h
      refine WR.gq [] rfl rfl rfl rfl (fun hg => q_idx tbOk rfl (by repeat' (first | exact trivial | assumption | intro _ | apply And.intro | (refine not_i ?_; assumption) | (refine and_l ?_; assumption) | (refine and_i ?_ ?_) | decide | omega | (simp [vcs]; done) | (simp only [List.length_map]; omega))) (g3 hg).1 (map_getD (f := eStr) (g3 hg).2 (g3 hg).1)) ?_
      refine WR.run tbOk 4 (acc := []) rfl (by repeat' (first | exact trivial | assumption | intro _ | apply And.intro | (refine not_i ?_; assumption) | (refine and_l ?_; assumption) | (refine and_i ?_ ?_) | decide | omega | (simp [vcs]; done) | (simp only [List.length_map]; omega))) ?_
      refine WR.nil (by kernel_rfl) ?_
      refine WQ.thenNormal ?_
      refine WC.cond rfl (fun hc2 => ?_) (fun hc2 => ?_)
      · replace h := ite_t hc2 h
        refine WC.seq ?_
        refine WC.region ?_
        refine WL.run tbOk 1 (acc := []) rfl trivial ?_
        refine WL.nil ?_
        refine WQ.thenNormal ?_
        refine WC.ret ?_
        refine WQ.blockRet ?_
        refine WQ.thenRet ?_
        cases h
        have he := he1 _ hf1
        subst he
        have h : some false = some _ := hk1
        refine WQ.thenRet ?_
        refine WQ.blockRet ?_
        refine WQ.thenRet ?_
        cases h
        exact WQ.rets tbOk hR [] (.inl rfl) rfl rfl (Le.refl _) (by exact trivial) rfl rfl rfl rfl
      · replace h := ite_f hc2 h
        refine WC.skip ?_
        refine WQ.blockNormal ?_
        refine WQ.thenNormal ?_
        refine WC.region ?_
        refine WL.run tbOk 3 (acc := []) rfl trivial ?_
        refine WL.nil ?_
        cases h
        exact WQ.next [] (IntKind.i64.wrap (i + (1 : Int))) ⟨(by exact ⟨rfl, rfl, trivial⟩), (by exact trivial), rfl, rfl, rfl, rfl⟩ (hn1 _ hf1)
    · replace h := ite_f hc1 h
      refine WC.exit ?_
      refine WQ.thenExit ?_
      cases h
      have he := he1 _ hf1
      subst he
      replace h := hk1
      try dsimp only at h
      refine WQ.thenExit ?_
      refine WQ.blockExit ?_
      exact WQ.cut [] () ⟨(by exact ⟨rfl, trivial⟩), (by exact trivial), rfl, rfl, rfl, rfl⟩ h
  · intro _ h
    replace h : refWords_j1 l = some _ := h
    unfold refWords_j1 at h
    show WC _ _ _ ⟨[(0, .v (.sl 1 (l.map eStr)))], []⟩ _ _
    refine WC.seq ?_
    refine WC.region ?_
    refine WL.run tbOk 1 (acc := []) rfl trivial ?_
    refine WL.q [] rfl rfl rfl (q_ev tbOk (.v (.int .i64 (l.length : Int))) rfl (by exact trivial) (by first | (simp only [List.length_map]; done) | (simp only [List.length_map]; rfl) | rfl)) ?_
    refine WL.run tbOk 2 (acc := []) rfl trivial ?_
    refine WL.nil ?_
    refine WQ.thenNormal ?_
    refine WC.ret ?_
    cases h
    exact WQ.rets tbOk hR [] (.inl rfl) rfl rfl (Le.refl _) (by exact trivial) rfl rfl rfl rfl

theorem refLevel_con {wg : World} (hw : WG wg) {s : Str} {r : Int} (h : refLevel s = some r) : Con Tryz.prog wg gl 13 [.v (.str s)] [] (.v (.int .i64 r)) [] := by
  unfold refLevel at h
  refine con_of_WC (S := slotsOf 0 _) Tryz.func13 rfl Tryz.ntmps13 rfl (fun t x hx => (slotsOf_get hx).2) ?_
  intro F L w ρ0 R hR
  show WC _ _ _ ⟨[(0, .v (.str s))], []⟩ _ _
  refine WC.seq ?_
  refine WC.region ?_
  refine WL.run tbOk 1 (acc := []) rfl trivial ?_
  refine WL.nil ?_
  refine WQ.thenNormal ?_
  refine WC.seq ?_
  refine WC.seq ?_
  refine WC.region ?_
  refine WL.run tbOk 1 (acc := []) rfl trivial ?_
  refine WL.nil ?_
  refine WQ.thenNormal ?_
  refine WC.thenCut (X := Unit) (fun gG => ⟨[(0, .v (.str s))], []⟩) (fun gG => refLevel_j1 s = some r) ?_ ?_
  · refine WC.block ?_
    obtain ⟨eQ1, hl1, hk1⟩ := bnd h
    clear h
    refine WC.loop (σ := Int) (τ := ((Int) ⊕ (Unit))) (fun sS => ⟨[(3, .v (.int .i64 sS)), (0, .v (.str s))], []⟩) (refLevel_b1 s) [] (0 : Int) hl1 ⟨(by exact ⟨rfl, rfl, trivial⟩), (by exact trivial), rfl, rfl, rfl, rfl⟩ ?_
    intro i m hn1 he1 hx1
    obtain ⟨o1, hf1⟩ := some_of hx1
    have h := hf1
    unfold refLevel_b1 at h
    show WC _ _ _ ⟨[(3, .v (.int .i64 i)), (0, .v (.str s))], []⟩ _ _
    refine WC.seq ?_
    refine WC.seq ?_
    refine WC.region ?_
    refine WL.run tbOk 4 (acc := []) rfl trivial ?_
    refine WL.nil ?_
    refine WQ.thenNormal ?_
    refine WC.cond rfl (fun hc2 => ?_) (fun hc2 => ?_)
    · replace h := ite_t hc2 h
      refine WC.skip ?_
      refine WQ.thenNormal ?_
      refine WC.seq ?_
      refine WC.block ?_
      refine WC.seq ?_
      refine WC.region ?_
      obtain ⟨g1, h⟩ := grd h
      obtain ⟨g2, h⟩ := grd h
      refine WL.run tbOk 10 (acc := []) rfl (by repeat' (first | exact trivial | assumption | intro _ | exact g1 (by assumption) | exact g2 (by assumption) | apply And.intro | (refine not_i ?_; assumption) | (refine and_l ?_; assumption) | (refine and_i ?_ ?_) | decide | omega | (simp [vcs]; done) | (simp only [List.length_map]; omega))) ?_
      refine WL.nil ?_
      refine WQ.thenNormal ?_
      refine WC.cond rfl (fun hc3 => ?_) (fun hc3 => ?_)
      · replace h := ite_t hc3 h
        refine WC.seq ?_
        refine WC.region ?_
        refine WL.run tbOk 1 (acc := []) rfl trivial ?_
        refine WL.nil ?_
        refine WQ.thenNormal ?_
        refine WC.ret ?_
        refine WQ.blockRet ?_
        refine WQ.thenRet ?_
        cases h
        have he := he1 _ hf1
        subst he
        have h : some (0 : Int) = some _ := hk1
        refine WQ.thenRet ?_
        refine WQ.blockRet ?_
        refine WQ.thenRet ?_
        cases h
        exact WQ.rets tbOk hR [] (.inl rfl) rfl rfl (Le.refl _) (by exact trivial) rfl rfl rfl rfl
      · replace h := ite_f hc3 h
        refine WC.skip ?_
        refine WQ.blockNormal ?_
        refine WQ.thenNormal ?_
        refine WC.region ?_
        refine WL.run tbOk 3 (acc := []) rfl trivial ?_
        refine WL.nil ?_
        cases h
        exact WQ.next [] (IntKind.i64.wrap (i + (1 : Int))) ⟨(by exact ⟨rfl, rfl, trivial⟩), (by exact trivial), rfl, rfl, rfl, rfl⟩ (hn1 _ hf1)
    · replace h := ite_f hc2 h
      refine WC.exit ?_
      refine WQ.thenExit ?_
      cases h
      have he := he1 _ hf1
      subst he
      replace h := hk1
      try dsimp only at h
      refine WQ.thenExit ?_
      refine WQ.blockExit ?_
      exact WQ.cut [] () ⟨(by exact ⟨rfl, trivial⟩), (by exact trivial), rfl, rfl, rfl, rfl⟩ h
  · intro _ h
    replace h : refLevel_j1 s = some _ := h
    unfold refLevel_j1 at h
    show WC _ _ _ ⟨[(0, .v (.str s))], []⟩ _ _
    refine WC.seq ?_
    refine WC.seq ?_
    refine WC.region ?_
    refine WL.run tbOk 9 (acc := []) rfl (by repeat' (first | exact trivial | assumption | intro _ | apply And.intro | (refine not_i ?_; assumption) | (refine and_l ?_; assumption) | (refine and_i ?_ ?_) | decide | omega | (simp [vcs]; done) | (simp only [List.length_map]; omega))) ?_
    refine WL.nil ?_
    refine WQ.thenNormal ?_
    refine WC.cond rfl (fun hc1 => ?_) (fun hc1 => ?_)
    · replace h := ite_t hc1 h
      refine WC.seq ?_
      refine WC.region ?_
      refine WL.run tbOk 1 (acc := []) rfl trivial ?_
      refine WL.nil ?_
      refine WQ.thenNormal ?_
      refine WC.ret ?_
      refine WQ.thenRet ?_
      cases h
      exact WQ.rets tbOk hR [] (.inl rfl) rfl rfl (Le.refl _) (by exact trivial) rfl rfl rfl rfl
    · replace h := ite_f hc1 h
      refine WC.skip ?_
      refine WQ.thenNormal ?_
      refine WC.seq ?_
      refine WC.region ?_
      refine WL.run tbOk 3 (acc := []) rfl trivial ?_
      refine WL.nil ?_
      refine WQ.thenNormal ?_
      refine WC.ret ?_
      cases h
      exact WQ.rets tbOk hR [] (.inl rfl) rfl rfl (Le.refl _) (by exact trivial) rfl rfl rfl rfl

theorem refOne_con {wg : World} (hw : WG wg) {a0 : ApiCodeEntry} {r : Int} (h : refOne a0 = some r) : Con Tryz.prog wg gl 47 [.v (.agg [.str a0.Code, .int .i64 a0.From, .int .i64 a0.To, .sl 1 (a0.Terms.map eLStr), .bool a0.Other])] [] (.v (.int .i64 r)) [] := by
  unfold refOne at h
  refine con_of_WC (S := slotsOf 0 _) Tryz.func47 rfl Tryz.ntmps47 rfl (fun t x hx => (slotsOf_get hx).2) ?_
  intro F L w ρ0 R hR
  show WC _ _ _ ⟨[(0, .v (.agg [.str a0.Code, .int .i64 a0.From, .int .i64 a0.To, .sl 1 (a0.Terms.map eLStr), .bool a0.Other]))], []⟩ _ _
  refine WC.seq ?_
  refine WC.region ?_
  refine WL.run tbOk 2 (acc := []) rfl trivial ?_
  refine WL.nil ?_
  refine WQ.thenNormal ?_
  refine WC.seq ?_
  refine WC.seq ?_
  refine WC.region ?_
  refine WL.run tbOk 2 (acc := []) rfl trivial ?_
  obtain ⟨v, hvv, h⟩ := bnd h
  refine WL.call0 fn13 rfl rfl rfl rfl (by exact trivial) rfl (refLevel_con hw hvv) ?_
  refine WL.run tbOk 1 (acc := []) rfl trivial ?_
  refine WL.nil ?_
  refine WQ.thenNormal ?_
  refine WC.cond rfl (fun hc1 => ?_) (fun hc1 => ?_)
  · replace h := ite_t hc1 h
    refine WC.seq ?_
    refine WC.region ?_
    refine WL.run tbOk 1 (acc := []) rfl trivial ?_
    refine WL.nil ?_
    refine WQ.thenNormal ?_
    refine WC.ret ?_
    refine WQ.thenRet ?_
    cases h
    exact WQ.rets tbOk hR [] (.inl rfl) rfl rfl (Le.refl _) (by exact trivial) rfl rfl rfl rfl
  · replace h := ite_f hc1 h
    refine WC.skip ?_
    refine WQ.thenNormal ?_
    refine WC.seq ?_
    refine WC.seq ?_
    refine WC.region ?_
    refine WL.run tbOk 15 (acc := []) rfl (by repeat' (first | exact trivial | assumption | intro _ | apply And.intro | (refine not_i ?_; assumption) | (refine and_l ?_; assumption) | (refine and_i ?_ ?_) | decide | omega | (simp [vcs]; done) | (simp only [List.length_map]; omega))) ?_
    refine WL.nil ?_
    refine WQ.thenNormal ?_
    refine WC.cond rfl (fun hc2 => ?_) (fun hc2 => ?_)
    · replace h := ite_t hc2 h
      refine WC.seq ?_
      refine WC.region ?_
      refine WL.run tbOk 1 (acc := []) rfl trivial ?_
      refine WL.nil ?_
      refine WQ.thenNormal ?_
      refine WC.ret ?_
      refine WQ.thenRet ?_
      cases h
      exact WQ.rets tbOk hR [] (.inl rfl) rfl rfl (Le.refl _) (by exact trivial) rfl rfl rfl rfl
    · replace h := ite_f hc2 h
      refine WC.skip ?_
      refine WQ.thenNormal ?_
      refine WC.seq ?_
      refine WC.seq ?_
      refine WC.region ?_
      refine WL.run tbOk 2 (acc := []) rfl trivial ?_
      refine WL.q [] rfl rfl rfl (q_ev tbOk (.v (.int .i64 (a0.Terms.length : Int))) rfl (by exact trivial) (by first | (simp only [List.length_map]; done) | (simp only [List.length_map]; rfl) | rfl)) ?_
      refine WL.run tbOk 1 (acc := []) rfl trivial ?_
      refine WL.nil ?_
      refine WQ.thenNormal ?_
      refine WC.cond rfl (fun hc3 => ?_) (fun hc3 => ?_)
      · replace h := ite_t hc3 h
        refine WC.seq ?_
        refine WC.region ?_
        refine WL.run tbOk 1 (acc := []) rfl trivial ?_
        refine WL.nil ?_
        refine WQ.thenNormal ?_
        refine WC.ret ?_
        refine WQ.thenRet ?_
        cases h
        exact WQ.rets tbOk hR [] (.inl rfl) rfl rfl (Le.refl _) (by exact trivial) rfl rfl rfl rfl
      · replace h := ite_f hc3 h
        refine WC.skip ?_
        refine WQ.thenNormal ?_
        refine WC.seq ?_
        refine WC.seq ?_
        refine WC.region ?_
        refine WL.run tbOk 1 (acc := []) rfl trivial ?_
        refine WL.nil ?_
        refine WQ.thenNormal ?_
        refine WC.thenCut (X := Unit) (fun gG => ⟨[(1, .p 1 0)], [(1, .blk 40 [.v (.str a0.Code), .v (.int .i64 a0.From), .v (.int .i64 a0.To), .v (.sl 1 (a0.Terms.map eLStr)), .v (.bool a0.Other)])]⟩) (fun gG => refOne_j1 a0 = some r) ?_ ?_
        · refine WC.block ?_
          obtain ⟨eQ1, hl1, hk1⟩ := bnd h
          clear h
          refine WC.loop (σ := Int) (τ := ((Int) ⊕ (Unit))) (fun sS => ⟨[(3, .v (.int .i64 sS)), (1, .p 1 0)], [(1, .blk 40 [.v (.str a0.Code), .v (.int .i64 a0.From), .v (.int .i64 a0.To), .v (.sl 1 (a0.Terms.map eLStr)), .v (.bool a0.Other)])]⟩) (refOne_b1 a0) [] (0 : Int) hl1 ⟨(by exact ⟨rfl, rfl, trivial⟩), (by exact ⟨rfl, trivial⟩), rfl, rfl, rfl, rfl⟩ ?_
          intro t3 m hn1 he1 hx1
          obtain ⟨o1, hf1⟩ := some_of hx1
          have h := hf1
          unfold refOne_b1 at h
          show WC _ _ _ ⟨[(3, .v (.int .i64 t3)), (1, .p 1 0)], [(1, .blk 40 [.v (.str a0.Code), .v (.int .i64 a0.From), .v (.int .i64 a0.To), .v (.sl 1 (a0.Terms.map eLStr)), .v (.bool a0.Other)])]⟩ _ _
          refine WC.seq ?_
          refine WC.seq ?_
          refine WC.region ?_
          refine WL.run tbOk 3 (acc := []) rfl trivial ?_
          refine WL.q [] rfl rfl rfl (q_ev tbOk (.v (.int .i64 (a0.Terms.length : Int))) rfl (by exact trivial) (by first | (simp only [List.length_map]; done) | (simp only [List.length_map]; rfl) | rfl)) ?_
          refine WL.run tbOk 1 (acc := []) rfl trivial ?_
          refine WL.nil ?_
          refine WQ.thenNormal ?_
          refine WC.cond rfl (fun hc9 => ?_) (fun hc9 => ?_)
          · replace h := ite_t hc9 h
            refine WC.skip ?_
            refine WQ.thenNormal ?_
            refine WC.seq ?_
            refine WC.block ?_
            refine WC.seq ?_
            refine WC.region ?_
            refine WL.run tbOk 3 (acc := []) rfl trivial ?_
            obtain ⟨g1, h⟩ := grd h
            obtain ⟨x2, hxx2, h⟩ := bnd h
            refine WL.q [] rfl rfl rfl (q_idx tbOk rfl (by exact trivial) g1 (map_get (f := eLStr) hxx2)) ?_
            refine WL.run tbOk 1 (acc := []) rfl trivial ?_
            obtain ⟨v4, hvv4, h⟩ := bnd h
            refine WL.call0 fn81 rfl rfl rfl rfl (by exact trivial) rfl (refWords_con hw hvv4) ?_
            refine WL.run tbOk 5 (acc := []) rfl (by repeat' (first | exact trivial | assumption | intro _ | apply And.intro | (refine not_i ?_; assumption) | (refine and_l ?_; assumption) | (refine and_i ?_ ?_) | decide | omega | (simp [vcs]; done) | (simp only [List.length_map]; omega))) ?_
            obtain ⟨g2, h⟩ := grd h
            refine WL.gq [] rfl rfl rfl rfl (fun hg => q_idx tbOk rfl (by repeat' (first | exact trivial | assumption | intro _ | apply And.intro | (refine not_i ?_; assumption) | (refine and_l ?_; assumption) | (refine and_i ?_ ?_) | decide | omega | (simp [vcs]; done) | (simp only [List.length_map]; omega))) (g2 hg).1 (map_getD (f := eLStr) (g2 hg).2 (g2 hg).1)) ?_
            refine WL.run tbOk 1 (acc := []) rfl (by repeat' (first | exact trivial | assumption | intro _ | apply And.intro | (refine not_i ?_; assumption) | (refine and_l ?_; assumption) | (refine and_i ?_ ?_) | decide | omega | (simp [vcs]; done) | (simp only [List.length_map]; omega))) ?_
            refine WL.gq [] rfl rfl rfl rfl (fun hg => q_ev tbOk (.v (.int .i64 ((a0.Terms.getD t3.toNat default).length : Int))) rfl (by repeat' (first | exact trivial | assumption | intro _ | apply And.intro | (refine not_i ?_; assumption) | (refine and_l ?_; assumption) | (refine and_i ?_ ?_) | decide | omega | (simp [vcs]; done) | (simp only [List.length_map]; omega))) (by first | (simp only [List.length_map]; done) | (simp only [List.length_map]; rfl) | rfl)) ?_
            refine WL.run tbOk 2 (acc := []) rfl (by repeat' (first | exact trivial | assumption | intro _ | apply And.intro | (refine not_i ?_; assumption) | (refine and_l ?_; assumption) | (refine and_i ?_ ?_) | decide | omega | (simp [vcs]; done) | (simp only [List.length_map]; omega))) ?_
            refine WL.nil ?_
            refine WQ.thenNormal ?_
            refine WC.cond rfl (fun hc10 => ?_) (fun hc10 => ?_)
            · replace h := ite_t hc10 h
              refine WC.seq ?_
              refine WC.region ?_
              refine WL.run tbOk 1 (acc := []) rfl trivial ?_
              refine WL.nil ?_
              refine WQ.thenNormal ?_
              refine WC.ret ?_
              refine WQ.blockRet ?_
              refine WQ.thenRet ?_
              cases h
              have he := he1 _ hf1
              subst he
              have h : some (1 : Int) = some _ := hk1
              refine WQ.thenRet ?_
              refine WQ.blockRet ?_
              refine WQ.thenRet ?_
              cases h
              exact WQ.rets tbOk hR [] (.inl rfl) rfl rfl (Le.refl _) (by exact trivial) rfl rfl rfl rfl
            · replace h := ite_f hc10 h
              refine WC.skip ?_
              refine WQ.blockNormal ?_
              refine WQ.thenNormal ?_
              refine WC.region ?_
              refine WL.run tbOk 3 (acc := []) rfl trivial ?_
              refine WL.nil ?_
              cases h
              exact WQ.next [] (IntKind.i64.wrap (t3 + (1 : Int))) ⟨(by exact ⟨rfl, rfl, trivial⟩), (by exact ⟨rfl, trivial⟩), rfl, rfl, rfl, rfl⟩ (hn1 _ hf1)
          · replace h := ite_f hc9 h
            refine WC.exit ?_
            refine WQ.thenExit ?_
            cases h
            have he := he1 _ hf1
            subst he
            replace h := hk1
            try dsimp only at h
            refine WQ.thenExit ?_
            refine WQ.blockExit ?_
            exact WQ.cut [] () ⟨(by exact ⟨rfl, trivial⟩), (by exact ⟨rfl, trivial⟩), rfl, rfl, rfl, rfl⟩ h
        · intro _ h
          replace h : refOne_j1 a0 = some _ := h
          unfold refOne_j1 at h
          show WC _ _ _ ⟨[(1, .p 1 0)], [(1, .blk 40 [.v (.str a0.Code), .v (.int .i64 a0.From), .v (.int .i64 a0.To), .v (.sl 1 (a0.Terms.map eLStr)), .v (.bool a0.Other)])]⟩ _ _
          refine WC.seq ?_
          refine WC.region ?_
          refine WL.run tbOk 2 (acc := []) rfl trivial ?_
          refine WL.q [] rfl rfl rfl (q_ev tbOk (.v (.int .i64 (a0.Terms.length : Int))) rfl (by exact trivial) (by first | (simp only [List.length_map]; done) | (simp only [List.length_map]; rfl) | rfl)) ?_
          refine WL.run tbOk 2 (acc := []) rfl trivial ?_
          refine WL.nil ?_
          refine WQ.thenNormal ?_
          refine WC.seq ?_
          refine WC.seq ?_
          refine WC.region ?_
          refine WL.run tbOk 2 (acc := []) rfl trivial ?_
          obtain ⟨v2, hvv2, h⟩ := bnd h
          refine WL.call0 fn13 rfl rfl rfl rfl (by exact trivial) rfl (refLevel_con hw hvv2) ?_
          refine WL.nil ?_
          refine WQ.thenNormal ?_
          refine WC.thenCut (X := Unit) (fun gG => ⟨[], []⟩) (fun gG => refOne_j2  = some r) ?_ ?_
          · refine WC.block ?_
            refine WC.seq ?_
            refine WC.region ?_
            refine WL.run tbOk 2 (acc := []) rfl trivial ?_
            refine WL.nil ?_
            refine WQ.thenNormal ?_
            refine WC.cond rfl (fun hc4 => ?_) (fun hc4 => ?_)
            · replace h := ite_t hc4 h
              refine WC.seq ?_
              refine WC.region ?_
              refine WL.run tbOk 5 (acc := []) rfl (by repeat' (first | exact trivial | assumption | intro _ | apply And.intro | (refine not_i ?_; assumption) | (refine and_l ?_; assumption) | (refine and_i ?_ ?_) | decide | omega | (simp [vcs]; done) | (simp only [List.length_map]; omega))) ?_
              refine WL.nil ?_
              refine WQ.thenNormal ?_
              refine WC.cond rfl (fun hc5 => ?_) (fun hc5 => ?_)
              · replace h := ite_t hc5 h
                refine WC.seq ?_
                refine WC.region ?_
                refine WL.run tbOk 1 (acc := []) rfl trivial ?_
                refine WL.nil ?_
                refine WQ.thenNormal ?_
                refine WC.ret ?_
                refine WQ.blockRet ?_
                refine WQ.thenRet ?_
                cases h
                exact WQ.rets tbOk hR [] (.inl rfl) rfl rfl (Le.refl _) (by exact trivial) rfl rfl rfl rfl
              · replace h := ite_f hc5 h
                refine WC.skip ?_
                refine WQ.blockNormal ?_
                exact WQ.cut [] () ⟨(by exact trivial), (by exact trivial), rfl, rfl, rfl, rfl⟩ h
            · replace h := ite_f hc4 h
              refine WC.seq ?_
              refine WC.region ?_
              refine WL.run tbOk 2 (acc := []) rfl trivial ?_
              refine WL.nil ?_
              refine WQ.thenNormal ?_
              refine WC.cond rfl (fun hc6 => ?_) (fun hc6 => ?_)
              · replace h := ite_t hc6 h
                refine WC.seq ?_
                refine WC.region ?_
                refine WL.run tbOk 6 (acc := []) rfl (by repeat' (first | exact trivial | assumption | intro _ | apply And.intro | (refine not_i ?_; assumption) | (refine and_l ?_; assumption) | (refine and_i ?_ ?_) | decide | omega | (simp [vcs]; done) | (simp only [List.length_map]; omega))) ?_
                refine WL.nil ?_
                refine WQ.thenNormal ?_
                refine WC.cond rfl (fun hc7 => ?_) (fun hc7 => ?_)
                · replace h := ite_t hc7 h
                  refine WC.seq ?_
                  refine WC.region ?_
                  refine WL.run tbOk 1 (acc := []) rfl trivial ?_
                  refine WL.nil ?_
                  refine WQ.thenNormal ?_
                  refine WC.ret ?_
                  refine WQ.blockRet ?_
                  refine WQ.thenRet ?_
                  cases h
                  exact WQ.rets tbOk hR [] (.inl rfl) rfl rfl (Le.refl _) (by exact trivial) rfl rfl rfl rfl
                · replace h := ite_f hc7 h
                  refine WC.skip ?_
                  refine WQ.blockNormal ?_
                  exact WQ.cut [] () ⟨(by exact trivial), (by exact trivial), rfl, rfl, rfl, rfl⟩ h
              · replace h := ite_f hc6 h
                refine WC.seq ?_
                refine WC.region ?_
                refine WL.run tbOk 4 (acc := []) rfl trivial ?_
                refine WL.nil ?_
                refine WQ.thenNormal ?_
                refine WC.cond rfl (fun hc8 => ?_) (fun hc8 => ?_)
                · replace h := ite_t hc8 h
                  refine WC.seq ?_
                  refine WC.region ?_
                  refine WL.run tbOk 1 (acc := []) rfl trivial ?_
                  refine WL.nil ?_
                  refine WQ.thenNormal ?_
                  refine WC.ret ?_
                  refine WQ.blockRet ?_
                  refine WQ.thenRet ?_
                  cases h
                  exact WQ.rets tbOk hR [] (.inl rfl) rfl rfl (Le.refl _) (by exact trivial) rfl rfl rfl rfl
                · replace h := ite_f hc8 h
                  refine WC.skip ?_
                  refine WQ.blockNormal ?_
                  exact WQ.cut [] () ⟨(by exact trivial), (by exact trivial), rfl, rfl, rfl, rfl⟩ h
          · intro _ h
            replace h : refOne_j2 = some _ := h
            unfold refOne_j2 at h
            show WC _ _ _ ⟨[], []⟩ _ _
            refine WC.seq ?_
            refine WC.region ?_
            refine WL.run tbOk 1 (acc := []) rfl trivial ?_
            refine WL.nil ?_
            refine WQ.thenNormal ?_
            refine WC.ret ?_
            cases h
            exact WQ.rets tbOk hR [] (.inl rfl) rfl rfl (Le.refl _) (by exact trivial) rfl rfl rfl rfl

theorem refNote_con {wg : World} (hw : WG wg) {x : ApiCodeNote} {r : Bool} (h : refNote x = some r) : Con Tryz.prog wg gl 49 [.v (.agg [.str x.Scope, .sl 1 (x.Words.map eStr), .str x.Target])] [] (.v (.bool r)) [] := by
  unfold refNote at h
  refine con_of_WC (S := slotsOf 0 _) Tryz.func49 rfl Tryz.ntmps49 rfl (fun t x hx => (slotsOf_get hx).2) ?_
  intro F L w ρ0 R hR
  show WC _ _ _ ⟨[(0, .v (.agg [.str x.Scope, .sl 1 (x.Words.map eStr), .str x.Target]))], []⟩ _ _
  refine WC.seq ?_
  refine WC.region ?_
  refine WL.run tbOk 2 (acc := []) rfl trivial ?_
  refine WL.nil ?_
  refine WQ.thenNormal ?_
  refine WC.seq ?_
  refine WC.region ?_
  refine WL.run tbOk 2 (acc := []) rfl trivial ?_
  obtain ⟨v, hvv, h⟩ := bnd h
  refine WL.call0 fn13 rfl rfl rfl rfl (by exact trivial) rfl (refLevel_con hw hvv) ?_
  refine WL.run tbOk 4 (acc := []) rfl (by repeat' (first | exact trivial | assumption | intro _ | apply And.intro | (refine not_i ?_; assumption) | (refine and_l ?_; assumption) | (refine and_i ?_ ?_) | decide | omega | (simp [vcs]; done) | (simp only [List.length_map]; omega))) ?_
  obtain ⟨v2, hvv2, h⟩ := bnd h
  refine WL.gcall0 fn81 rfl rfl rfl rfl rfl (fun _ => (by repeat' (first | exact trivial | assumption | intro _ | apply And.intro | (refine not_i ?_; assumption) | (refine and_l ?_; assumption) | (refine and_i ?_ ?_) | decide | omega | (simp [vcs]; done) | (simp only [List.length_map]; omega)))) rfl (fun hg => (refWords_con hw (ite_t hg hvv2))) ?_
  refine WL.run tbOk 4 (acc := []) rfl (by repeat' (first | exact trivial | assumption | intro _ | apply And.intro | (refine not_i ?_; assumption) | (refine and_l ?_; assumption) | (refine and_i ?_ ?_) | decide | omega | (simp [vcs]; done) | (simp only [List.length_map]; omega))) ?_
  refine WL.gq [] rfl rfl rfl rfl (fun hg => q_ev tbOk (.v (.int .i64 (x.Words.length : Int))) rfl (by repeat' (first | exact trivial | assumption | intro _ | apply And.intro | (refine not_i ?_; assumption) | (refine and_l ?_; assumption) | (refine and_i ?_ ?_) | decide | omega | (simp [vcs]; done) | (simp only [List.length_map]; omega))) (by first | (simp only [List.length_map]; done) | (simp only [List.length_map]; rfl) | rfl)) ?_
  refine WL.run tbOk 9 (acc := []) rfl (by repeat' (first | exact trivial | assumption | intro _ | apply And.intro | (refine not_i ?_; assumption) | (refine and_l ?_; assumption) | (refine and_i ?_ ?_) | decide | omega | (simp [vcs]; done) | (simp only [List.length_map]; omega))) ?_
  obtain ⟨v3, hvv3, h⟩ := bnd h
  refine WL.gcall0 fn13 rfl rfl rfl rfl rfl (fun _ => (by repeat' (first | exact trivial | assumption | intro _ | apply And.intro | (refine not_i ?_; assumption) | (refine and_l ?_; assumption) | (refine and_i ?_ ?_) | decide | omega | (simp [vcs]; done) | (simp only [List.length_map]; omega)))) rfl (fun hg => (refLevel_con hw (ite_t hg hvv3))) ?_
  refine WL.run tbOk 4 (acc := []) rfl (by repeat' (first | exact trivial | assumption | intro _ | apply And.intro | (refine not_i ?_; assumption) | (refine and_l ?_; assumption) | (refine and_i ?_ ?_) | decide | omega | (simp [vcs]; done) | (simp only [List.length_map]; omega))) ?_
  refine WL.nil ?_
  refine WQ.thenNormal ?_
  refine WC.ret ?_
  cases h
  exact WQ.rets tbOk hR [] (.inl rfl) rfl rfl (Le.refl _) (by exact trivial) rfl rfl rfl rfl

theorem refCovered_con {wg : World} (hw : WG wg) {b : ApiNomenclature} {code : Str} {from_ : Int} {to_ : Int} {r : Bool} (h : refCovered b code from_ to_ = some r) : Con Tryz.prog wg gl 48 [.v (.agg [.sl 5 (b.Entries.map eApiCodeEntry), .sl 3 (b.Notes.map eApiCodeNote)]), .v (.str code), .v (.int .i64 from_), .v (.int .i64 to_)] [] (.v (.bool r)) [] := by
  unfold refCovered at h
  refine con_of_WC (S := slotsOf 0 _) Tryz.func48 rfl Tryz.ntmps48 rfl (fun t x hx => (slotsOf_get hx).2) ?_
  intro F L w ρ0 R hR
  show WC _ _ _ ⟨[(0, .v (.agg [.sl 5 (b.Entries.map eApiCodeEntry), .sl 3 (b.Notes.map eApiCodeNote)])), (1, .v (.str code)), (2, .v (.int .i64 from_)), (3, .v (.int .i64 to_))], []⟩ _ _
  refine WC.seq ?_
  refine WC.region ?_
  refine WL.run tbOk 2 (acc := []) rfl trivial ?_
  refine WL.nil ?_
  refine WQ.thenNormal ?_
  refine WC.seq ?_
  refine WC.seq ?_
  refine WC.region ?_
  refine WL.run tbOk 1 (acc := []) rfl trivial ?_
  refine WL.nil ?_
  refine WQ.thenNormal ?_
  refine WC.thenCut (X := Int) (fun gG => ⟨[(2, .v (.int .i64 gG)), (3, .v (.int .i64 to_))], []⟩) (fun gG => refCovered_j1 to_ gG = some r) ?_ ?_
  · refine WC.block ?_
    obtain ⟨eQ1, hl1, hk1⟩ := bnd h
    clear h
    refine WC.loop (σ := Int × Int) (τ := (Int)) (fun sS => ⟨[(9, .v (.int .i64 sS.1)), (4, .p 4 0), (1, .v (.str code)), (2, .v (.int .i64 sS.2)), (3, .v (.int .i64 to_))], [(4, .blk 31 [.v (.sl 5 (b.Entries.map eApiCodeEntry)), .v (.sl 3 (b.Notes.map eApiCodeNote))])]⟩) (refCovered_b1 b code to_) [] ((0 : Int), from_) hl1 ⟨(by exact ⟨rfl, rfl, rfl, rfl, rfl, trivial⟩), (by exact ⟨rfl, trivial⟩), rfl, rfl, rfl, rfl⟩ ?_
    rintro ⟨i, from_3⟩ m hn1 he1 hx1
    obtain ⟨o1, hf1⟩ := some_of hx1
    have h := hf1
    unfold refCovered_b1 at h
    show WC _ _ _ ⟨[(9, .v (.int .i64 i)), (4, .p 4 0), (1, .v (.str code)), (2, .v (.int .i64 from_3)), (3, .v (.int .i64 to_))], [(4, .blk 31 [.v (.sl 5 (b.Entries.map eApiCodeEntry)), .v (.sl 3 (b.Notes.map eApiCodeNote))])]⟩ _ _
    refine WC.seq ?_
    refine WC.seq ?_
    refine WC.region ?_
    refine WL.run tbOk 3 (acc := []) rfl trivial ?_
    refine WL.q [] rfl rfl rfl (q_ev tbOk (.v (.int .i64 (b.Entries.length : Int))) rfl (by exact trivial) (by first | (simp only [List.length_map]; done) | (simp only [List.length_map]; rfl) | rfl)) ?_
    refine WL.run tbOk 1 (acc := []) rfl trivial ?_
    refine WL.nil ?_
    refine WQ.thenNormal ?_
    refine WC.cond rfl (fun hc1 => ?_) (fun hc1 => ?_)
    · replace h := ite_t hc1 h
      refine WC.skip ?_
      refine WQ.thenNormal ?_
      refine WC.seq ?_
      refine WC.thenCut (X := Int) (fun gG => ⟨[(2, .v (.int .i64 gG)), (9, .v (.int .i64 i)), (4, .p 4 0), (1, .v (.str code)), (3, .v (.int .i64 to_))], [(4, .blk 31 [.v (.sl 5 (b.Entries.map eApiCodeEntry)), .v (.sl 3 (b.Notes.map eApiCodeNote))])]⟩) (fun gG => refCovered_j2 b code to_ i gG = some o1) ?_ ?_
      · refine WC.block ?_
        refine WC.seq ?_
        refine WC.region ?_
        refine WL.run tbOk 3 (acc := []) rfl trivial ?_
        obtain ⟨g1, h⟩ := grd h
        obtain ⟨x2, hxx2, h⟩ := bnd h
        refine WL.q [] rfl rfl rfl (q_idx tbOk rfl (by exact trivial) g1 (map_get (f := eApiCodeEntry) hxx2)) ?_
        refine WL.run tbOk 3 (acc := []) rfl trivial ?_
        refine WL.nil ?_
        refine WQ.thenNormal ?_
        refine WC.seq ?_
        refine WC.region ?_
        refine WL.run tbOk 10 (acc := []) rfl (by repeat' (first | exact trivial | assumption | intro _ | apply And.intro | (refine not_i ?_; assumption) | (refine and_l ?_; assumption) | (refine and_i ?_ ?_) | decide | omega | (simp [vcs]; done) | (simp only [List.length_map]; omega))) ?_
        refine WL.nil ?_
        refine WQ.thenNormal ?_
        refine WC.cond rfl (fun hc2 => ?_) (fun hc2 => ?_)
        · replace h := ite_t hc2 h
          refine WC.region ?_
          refine WL.run tbOk 5 (acc := []) rfl trivial ?_
          refine WL.nil ?_
          refine WQ.blockNormal ?_
          exact WQ.cut [] (if x2.To > from_3 then x2.To else from_3) ⟨(by exact ⟨rfl, rfl, rfl, rfl, rfl, trivial⟩), (by exact ⟨rfl, trivial⟩), rfl, rfl, rfl, rfl⟩ h
        · replace h := ite_f hc2 h
          refine WC.skip ?_
          refine WQ.blockNormal ?_
          exact WQ.cut [] from_3 ⟨(by exact ⟨rfl, rfl, rfl, rfl, rfl, trivial⟩), (by exact ⟨rfl, trivial⟩), rfl, rfl, rfl, rfl⟩ h
      · intro from_7 h
        replace h : refCovered_j2 b code to_ i from_7 = some _ := h
        unfold refCovered_j2 at h
        show WC _ _ _ ⟨[(2, .v (.int .i64 from_7)), (9, .v (.int .i64 i)), (4, .p 4 0), (1, .v (.str code)), (3, .v (.int .i64 to_))], [(4, .blk 31 [.v (.sl 5 (b.Entries.map eApiCodeEntry)), .v (.sl 3 (b.Notes.map eApiCodeNote))])]⟩ _ _
        refine WC.region ?_
        refine WL.run tbOk 3 (acc := []) rfl trivial ?_
        refine WL.nil ?_
        cases h
        exact WQ.next [] ((IntKind.i64.wrap (i + (1 : Int))), from_7) ⟨(by exact ⟨rfl, rfl, rfl, rfl, rfl, trivial⟩), (by exact ⟨rfl, trivial⟩), rfl, rfl, rfl, rfl⟩ (hn1 _ hf1)
    · replace h := ite_f hc1 h
      refine WC.exit ?_
      refine WQ.thenExit ?_
      cases h
      have he := he1 _ hf1
      subst he
      replace h := hk1
      try dsimp only at h
      refine WQ.thenExit ?_
      refine WQ.blockExit ?_
      exact WQ.cut [] from_3 ⟨(by exact ⟨rfl, rfl, trivial⟩), (by exact trivial), rfl, rfl, rfl, rfl⟩ h
  · intro from_2 h
    replace h : refCovered_j1 to_ from_2 = some _ := h
    unfold refCovered_j1 at h
    show WC _ _ _ ⟨[(2, .v (.int .i64 from_2)), (3, .v (.int .i64 to_))], []⟩ _ _
    refine WC.seq ?_
    refine WC.region ?_
    refine WL.run tbOk 4 (acc := []) rfl trivial ?_
    refine WL.nil ?_
    refine WQ.thenNormal ?_
    refine WC.ret ?_
    cases h
    exact WQ.rets tbOk hR [] (.inl rfl) rfl rfl (Le.refl _) (by exact trivial) rfl rfl rfl rfl

theorem refBook_con {wg : World} (hw : WG wg) {a0 : ApiNomenclature} {r : Int} (h : refBook a0 = some r) : Con Tryz.prog wg gl 17 [.v (.agg [.sl 5 (a0.Entries.map eApiCodeEntry), .sl 3 (a0.Notes.map eApiCodeNote)])] [] (.v (.int .i64 r)) [] := by
  unfold refBook at h
  refine con_of_WC (S := slotsOf 0 _) Tryz.func17 rfl Tryz.ntmps17 rfl (fun t x hx => (slotsOf_get hx).2) ?_
  intro F L w ρ0 R hR
  show WC _ _ _ ⟨[(0, .v (.agg [.sl 5 (a0.Entries.map eApiCodeEntry), .sl 3 (a0.Notes.map eApiCodeNote)]))], []⟩ _ _
  refine WC.seq ?_
  refine WC.region ?_
  refine WL.run tbOk 2 (acc := []) rfl trivial ?_
  refine WL.nil ?_
  refine WQ.thenNormal ?_
  refine WC.seq ?_
  refine WC.seq ?_
  refine WC.region ?_
  refine WL.run tbOk 2 (acc := []) rfl trivial ?_
  refine WL.q [] rfl rfl rfl (q_ev tbOk (.v (.int .i64 (a0.Entries.length : Int))) rfl (by exact trivial) (by first | (simp only [List.length_map]; done) | (simp only [List.length_map]; rfl) | rfl)) ?_
  refine WL.run tbOk 4 (acc := []) rfl (by repeat' (first | exact trivial | assumption | intro _ | apply And.intro | (refine not_i ?_; assumption) | (refine and_l ?_; assumption) | (refine and_i ?_ ?_) | decide | omega | (simp [vcs]; done) | (simp only [List.length_map]; omega))) ?_
  refine WL.gq [] rfl rfl rfl rfl (fun hg => q_ev tbOk (.v (.int .i64 (a0.Notes.length : Int))) rfl (by repeat' (first | exact trivial | assumption | intro _ | apply And.intro | (refine not_i ?_; assumption) | (refine and_l ?_; assumption) | (refine and_i ?_ ?_) | decide | omega | (simp [vcs]; done) | (simp only [List.length_map]; omega))) (by first | (simp only [List.length_map]; done) | (simp only [List.length_map]; rfl) | rfl)) ?_
  refine WL.run tbOk 2 (acc := []) rfl (by repeat' (first | exact trivial | assumption | intro _ | apply And.intro | (refine not_i ?_; assumption) | (refine and_l ?_; assumption) | (refine and_i ?_ ?_) | decide | omega | (simp [vcs]; done) | (simp only [List.length_map]; omega))) ?_
  refine WL.nil ?_
  refine WQ.thenNormal ?_
  refine WC.cond rfl (fun hc1 => ?_) (fun hc1 => ?_)
  · replace h := ite_t hc1 h
    refine WC.seq ?_
    refine WC.region ?_
    refine WL.run tbOk 1 (acc := []) rfl trivial ?_
    refine WL.nil ?_
    refine WQ.thenNormal ?_
    refine WC.ret ?_
    refine WQ.thenRet ?_
    cases h
    exact WQ.rets tbOk hR [] (.inl rfl) rfl rfl (Le.refl _) (by exact trivial) rfl rfl rfl rfl
  · replace h := ite_f hc1 h
    refine WC.skip ?_
    refine WQ.thenNormal ?_
    refine WC.seq ?_
    refine WC.seq ?_
    refine WC.region ?_
    refine WL.run tbOk 1 (acc := []) rfl trivial ?_
    refine WL.nil ?_
    refine WQ.thenNormal ?_
    refine WC.thenCut (X := Unit) (fun gG => ⟨[(1, .p 1 0)], [(1, .blk 31 [.v (.sl 5 (a0.Entries.map eApiCodeEntry)), .v (.sl 3 (a0.Notes.map eApiCodeNote))])]⟩) (fun gG => refBook_j1 a0 = some r) ?_ ?_
    · refine WC.block ?_
      obtain ⟨eQ3, hl3, hk3⟩ := bnd h
      clear h
      refine WC.loop (σ := Int) (τ := ((Int) ⊕ (Unit))) (fun sS => ⟨[(3, .v (.int .i64 sS)), (1, .p 1 0)], [(1, .blk 31 [.v (.sl 5 (a0.Entries.map eApiCodeEntry)), .v (.sl 3 (a0.Notes.map eApiCodeNote))])]⟩) (refBook_b3 a0) [] (0 : Int) hl3 ⟨(by exact ⟨rfl, rfl, trivial⟩), (by exact ⟨rfl, trivial⟩), rfl, rfl, rfl, rfl⟩ ?_
      intro t3 m hn3 he3 hx3
      obtain ⟨o3, hf3⟩ := some_of hx3
      have h := hf3
      unfold refBook_b3 at h
      show WC _ _ _ ⟨[(3, .v (.int .i64 t3)), (1, .p 1 0)], [(1, .blk 31 [.v (.sl 5 (a0.Entries.map eApiCodeEntry)), .v (.sl 3 (a0.Notes.map eApiCodeNote))])]⟩ _ _
      refine WC.seq ?_
      refine WC.seq ?_
      refine WC.region ?_
      refine WL.run tbOk 3 (acc := []) rfl trivial ?_
      refine WL.q [] rfl rfl rfl (q_ev tbOk (.v (.int .i64 (a0.Entries.length : Int))) rfl (by exact trivial) (by first | (simp only [List.length_map]; done) | (simp only [List.length_map]; rfl) | rfl)) ?_
      refine WL.run tbOk 1 (acc := []) rfl trivial ?_
      refine WL.nil ?_
      refine WQ.thenNormal ?_
      refine WC.cond rfl (fun hc6 => ?_) (fun hc6 => ?_)
      · replace h := ite_t hc6 h
        refine WC.skip ?_
        refine WQ.thenNormal ?_
        refine WC.seq ?_
        refine WC.thenCut (X := Unit) (fun gG => ⟨[(3, .v (.int .i64 t3)), (1, .p 1 0)], [(1, .blk 31 [.v (.sl 5 (a0.Entries.map eApiCodeEntry)), .v (.sl 3 (a0.Notes.map eApiCodeNote))])]⟩) (fun gG => refBook_j4 a0 t3 = some o3) ?_ ?_
        · refine WC.block ?_
          refine WC.seq ?_
          refine WC.region ?_
          refine WL.run tbOk 3 (acc := []) rfl trivial ?_
          obtain ⟨g4, h⟩ := grd h
          obtain ⟨x7, hxx7, h⟩ := bnd h
          refine WL.q [] rfl rfl rfl (q_idx tbOk rfl (by exact trivial) g4 (map_get (f := eApiCodeEntry) hxx7)) ?_
          refine WL.run tbOk 3 (acc := []) rfl trivial ?_
          refine WL.nil ?_
          refine WQ.thenNormal ?_
          refine WC.seq ?_
          refine WC.seq ?_
          refine WC.region ?_
          refine WL.run tbOk 1 (acc := []) rfl trivial ?_
          obtain ⟨v6, hvv6, h⟩ := bnd h
          refine WL.call0 fn47 rfl rfl rfl rfl (by exact trivial) rfl (refOne_con hw hvv6) ?_
          refine WL.run tbOk 1 (acc := []) rfl trivial ?_
          refine WL.nil ?_
          refine WQ.thenNormal ?_
          refine WC.seq ?_
          refine WC.region ?_
          refine WL.run tbOk 2 (acc := []) rfl trivial ?_
          refine WL.nil ?_
          refine WQ.thenNormal ?_
          refine WC.cond rfl (fun hc7 => ?_) (fun hc7 => ?_)
          · replace h := ite_t hc7 h
            refine WC.seq ?_
            refine WC.region ?_
            refine WL.run tbOk 2 (acc := []) rfl trivial ?_
            refine WL.nil ?_
            refine WQ.thenNormal ?_
            refine WC.ret ?_
            refine WQ.thenRet ?_
            refine WQ.blockRet ?_
            refine WQ.thenRet ?_
            cases h
            have he := he3 _ hf3
            subst he
            have h : some v6 = some _ := hk3
            refine WQ.thenRet ?_
            refine WQ.blockRet ?_
            refine WQ.thenRet ?_
            cases h
            exact WQ.rets tbOk hR [] (.inl rfl) rfl rfl (Le.refl _) (by exact trivial) rfl rfl rfl rfl
          · replace h := ite_f hc7 h
            refine WC.skip ?_
            refine WQ.thenNormal ?_
            refine WC.seq ?_
            refine WC.seq ?_
            refine WC.region ?_
            refine WL.run tbOk 2 (acc := []) rfl trivial ?_
            refine WL.nil ?_
            refine WQ.thenNormal ?_
            refine WC.cond rfl (fun hc8 => ?_) (fun hc8 => ?_)
            · replace h := ite_t hc8 h
              refine WC.exit ?_
              refine WQ.thenExit ?_
              refine WQ.blockExit ?_
              exact WQ.cut [] () ⟨(by exact ⟨rfl, rfl, trivial⟩), (by exact ⟨rfl, trivial⟩), rfl, rfl, rfl, rfl⟩ h
            · replace h := ite_f hc8 h
              refine WC.skip ?_
              refine WQ.thenNormal ?_
              refine WC.seq ?_
              refine WC.region ?_
              refine WL.run tbOk 4 (acc := []) rfl trivial ?_
              obtain ⟨g5, h⟩ := grd h
              obtain ⟨x8, hxx8, h⟩ := bnd h
              refine WL.q [] rfl rfl rfl (q_idx tbOk rfl (by exact trivial) g5 (map_get (f := eApiCodeEntry) hxx8)) ?_
              refine WL.run tbOk 3 (acc := []) rfl trivial ?_
              refine WL.nil ?_
              refine WQ.thenNormal ?_
              refine WC.seq ?_
              refine WC.seq ?_
              refine WC.region ?_
              refine WL.run tbOk 19 (acc := []) rfl (by repeat' (first | exact trivial | assumption | intro _ | apply And.intro | (refine not_i ?_; assumption) | (refine and_l ?_; assumption) | (refine and_i ?_ ?_) | decide | omega | (simp [vcs]; done) | (simp only [List.length_map]; omega))) ?_
              refine WL.nil ?_
              refine WQ.thenNormal ?_
              refine WC.cond rfl (fun hc9 => ?_) (fun hc9 => ?_)
              · replace h := ite_t hc9 h
                refine WC.seq ?_
                refine WC.region ?_
                refine WL.run tbOk 1 (acc := []) rfl trivial ?_
                refine WL.nil ?_
                refine WQ.thenNormal ?_
                refine WC.ret ?_
                refine WQ.thenRet ?_
                refine WQ.blockRet ?_
                refine WQ.thenRet ?_
                cases h
                have he := he3 _ hf3
                subst he
                have h : some (9 : Int) = some _ := hk3
                refine WQ.thenRet ?_
                refine WQ.blockRet ?_
                refine WQ.thenRet ?_
                cases h
                exact WQ.rets tbOk hR [] (.inl rfl) rfl rfl (Le.refl _) (by exact trivial) rfl rfl rfl rfl
              · replace h := ite_f hc9 h
                refine WC.skip ?_
                refine WQ.thenNormal ?_
                refine WC.seq ?_
                refine WC.region ?_
                refine WL.run tbOk 12 (acc := []) rfl (by repeat' (first | exact trivial | assumption | intro _ | apply And.intro | (refine not_i ?_; assumption) | (refine and_l ?_; assumption) | (refine and_i ?_ ?_) | decide | omega | (simp [vcs]; done) | (simp only [List.length_map]; omega))) ?_
                refine WL.nil ?_
                refine WQ.thenNormal ?_
                refine WC.cond rfl (fun hc10 => ?_) (fun hc10 => ?_)
                · replace h := ite_t hc10 h
                  refine WC.seq ?_
                  refine WC.region ?_
                  refine WL.run tbOk 1 (acc := []) rfl trivial ?_
                  refine WL.nil ?_
                  refine WQ.thenNormal ?_
                  refine WC.ret ?_
                  refine WQ.blockRet ?_
                  refine WQ.thenRet ?_
                  cases h
                  have he := he3 _ hf3
                  subst he
                  have h : some (1 : Int) = some _ := hk3
                  refine WQ.thenRet ?_
                  refine WQ.blockRet ?_
                  refine WQ.thenRet ?_
                  cases h
                  exact WQ.rets tbOk hR [] (.inl rfl) rfl rfl (Le.refl _) (by exact trivial) rfl rfl rfl rfl
                · replace h := ite_f hc10 h
                  refine WC.skip ?_
                  refine WQ.blockNormal ?_
                  exact WQ.cut [] () ⟨(by exact ⟨rfl, rfl, trivial⟩), (by exact ⟨rfl, trivial⟩), rfl, rfl, rfl, rfl⟩ h
        · intro _ h
          replace h : refBook_j4 a0 t3 = some _ := h
          unfold refBook_j4 at h
          show WC _ _ _ ⟨[(3, .v (.int .i64 t3)), (1, .p 1 0)], [(1, .blk 31 [.v (.sl 5 (a0.Entries.map eApiCodeEntry)), .v (.sl 3 (a0.Notes.map eApiCodeNote))])]⟩ _ _
          refine WC.region ?_
          refine WL.run tbOk 3 (acc := []) rfl trivial ?_
          refine WL.nil ?_
          cases h
          exact WQ.next [] (IntKind.i64.wrap (t3 + (1 : Int))) ⟨(by exact ⟨rfl, rfl, trivial⟩), (by exact ⟨rfl, trivial⟩), rfl, rfl, rfl, rfl⟩ (hn3 _ hf3)
      · replace h := ite_f hc6 h
        refine WC.exit ?_
        refine WQ.thenExit ?_
        cases h
        have he := he3 _ hf3
        subst he
        replace h := hk3
        try dsimp only at h
        refine WQ.thenExit ?_
        refine WQ.blockExit ?_
        exact WQ.cut [] () ⟨(by exact ⟨rfl, trivial⟩), (by exact ⟨rfl, trivial⟩), rfl, rfl, rfl, rfl⟩ h
    · intro _ h
      replace h : refBook_j1 a0 = some _ := h
      unfold refBook_j1 at h
      show WC _ _ _ ⟨[(1, .p 1 0)], [(1, .blk 31 [.v (.sl 5 (a0.Entries.map eApiCodeEntry)), .v (.sl 3 (a0.Notes.map eApiCodeNote))])]⟩ _ _
      refine WC.seq ?_
      refine WC.seq ?_
      refine WC.region ?_
      refine WL.run tbOk 1 (acc := []) rfl trivial ?_
      refine WL.nil ?_
      refine WQ.thenNormal ?_
      refine WC.thenCut (X := Unit) (fun gG => ⟨[(1, .p 1 0)], [(1, .blk 31 [.v (.sl 5 (a0.Entries.map eApiCodeEntry)), .v (.sl 3 (a0.Notes.map eApiCodeNote))])]⟩) (fun gG => refBook_j2 a0 = some r) ?_ ?_
      · refine WC.block ?_
        obtain ⟨eQ2, hl2, hk2⟩ := bnd h
        clear h
        refine WC.loop (σ := Int) (τ := ((Int) ⊕ (Unit))) (fun sS => ⟨[(7, .v (.int .i64 sS)), (1, .p 1 0)], [(1, .blk 31 [.v (.sl 5 (a0.Entries.map eApiCodeEntry)), .v (.sl 3 (a0.Notes.map eApiCodeNote))])]⟩) (refBook_b2 a0) [] (0 : Int) hl2 ⟨(by exact ⟨rfl, rfl, trivial⟩), (by exact ⟨rfl, trivial⟩), rfl, rfl, rfl, rfl⟩ ?_
        intro t7 m hn2 he2 hx2
        obtain ⟨o2, hf2⟩ := some_of hx2
        have h := hf2
        unfold refBook_b2 at h
        show WC _ _ _ ⟨[(7, .v (.int .i64 t7)), (1, .p 1 0)], [(1, .blk 31 [.v (.sl 5 (a0.Entries.map eApiCodeEntry)), .v (.sl 3 (a0.Notes.map eApiCodeNote))])]⟩ _ _
        refine WC.seq ?_
        refine WC.seq ?_
        refine WC.region ?_
        refine WL.run tbOk 3 (acc := []) rfl trivial ?_
        refine WL.q [] rfl rfl rfl (q_ev tbOk (.v (.int .i64 (a0.Entries.length : Int))) rfl (by exact trivial) (by first | (simp only [List.length_map]; done) | (simp only [List.length_map]; rfl) | rfl)) ?_
        refine WL.run tbOk 1 (acc := []) rfl trivial ?_
        refine WL.nil ?_
        refine WQ.thenNormal ?_
        refine WC.cond rfl (fun hc4 => ?_) (fun hc4 => ?_)
        · replace h := ite_t hc4 h
          refine WC.skip ?_
          refine WQ.thenNormal ?_
          refine WC.seq ?_
          refine WC.block ?_
          refine WC.seq ?_
          refine WC.region ?_
          refine WL.run tbOk 3 (acc := []) rfl trivial ?_
          obtain ⟨g2, h⟩ := grd h
          obtain ⟨x4, hxx4, h⟩ := bnd h
          refine WL.q [] rfl rfl rfl (q_idx tbOk rfl (by exact trivial) g2 (map_get (f := eApiCodeEntry) hxx4)) ?_
          refine WL.run tbOk 3 (acc := []) rfl trivial ?_
          refine WL.nil ?_
          refine WQ.thenNormal ?_
          refine WC.seq ?_
          refine WC.order mixed ?_
          obtain ⟨g3, h⟩ := grd h
          refine WR.run tbOk 17 (acc := []) rfl (by repeat' (first | exact trivial | assumption | intro _ | exact g3 (by assumption) | apply And.intro | (refine not_i ?_; assumption) | (refine and_l ?_; assumption) | (refine and_i ?_ ?_) | decide | omega | (simp [vcs]; done) | (simp only [List.length_map]; omega))) ?_
          obtain ⟨v4, hvv4, h⟩ := bnd h
          refine WR.gcall0 fn48 rfl rfl rfl rfl rfl (fun _ => (by repeat' (first | exact trivial | assumption | intro _ | apply And.intro | (refine not_i ?_; assumption) | (refine and_l ?_; assumption) | (refine and_i ?_ ?_) | decide | omega | (simp [vcs]; done) | (simp only [List.length_map]; omega)))) rfl (fun hg => (refCovered_con hw (ite_t hg hvv4))) ?_
          refine WR.run tbOk 2 (acc := []) rfl (by repeat' (first | exact trivial | assumption | intro _ | apply And.intro | (refine not_i ?_; assumption) | (refine and_l ?_; assumption) | (refine and_i ?_ ?_) | decide | omega | (simp [vcs]; done) | (simp only [List.length_map]; omega))) ?_
          refine WR.nil (by kernel_rfl) ?_
          refine WQ.thenNormal ?_
          refine WC.cond rfl (fun hc5 => ?_) (fun hc5 => ?_)
          · replace h := ite_t hc5 h
            refine WC.seq ?_
            refine WC.region ?_
            refine WL.run tbOk 1 (acc := []) rfl trivial ?_
            refine WL.nil ?_
            refine WQ.thenNormal ?_
            refine WC.ret ?_
            refine WQ.blockRet ?_
            refine WQ.thenRet ?_
            cases h
            have he := he2 _ hf2
            subst he
            have h : some (6 : Int) = some _ := hk2
            refine WQ.thenRet ?_
            refine WQ.blockRet ?_
            refine WQ.thenRet ?_
            cases h
            exact WQ.rets tbOk hR [] (.inl rfl) rfl rfl (Le.refl _) (by exact trivial) rfl rfl rfl rfl
          · replace h := ite_f hc5 h
            refine WC.skip ?_
            refine WQ.blockNormal ?_
            refine WQ.thenNormal ?_
            refine WC.region ?_
            refine WL.run tbOk 3 (acc := []) rfl trivial ?_
            refine WL.nil ?_
            cases h
            exact WQ.next [] (IntKind.i64.wrap (t7 + (1 : Int))) ⟨(by exact ⟨rfl, rfl, trivial⟩), (by exact ⟨rfl, trivial⟩), rfl, rfl, rfl, rfl⟩ (hn2 _ hf2)
        · replace h := ite_f hc4 h
          refine WC.exit ?_
          refine WQ.thenExit ?_
          cases h
          have he := he2 _ hf2
          subst he
          replace h := hk2
          try dsimp only at h
          refine WQ.thenExit ?_
          refine WQ.blockExit ?_
          exact WQ.cut [] () ⟨(by exact ⟨rfl, trivial⟩), (by exact ⟨rfl, trivial⟩), rfl, rfl, rfl, rfl⟩ h
      · intro _ h
        replace h : refBook_j2 a0 = some _ := h
        unfold refBook_j2 at h
        show WC _ _ _ ⟨[(1, .p 1 0)], [(1, .blk 31 [.v (.sl 5 (a0.Entries.map eApiCodeEntry)), .v (.sl 3 (a0.Notes.map eApiCodeNote))])]⟩ _ _
        refine WC.seq ?_
        refine WC.seq ?_
        refine WC.region ?_
        refine WL.run tbOk 1 (acc := []) rfl trivial ?_
        refine WL.nil ?_
        refine WQ.thenNormal ?_
        refine WC.thenCut (X := Unit) (fun gG => ⟨[], []⟩) (fun gG => refBook_j3  = some r) ?_ ?_
        · refine WC.block ?_
          obtain ⟨eQ1, hl1, hk1⟩ := bnd h
          clear h
          refine WC.loop (σ := Int) (τ := ((Int) ⊕ (Unit))) (fun sS => ⟨[(9, .v (.int .i64 sS)), (1, .p 1 0)], [(1, .blk 31 [.v (.sl 5 (a0.Entries.map eApiCodeEntry)), .v (.sl 3 (a0.Notes.map eApiCodeNote))])]⟩) (refBook_b1 a0) [] (0 : Int) hl1 ⟨(by exact ⟨rfl, rfl, trivial⟩), (by exact ⟨rfl, trivial⟩), rfl, rfl, rfl, rfl⟩ ?_
          intro t9 m hn1 he1 hx1
          obtain ⟨o1, hf1⟩ := some_of hx1
          have h := hf1
          unfold refBook_b1 at h
          show WC _ _ _ ⟨[(9, .v (.int .i64 t9)), (1, .p 1 0)], [(1, .blk 31 [.v (.sl 5 (a0.Entries.map eApiCodeEntry)), .v (.sl 3 (a0.Notes.map eApiCodeNote))])]⟩ _ _
          refine WC.seq ?_
          refine WC.seq ?_
          refine WC.region ?_
          refine WL.run tbOk 3 (acc := []) rfl trivial ?_
          refine WL.q [] rfl rfl rfl (q_ev tbOk (.v (.int .i64 (a0.Notes.length : Int))) rfl (by exact trivial) (by first | (simp only [List.length_map]; done) | (simp only [List.length_map]; rfl) | rfl)) ?_
          refine WL.run tbOk 1 (acc := []) rfl trivial ?_
          refine WL.nil ?_
          refine WQ.thenNormal ?_
          refine WC.cond rfl (fun hc2 => ?_) (fun hc2 => ?_)
          · replace h := ite_t hc2 h
            refine WC.skip ?_
            refine WQ.thenNormal ?_
            refine WC.seq ?_
            refine WC.block ?_
            refine WC.seq ?_
            refine WC.region ?_
            refine WL.run tbOk 3 (acc := []) rfl trivial ?_
            obtain ⟨g1, h⟩ := grd h
            obtain ⟨x2, hxx2, h⟩ := bnd h
            refine WL.q [] rfl rfl rfl (q_idx tbOk rfl (by exact trivial) g1 (map_get (f := eApiCodeNote) hxx2)) ?_
            refine WL.run tbOk 1 (acc := []) rfl trivial ?_
            obtain ⟨v2, hvv2, h⟩ := bnd h
            refine WL.call0 fn49 rfl rfl rfl rfl (by exact trivial) rfl (refNote_con hw hvv2) ?_
            refine WL.run tbOk 1 (acc := []) rfl trivial ?_
            refine WL.nil ?_
            refine WQ.thenNormal ?_
            refine WC.cond rfl (fun hc3 => ?_) (fun hc3 => ?_)
            · replace h := ite_t hc3 h
              refine WC.seq ?_
              refine WC.region ?_
              refine WL.run tbOk 1 (acc := []) rfl trivial ?_
              refine WL.nil ?_
              refine WQ.thenNormal ?_
              refine WC.ret ?_
              refine WQ.blockRet ?_
              refine WQ.thenRet ?_
              cases h
              have he := he1 _ hf1
              subst he
              have h : some (1 : Int) = some _ := hk1
              refine WQ.thenRet ?_
              refine WQ.blockRet ?_
              refine WQ.thenRet ?_
              cases h
              exact WQ.rets tbOk hR [] (.inl rfl) rfl rfl (Le.refl _) (by exact trivial) rfl rfl rfl rfl
            · replace h := ite_f hc3 h
              refine WC.skip ?_
              refine WQ.blockNormal ?_
              refine WQ.thenNormal ?_
              refine WC.region ?_
              refine WL.run tbOk 3 (acc := []) rfl trivial ?_
              refine WL.nil ?_
              cases h
              exact WQ.next [] (IntKind.i64.wrap (t9 + (1 : Int))) ⟨(by exact ⟨rfl, rfl, trivial⟩), (by exact ⟨rfl, trivial⟩), rfl, rfl, rfl, rfl⟩ (hn1 _ hf1)
          · replace h := ite_f hc2 h
            refine WC.exit ?_
            refine WQ.thenExit ?_
            cases h
            have he := he1 _ hf1
            subst he
            replace h := hk1
            try dsimp only at h
            refine WQ.thenExit ?_
            refine WQ.blockExit ?_
            exact WQ.cut [] () ⟨(by exact trivial), (by exact trivial), rfl, rfl, rfl, rfl⟩ h
        · intro _ h
          replace h : refBook_j3 = some _ := h
          unfold refBook_j3 at h
          show WC _ _ _ ⟨[], []⟩ _ _
          refine WC.seq ?_
          refine WC.region ?_
          refine WL.run tbOk 1 (acc := []) rfl trivial ?_
          refine WL.nil ?_
          refine WQ.thenNormal ?_
          refine WC.ret ?_
          cases h
          exact WQ.rets tbOk hR [] (.inl rfl) rfl rfl (Le.refl _) (by exact trivial) rfl rfl rfl rfl

end Go.Proofs.YtlacgaihahemmaaGreatDoor
