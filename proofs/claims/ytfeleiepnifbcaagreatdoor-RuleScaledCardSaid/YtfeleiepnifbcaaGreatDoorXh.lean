/- Plain laws of chapter 12: rules and cases that are made. No program in sight. -/
import Derived.Test.YtfeleiepnifbcaaGreatDoorXg
set_option linter.unusedVariables false
set_option linter.unusedSimpArgs false
set_option maxHeartbeats 1000000
namespace Go.C
open Go.V

/-! ### A rule without parts -/
theorem exc_a : validCodes [] = some true := by
  unfold validCodes
  rw [if_neg (by decide)]
  rw [loop_of 1 (show iter (validCodes_b1 []) 1 0 = some (.inr ()) by kernel_rfl)]; rfl
theorem exc_b {l : List Str} (hl : l = exc2 ∨ l = exc2.drop 1) : validCodes l = some true := by
  have n1 : nomLevel [57, 52, 48, 49] = some 4 := by rw [nomLevel_eq]; rfl
  have n2 : nomLevel [57, 53, 48, 50] = some 4 := by rw [nomLevel_eq]; rfl
  rcases hl with rfl | rfl
  · unfold validCodes
    rw [if_neg (by decide)]
    have : loopO (validCodes_b1 exc2) (0 : Int) = some (.inr ()) := by
      rw [loop_step (x := (1 : Int)), loop_step (x := (2 : Int)), loop_stop (r := .inr ())]
      · unfold validCodes_b1; rw [if_neg (by decide)]
      · unfold validCodes_b1
        rw [if_pos (by decide), if_pos (by decide)]
        show (some ([57, 53, 48, 50] : Str)).bind _ = _
        rw [Option.bind_some, n2, Option.bind_some, if_pos (by decide)]; rfl
      · unfold validCodes_b1
        rw [if_pos (by decide), if_pos (by decide)]
        show (some ([57, 52, 48, 49] : Str)).bind _ = _
        rw [Option.bind_some, n1, Option.bind_some, if_pos (by decide)]; rfl
    rw [this]; rfl
  · unfold validCodes
    rw [if_neg (by decide)]
    have : loopO (validCodes_b1 (exc2.drop 1)) (0 : Int) = some (.inr ()) := by
      rw [loop_step (x := (1 : Int)), loop_stop (r := .inr ())]
      · unfold validCodes_b1; rw [if_neg (by decide)]
      · unfold validCodes_b1
        rw [if_pos (by decide), if_pos (by decide)]
        show (some ([57, 53, 48, 50] : Str)).bind _ = _
        rw [Option.bind_some, n2, Option.bind_some, if_pos (by decide)]; rfl
    rw [this]; rfl
section
variable (F : CustomsmadeSource → Int → Int → Option (ApiRule × CustomsmadeSource))
theorem j4_ok {v2 : Int × CustomsmadeSource} (h2 : 0 ≤ v2.1 ∧ v2.1 < 3) {e : List Str} (he : e.length ≤ 6 ∧ validCodes e = some true) {t : Int} (ht : 0 ≤ t ∧ t ≤ 1000000) (L : List Int) (I : Int) :
    ∃ r, srcRule_j4 F v2 e L I t = some (r, ⟨L, I⟩) ∧ LF r := by
  refine ⟨_, rfl, ?_⟩
  rw [w64 (n := 2 * v2.1) (by omega), w64 (by omega)]
  exact .chg _ e t (by omega) he ht
theorem j3_ok {v2 : Int × CustomsmadeSource} (h2 : 0 ≤ v2.1 ∧ v2.1 < 3) {e : List Str} (he : e.length ≤ 6 ∧ validCodes e = some true) {s : CustomsmadeSource} (hs : SOk s) :
    ∃ r s', srcRule_j3 F v2 s.L s.I e = some (r, s') ∧ LF r ∧ SOk s' := by
  obtain ⟨a, s1, e1, a0, a1, k1⟩ := next_ok (n := 3) hs (by omega) (by omega)
  replace e1 : srcNext ⟨s.L, s.I⟩ 3 = some (a, s1) := e1
  unfold srcRule_j3
  rw [e1, Option.bind_some]
  dsimp only
  by_cases h : (a == 1) = true
  · rw [if_pos h]
    obtain ⟨b, s2, e2, b0, b1, k2⟩ := rate_ok k1
    rw [e2, Option.bind_some]
    obtain ⟨r, e3, h3⟩ := j4_ok F h2 he (t := b) ⟨b0, b1⟩ s2.L s2.I
    exact ⟨r, _, e3, h3, k2⟩
  · rw [if_neg h]
    obtain ⟨r, e3, h3⟩ := j4_ok F h2 he (t := 0) (by omega) s1.L s1.I
    exact ⟨r, _, e3, h3, k1⟩
theorem j2_ok {s : CustomsmadeSource} (hs : SOk s) : ∃ r s', srcRule_j2 F s.L s.I = some (r, s') ∧ LF r ∧ SOk s' := by
  obtain ⟨a, s1, e1, a0, a1, k1⟩ := next_ok (n := 3) hs (by omega) (by omega)
  replace e1 : srcNext ⟨s.L, s.I⟩ 3 = some (a, s1) := e1
  obtain ⟨b, s2, e2, b0, b1, k2⟩ := next_ok (n := 3) k1 (by omega) (by omega)
  unfold srcRule_j2
  rw [e1, Option.bind_some]
  dsimp only
  rw [e2, Option.bind_some]
  dsimp only
  by_cases h : (b == 1) = true
  · rw [if_pos h]
    obtain ⟨d, s3, e3, d0, d1, k3⟩ := next_ok (n := 2) k2 (by omega) (by omega)
    rw [e3, Option.bind_some]
    dsimp only
    rw [if_pos ⟨d0, by show d ≤ 2; omega⟩]
    have hd : d = 0 ∨ d = 1 := by omega
    rcases hd with rfl | rfl
    · exact j3_ok F (v2 := (a, s1)) ⟨a0, a1⟩ (e := exc2) ⟨by decide, exc_b (.inl rfl)⟩ k3
    · exact j3_ok F (v2 := (a, s1)) ⟨a0, a1⟩ (e := exc2.drop 1) ⟨by decide, exc_b (.inr rfl)⟩ k3
  · rw [if_neg h]
    exact j3_ok F (v2 := (a, s1)) ⟨a0, a1⟩ ⟨by decide, exc_a⟩ k2
theorem words_at {n : Int} (h0 : 0 ≤ n) (h1 : n < 5) : ∃ w, words5[n.toNat]? = some w ∧ w ∈ words5 := by
  have h : n.toNat < words5.length := by show n.toNat < 5; omega
  exact ⟨_, List.getElem?_eq_getElem h, List.getElem_mem h⟩
theorem j1_ok {v : Int × CustomsmadeSource} (h0 : 0 ≤ v.1) (hs : SOk v.2) : ∃ r s', srcRule_j1 F v = some (r, s') ∧ LF r ∧ SOk s' := by
  unfold srcRule_j1
  by_cases h1 : ((v.1.tmod 4) == 1) = true
  · rw [if_pos h1]
    obtain ⟨b, s2, e2, b0, b1, k2⟩ := rate_ok hs
    rw [e2, Option.bind_some]
    exact ⟨_, _, rfl, .fore b ⟨b0, b1⟩, k2⟩
  rw [if_neg h1]
  by_cases h2 : ((v.1.tmod 4) == 2) = true
  · rw [if_pos h2]
    obtain ⟨b, s2, e2, b0, b1, k2⟩ := next_ok (n := 5) hs (by omega) (by omega)
    rw [e2, Option.bind_some]
    dsimp only
    rw [if_pos b0]
    obtain ⟨w, hw, hm⟩ := words_at b0 b1
    refine ⟨_, s2, ?_, .proc w hm, k2⟩
    show (words5[b.toNat]?).bind _ = _
    rw [hw]; rfl
  rw [if_neg h2]
  by_cases h3 : ((v.1.tmod 4) == 3) = true
  · rw [if_pos h3]
    obtain ⟨b, s2, e2, b0, b1, k2⟩ := next_ok (n := 3) hs (by omega) (by omega)
    rw [e2, Option.bind_some]
    dsimp only
    by_cases h4 : (b == 1) = true
    · rw [if_pos h4]; exact ⟨_, _, rfl, .obt, k2⟩
    · rw [if_neg h4]; exact j2_ok F k2
  rw [if_neg h3]
  exact j2_ok F hs

/-! ### A rule of parts -/
theorem j5_ok {n : Nat} {deep K : Int} (hF : ∀ s, SOk s → ∃ r s', F s K (IntKind.i64.wrap (deep - 1)) = some (r, s') ∧ MR n K r ∧ SOk s') (hK : K = 5 ∨ K = 6) {but : Int} (hb : K ≠ but) {v : Int × CustomsmadeSource} (hs : SOk v.2) :
    ∃ r s', srcRule_j5 F deep v K = some (r, s') ∧ MR (n + 1) but r ∧ SOk s' := by
  unfold srcRule_j5
  obtain ⟨a, s1, e1, a0, a1, k1⟩ := next_ok (n := 2) hs (by omega) (by omega)
  rw [e1, Option.bind_some]
  dsimp only
  rw [w64 (by omega)]
  obtain ⟨⟨L, I, args⟩, e2, h2, h3, h4, h5⟩ := loop_inv (f := srcRule_b1 F deep v K)
    (fun m (x : Int × List Int × Int × List ApiRule) => x.1 = (m : Int) ∧ (m + x.2.2.2.length = 2 ∨ m + x.2.2.2.length = 3) ∧ SOk ⟨x.2.1, x.2.2.1⟩ ∧ ∀ a, a ∈ x.2.2.2 → MR n K a)
    (fun x => 2 ≤ x.2.2.length ∧ x.2.2.length ≤ 3 ∧ SOk ⟨x.1, x.2.1⟩ ∧ ∀ a, a ∈ x.2.2 → MR n K a)
    (fun m x hx => by
      obtain ⟨c, L, I, l⟩ := x
      obtain ⟨g1, g2, g3, g4⟩ := hx
      dsimp only at g1 g2 g3 g4 ⊢
      subst g1
      unfold srcRule_b1
      dsimp only
      cases m with
      | zero =>
        right
        rw [if_neg (by simp)]
        exact ⟨_, rfl, by dsimp only; omega, by dsimp only; omega, g3, g4⟩
      | succ m =>
        left
        obtain ⟨r, s', e, hr, hs'⟩ := hF _ g3
        refine ⟨((m : Int), s'.L, s'.I, l ++ [r]), m, by omega, ?_, rfl, ?_, hs', ?_⟩
        · rw [if_pos (decide_eq_true (by omega)), e, Option.bind_some, if_pos (by simp; omega), w64 (by omega)]
          congr 3; omega
        · simp only [List.length_append, List.length_cons, List.length_nil]; omega
        · intro a ha
          rcases List.mem_append.1 ha with h | h
          · exact g4 a h
          · rw [List.mem_singleton.1 h]; exact hr)
    (2 + a).toNat (2 + a, s1.L, s1.I, []) ⟨by dsimp only; omega, by simp only [List.length_nil]; omega, k1, fun a ha => by cases ha⟩
  rw [e2, Option.bind_some]
  dsimp only at h2 h3 h4 h5 ⊢
  exact ⟨_, _, rfl, .inr ⟨K, args, hK, hb, rfl, h2, h3, h5⟩, h4⟩
end
theorem srcRule_ok : ∀ (n : Nat) (but : Int) (k : Nat) (s : CustomsmadeSource), n ≤ 2 → (but = 0 ∨ but = 5 ∨ but = 6) → SOk s → n + 1 ≤ k → ∃ r s', srcRule_n k s but (n : Int) = some (r, s') ∧ MR (n + 1) but r ∧ SOk s'
  | _, _, 0, _, _, _, _, hk => by omega
  | n, but, k + 1, s, hn, hb, hs, hk => by
    obtain ⟨a, s1, e1, a0, a1, k1⟩ := next_ok (n := 8) hs (by omega) (by omega)
    show ∃ r s', srcRule_F (srcRule_n k) s but (n : Int) = some (r, s') ∧ _
    unfold srcRule_F
    rw [e1, Option.bind_some]
    dsimp only
    by_cases h : (bif (decide ((5 : Int) ≤ a)) then (decide ((0 : Int) < (n : Int))) else false) = true
    · rw [if_pos h]
      cases n with
      | zero => cases hq : decide ((5 : Int) ≤ a) <;> rw [hq] at h <;> simp at h
      | succ n =>
        have hm : a.tmod 2 = 0 ∨ a.tmod 2 = 1 := by rw [Int.tmod_eq_emod_of_nonneg a0]; omega
        have hF : ∀ K : Int, (K = 5 ∨ K = 6) → ∀ s, SOk s → ∃ r s', srcRule_n k s K (IntKind.i64.wrap (((n + 1 : Nat) : Int) - 1)) = some (r, s') ∧ MR (n + 1) K r ∧ SOk s' := fun K hK s hs => by
          have e : IntKind.i64.wrap (((n + 1 : Nat) : Int) - 1) = (n : Int) := by rw [w64 (by omega)]; omega
          rw [e]
          exact srcRule_ok n K k s (by omega) (by omega) hs (by omega)
        rw [w64 (n := 5 + a.tmod 2) (by omega)]
        by_cases h2 : ((5 + a.tmod 2) == but) = true
        · have h2' := beq_iff_eq.1 h2
          rw [if_pos h2, w64 (by omega)]
          exact j5_ok _ (hF (11 - but) (by omega)) (by omega) (by omega) k1
        · have h2' : 5 + a.tmod 2 ≠ but := fun e => h2 (beq_iff_eq.2 e)
          rw [if_neg h2]
          exact j5_ok _ (hF (5 + a.tmod 2) (by omega)) (by omega) h2' k1
    · rw [if_neg h]
      obtain ⟨r, s', e, hr, hs'⟩ := j1_ok (srcRule_n k) (v := (a, s1)) a0 k1
      exact ⟨r, s', e, .inl hr, hs'⟩
theorem madeRule_ok (l : List Int) : ∃ r, madeRule l = some r ∧ MR 3 0 r := by
  unfold madeRule srcRule
  obtain ⟨v, e1, h1⟩ := cut_ok l 100 (by omega)
  replace e1 : madeCut l 100 = some v := e1
  rw [e1, Option.bind_some]
  obtain ⟨r, s', e, hr, _⟩ := srcRule_ok 2 0 5 ⟨v, 0⟩ (by omega) (by omega) ⟨by simp, by simp, by simp only; omega⟩ (by omega)
  replace e : srcRule_n 5 ⟨v, 0⟩ 0 2 = some (r, s') := e
  rw [e]
  exact ⟨r, rfl, hr⟩

/-! ### A case -/
def procs (n : Nat) : List Str := ((List.range 5).filter fun i => n / 2 ^ i % 2 == 1).map fun i => words5.getD i []
theorem procs_run : ∀ v : Fin 32, iter (srcProcesses_b1 ((v.val : Int), ⟨[], 0⟩)) 6 ((0 : Int), []) = some (procs v.val) := by decide +kernel
theorem procs_ok : ∀ v : Fin 32, wordsOk (procs v.val) = true := by decide +kernel
theorem processes_ok {s : CustomsmadeSource} (hs : SOk s) : ∃ r s', srcProcesses s = some (r, s') ∧ wordsOk r = true ∧ SOk s' := by
  unfold srcProcesses
  obtain ⟨a, s1, e1, a0, a1, k1⟩ := next_ok (n := 32) hs (by omega) (by omega)
  rw [e1, Option.bind_some]
  obtain ⟨n, rfl⟩ := Int.eq_ofNat_of_zero_le a0
  have hn : n < 32 := by omega
  have eb : srcProcesses_b1 (((n : Nat) : Int), s1) = srcProcesses_b1 (((n : Nat) : Int), ⟨[], 0⟩) := by
    funext x; obtain ⟨i, o⟩ := x; rfl
  have := procs_run ⟨n, hn⟩
  rw [eb, loop_of 6 this, Option.bind_some]
  exact ⟨_, _, rfl, procs_ok ⟨n, hn⟩, k1⟩
theorem code_made {s : CustomsmadeSource} (hs : SOk s) {v : Int} (h0 : 0 ≤ v) (h1 : v < 2) : ∃ r s', srcCode s (IntKind.i64.wrap ((6 : Int) + (IntKind.i64.wrap ((2 : Int) * v)))) = some (r, s') ∧ 6 ≤ lvl r ∧ SOk s' := by
  rw [w64 (n := 2 * v) (by omega), w64 (by omega)]
  have hv : (6 + 2 * v) = ((6 + 2 * v.toNat : Nat) : Int) := by omega
  rw [hv]
  obtain ⟨r, s', e, h2, h3, h4⟩ := srcCode_ok hs (6 + 2 * v.toNat) (by omega)
  refine ⟨r, s', e, ?_, h4⟩
  unfold lvl
  rw [if_pos ⟨h3, by omega⟩]; omega
def okIn (x : ApiInput) : Prop := 6 ≤ lvl x.Code ∧ 0 ≤ x.Value ∧ x.Value ≤ 1000000000000
theorem okIn_set {l : List ApiInput} {i : Nat} {y : ApiInput} (hl : ∀ x, x ∈ l → okIn x) (hy : okIn y) : ∀ x, x ∈ l.set i y → okIn x := fun x hx => by
  rcases List.mem_or_eq_of_mem_set hx with h | rfl
  · exact hl x h
  · exact hy
theorem madeCase_ok (l : List Int) : ∃ c, madeCase l = some c ∧ COk c := by
  unfold madeCase
  obtain ⟨v, e0, h0⟩ := cut_ok l 100 (by omega)
  replace e0 : madeCut l 100 = some v := e0
  rw [e0, Option.bind_some]
  obtain ⟨a1, s1, e1, p1, q1, k1⟩ := next_ok (s := ⟨v, 0⟩) (n := 2) ⟨by simp, by simp, by simp only; omega⟩ (by omega) (by omega)
  rw [e1, Option.bind_some]
  obtain ⟨cd, s2, e2, p2, k2⟩ := code_made k1 p1 q1
  dsimp only
  rw [e2, Option.bind_some]
  obtain ⟨pr, s3, e3, p3, q3, k3⟩ := next_ok (n := 1000) k2 (by omega) (by omega)
  dsimp only
  rw [e3, Option.bind_some]
  obtain ⟨ob, s4, e4, p4, q4, k4⟩ := next_ok (n := 3) k3 (by omega) (by omega)
  dsimp only
  rw [e4, Option.bind_some]
  obtain ⟨ws, s5, e5, p5, k5⟩ := processes_ok k4
  dsimp only
  rw [e5, Option.bind_some]
  obtain ⟨n, s6, e6, p6, q6, k6⟩ := next_ok (n := 6) k5 (by omega) (by omega)
  dsimp only
  rw [e6, Option.bind_some]
  dsimp only
  obtain ⟨⟨L, I, ins⟩, e7, g1, g2, g3⟩ := loop_inv (f := madeCase_b2 (cd, s2) (pr, s3) (ob, s4) (ws, s5))
    (fun m (x : Int × List Int × Int × List ApiInput) => x.1 = (m : Int) ∧ m + x.2.2.2.length ≤ 5 ∧ SOk ⟨x.2.1, x.2.2.1⟩ ∧ ∀ a, a ∈ x.2.2.2 → okIn a)
    (fun x => x.2.2.length ≤ 5 ∧ SOk ⟨x.1, x.2.1⟩ ∧ ∀ a, a ∈ x.2.2 → okIn a)
    (fun m x hx => by
      obtain ⟨c, L, I, l⟩ := x
      obtain ⟨g1, g2, g3, g4⟩ := hx
      dsimp only at g1 g2 g3 g4 ⊢
      subst g1
      unfold madeCase_b2
      dsimp only
      cases m with
      | zero =>
        right
        rw [if_neg (by simp)]
        exact ⟨_, rfl, by dsimp only; omega, g3, g4⟩
      | succ m =>
        left
        obtain ⟨b1, t1, f1, u1, w1, y1⟩ := next_ok (n := 2) g3 (by omega) (by omega)
        obtain ⟨b2, t2, f2, u2, y2⟩ := code_made y1 u1 w1
        obtain ⟨b3, t3, f3, u3, w3, y3⟩ := next_ok (n := 500) y2 (by omega) (by omega)
        obtain ⟨b4, t4, f4, u4, w4, y4⟩ := next_ok (n := 3) y3 (by omega) (by omega)
        refine ⟨((m : Int), t4.L, t4.I, l ++ [⟨b2, b3, b4 == 1⟩]), m, by omega, ?_, rfl, ?_, y4, ?_⟩
        · rw [if_pos (decide_eq_true (by omega)), f1, Option.bind_some]
          dsimp only
          rw [f2, Option.bind_some]
          dsimp only
          rw [f3, Option.bind_some]
          dsimp only
          rw [f4, Option.bind_some, if_pos (by simp; omega), w64 (by omega)]
          congr 3; omega
        · simp only [List.length_append, List.length_cons, List.length_nil]; omega
        · intro a ha
          rcases List.mem_append.1 ha with h | h
          · exact g4 a h
          · rw [List.mem_singleton.1 h]; exact ⟨u2, u3, by dsimp only; omega⟩)
    n.toNat (n, s6.L, s6.I, []) ⟨by dsimp only; omega, by simp only [List.length_nil]; omega, k6, fun a ha => by cases ha⟩
  rw [e7, Option.bind_some]
  dsimp only at g1 g2 g3 ⊢
  unfold madeCase_j1
  obtain ⟨b8, s8, e8, p8, q8, k8⟩ := next_ok (n := 8) g2 (by omega) (by omega)
  rw [e8, Option.bind_some]
  dsimp only
  have fin : ∀ (p : Int) (l : List ApiInput), 1 ≤ p → p ≤ 1000000000000 → l.length ≤ 5 → (∀ a, a ∈ l → okIn a) → ∃ c, madeCase_j2 (cd, s2) (ob, s4) (ws, s5) p l = some c ∧ COk c := fun p l h1 h2 h3 h4 =>
    ⟨_, rfl, p2, ⟨h1, h2⟩, p5, by dsimp only; omega, h4⟩
  by_cases h : (b8 == 1) = true
  · rw [if_pos h]
    obtain ⟨b9, s9, e9, p9, q9, k9⟩ := next_ok (n := 1000000000000) k8 (by omega) (by omega)
    rw [e9, Option.bind_some]
    dsimp only
    obtain ⟨ins2, e10, x1, x2⟩ := loop_inv (f := madeCase_b1 (cd, s2) (ob, s4) (ws, s5) (b9, s9))
      (fun m (x : Int × List Int × Int × List ApiInput) => 0 ≤ x.1 ∧ x.1 + m = x.2.2.2.length ∧ x.2.2.2.length ≤ 5 ∧ SOk ⟨x.2.1, x.2.2.1⟩ ∧ ∀ a, a ∈ x.2.2.2 → okIn a)
      (fun x => x.length ≤ 5 ∧ ∀ a, a ∈ x → okIn a)
      (fun m x hx => by
        obtain ⟨i, L, I, l⟩ := x
        obtain ⟨g0, g1, g2, g3, g4⟩ := hx
        dsimp only at g0 g1 g2 g3 g4 ⊢
        unfold madeCase_b1
        dsimp only
        cases m with
        | zero =>
          right
          rw [if_neg (by simp; omega)]
          exact ⟨_, rfl, g2, g4⟩
        | succ m =>
          left
          obtain ⟨b1, t1, f1, u1, w1, y1⟩ := next_ok (n := 1000000000001) g3 (by omega) (by omega)
          have hi : i.toNat < l.length := by omega
          have hold := g4 _ (List.getElem_mem hi)
          refine ⟨(i + 1, t1.L, t1.I, l.set i.toNat ⟨(l.getD i.toNat default).Code, b1, (l.getD i.toNat default).Originating⟩), m, by omega, ?_, by dsimp only; omega, ?_, ?_, y1, ?_⟩
          · rw [if_pos (decide_eq_true (by omega)), f1, Option.bind_some, if_pos ⟨g0, by omega⟩, w64 (by omega)]
          · dsimp only; rw [List.length_set]; omega
          · dsimp only; rw [List.length_set]; omega
          · refine okIn_set g4 ?_
            rw [getD_get hi]
            exact ⟨hold.1, u1, by dsimp only; omega⟩)
      ins.length ((0 : Int), s9.L, s9.I, ins) ⟨by simp, by simp, g1, k9, g3⟩
    rw [e10, Option.bind_some, w64 (by omega)]
    exact fin _ _ (by omega) (by omega) x1 x2
  · rw [if_neg h, w64 (by omega)]
    exact fin _ _ (by omega) (by omega) g1 g3
theorem wordsOk_in {l : List Str} (h : wordsOk l = true) : ∀ x, x ∈ l → x.length ≤ 12 := fun x hx => by
  unfold wordsOk at h
  rw [Bool.and_eq_true, List.all_eq_true] at h
  obtain ⟨i, hi, rfl⟩ := List.mem_iff_getElem.1 hx
  have := h.2 i (List.mem_range.2 hi)
  unfold wp at this
  rw [Bool.and_eq_true, getD_get hi] at this
  have := this.1
  unfold isW at this
  rw [Bool.and_eq_true, Bool.and_eq_true] at this
  exact of_decide_eq_true this.2.1
theorem COk.ok {c : ApiCase} (h : COk c) : okApiCase c := by
  have h1 := lvl_of h.code
  have h2 := h.price
  have h3 := wordsOk_len h.words
  have h4 := h.few
  refine ⟨by omega, ⟨by omega, by omega⟩, ⟨by omega, fun x hx => by have := wordsOk_in h.words x hx; omega⟩, by omega, fun x hx => ?_⟩
  obtain ⟨q1, q2, q3⟩ := h.ins x hx
  have := lvl_of q1
  exact ⟨by omega, by omega, by omega⟩
end Go.C
