/- Plain laws of chapter 9: how a nomenclature is made. No program in sight. -/
import Derived.Test.YtfkefolbabniaaaGreatDoorNb
set_option linter.unusedVariables false
set_option linter.unusedSimpArgs false
namespace Go.C
open Go.V

theorem terms_ok {s : CustomsmadeSource} (hs : SOk s) : ∃ ts s', srcTerms s = some (ts, s') ∧ ts ≠ [] ∧ ts.length ≤ 2 ∧ (∀ t, t ∈ ts → Asc t ∧ t ≠ [] ∧ t.length ≤ 3) ∧ SOk s' := by
  unfold srcTerms
  obtain ⟨w1, s1, e1, a1, a2, a3, k1⟩ := words_ok hs 2 (by omega) (by omega)
  rw [show (2 : Int) = ((2 : Nat) : Int) from rfl, e1, Option.bind_some]
  obtain ⟨r, s2, e2, b1, b2, k2⟩ := next_ok (n := 3) k1 (by omega) (by omega)
  dsimp only
  rw [e2, Option.bind_some]
  dsimp only
  split
  · obtain ⟨w3, s3, e3, c1, c2, c3, k3⟩ := words_ok k2 3 (by omega) (by omega)
    rw [show (3 : Int) = ((3 : Nat) : Int) from rfl, e3, Option.bind_some, if_pos (by simp)]
    refine ⟨_, _, rfl, by simp, by simp, fun t ht => ?_, k3⟩
    simp at ht
    rcases ht with rfl | rfl
    · exact ⟨a1, a2, by omega⟩
    · exact ⟨c1, c2, c3⟩
  · refine ⟨_, _, rfl, by simp, by simp, fun t ht => ?_, k2⟩
    simp at ht
    subst ht
    exact ⟨a1, a2, by omega⟩

/-- An entry that was made. -/
structure EOk (code : Str) (e : Ent) : Prop where
  code : e.Code = code
  one : oneE e = 0
  days : 0 ≤ e.From ∧ e.From < e.To ∧ e.To ≤ 36525
  terms : e.Terms.length ≤ 2 ∧ ∀ t, t ∈ e.Terms → Asc t ∧ t ≠ [] ∧ t.length ≤ 3

/-- The versions of a code, for the days from 0 to T. -/
def Vers (code : Str) (T : Int) (vs : List Ent) : Prop :=
  (∃ x, vs = [x] ∧ EOk code x ∧ x.From = 0 ∧ x.To = T) ∨ (∃ y x, vs = [y, x] ∧ EOk code y ∧ EOk code x ∧ y.From = 0 ∧ y.To = 10 ∧ x.From = 10 ∧ x.To = T)
def child (code : Str) (i : Nat) : Str := code ++ [48, UInt8.ofNat (49 + i)]
def Made : Nat → Str → Int → List Ent → Prop
  | 0, _, _, _ => False
  | n + 1, code, stop, out => ∃ T vs ks, Vers code T vs ∧ T ≤ stop ∧ out = vs ++ List.flatten ks ∧ ks.length ≤ 3 ∧ (code.length = 8 → ks = []) ∧ ∀ i k, ks[i]? = some k → Made n (child code i) T k

def Cd (code : Str) : Prop := code.all isD = true ∧ (code.length = 2 ∨ code.length = 4 ∨ code.length = 6 ∨ code.length = 8)
theorem Cd.lvl {code : Str} (h : Cd code) : lvl code = (code.length : Int) := by unfold C.lvl; exact if_pos h
theorem Cd.child {code : Str} (h : Cd code) (h8 : code.length ≠ 8) {i : Nat} (hi : i < 3) : Cd (child code i) := by
  obtain ⟨h1, h2⟩ := h
  have : i = 0 ∨ i = 1 ∨ i = 2 := by omega
  unfold C.child
  refine ⟨?_, by simp; omega⟩
  rw [List.all_append, h1]
  rcases this with rfl | rfl | rfl <;> decide

theorem one_zero {code : Str} (h : Cd code) {f t : Int} {ts : List (List Str)} {o : Bool} (hd : 0 ≤ f ∧ f < t ∧ t ≤ 36525) (hts : ts.length ≤ 2 ∧ ∀ t, t ∈ ts → Asc t ∧ t ≠ [] ∧ t.length ≤ 3)
    (h2 : code.length = 2 → ts = [] ∧ o = false) (h4 : code.length = 4 → ts ≠ [] ∧ o = false) (h6 : 4 < code.length → (ts = [] ↔ o = true)) : EOk code ⟨code, f, t, ts, o⟩ := by
  refine ⟨rfl, ?_, hd, hts⟩
  have hall : ts.all some1 = true := by
    rw [List.all_eq_true]
    intro x hx
    obtain ⟨a1, a2, a3⟩ := hts.2 x hx
    exact a1.some1 a2 (by omega)
  have hl := h.2
  unfold oneE tailE
  simp only
  rw [h.lvl, if_neg (by omega), if_neg (by omega), if_neg (by omega), hall, if_neg (by simp)]
  by_cases c2 : code.length = 2
  · obtain ⟨rfl, rfl⟩ := h2 c2
    rw [c2]; simp
  · have e2 : ¬ ((code.length : Int) = 2) := by omega
    rw [if_neg e2]
    by_cases c4 : code.length = 4
    · obtain ⟨h5, rfl⟩ := h4 c4
      rw [if_pos (by omega : (code.length : Int) = 4)]
      simp [h5]
    · rw [if_neg (by omega : ¬ ((code.length : Int) = 4))]
      have := h6 (by omega)
      cases o with
      | true => have := this.2 rfl; subst this; rfl
      | false =>
        have : ts ≠ [] := fun e => by have := this.1 e; cases this
        simp [this]

theorem byte_child {i : Nat} (h : i < 3) : bytesI [(IntKind.u8.wrap (IntKind.i64.wrap ((48 : Int) + ((i + 1 : Nat) : Int))))] = [UInt8.ofNat (49 + i)] := by
  have : i = 0 ∨ i = 1 ∨ i = 2 := by omega
  rcases this with rfl | rfl | rfl <;> decide

/-- What F, handed to the making of an entry, does for the codes below. -/
def FOk (n : Nat) (code : Str) (F : CustomsmadeSource → Str → Int → Option (List Ent × CustomsmadeSource)) : Prop :=
  code.length ≠ 8 → ∀ (s : CustomsmadeSource) (i : Nat) (T : Int), i < 3 → SOk s → 0 < T → T ≤ 36525 → ∃ out s', F s (child code i) T = some (out, s') ∧ SOk s' ∧ Made n (child code i) T out ∧ out.length ≤ 1000

theorem tail_ok {n : Nat} {code : Str} (hc : Cd code) {F : CustomsmadeSource → Str → Int → Option (List Ent × CustomsmadeSource)} (hF : FOk n code F) {ts : List (List Str)} {o : Bool} {pre : List Ent} {L : List Int} {I : Int} (hs : SOk ⟨L, I⟩) {f T stop : Int}
    (hv : Vers code T (pre ++ [⟨code, f, T, ts, o⟩])) (hT : T ≤ stop) (h0 : 0 < T) (h1 : T ≤ 36525) : ∃ out s', srcEntry_j3 F code ts o pre L I f T = some (out, s') ∧ SOk s' ∧ Made (n + 1) code stop out := by
  have hpl : pre.length ≤ 1 := by
    rcases hv with ⟨x, hx, _⟩ | ⟨y, x, hx, _⟩ <;> (have := congrArg List.length hx; simp only [List.length_append, List.length_cons, List.length_nil] at this; omega)
  unfold srcEntry_j3
  rw [if_pos (by simp; omega)]
  by_cases h8 : code.length = 8
  · rw [if_pos (by simp [h8])]
    exact ⟨_, _, rfl, hs, T, _, [], hv, hT, by simp, by simp, fun _ => rfl, fun i k hk => by simp at hk⟩
  · rw [if_neg (by simp; omega)]
    obtain ⟨r, s2, e2, b1, b2, k2⟩ := next_ok (n := 4) hs (by omega) (by omega)
    rw [e2, Option.bind_some]
    obtain ⟨m, rfl⟩ : ∃ m : Nat, r = (m : Int) := ⟨r.toNat, by omega⟩
    obtain ⟨⟨out, L2, I2⟩, er, ks, hk1, hk2, hk3, hk4⟩ := loop_inv (f := srcEntry_b1 F code ts o f T ((m : Int), s2)) (fun q x => ∃ (k : Nat) (ks : List (List Ent)), q = m - k ∧ k ≤ m ∧ x.1 = ((k + 1 : Nat) : Int) ∧ x.2.1 = pre ++ [⟨code, f, T, ts, o⟩] ++ ks.flatten ∧ ks.length = k ∧ x.2.1.length ≤ 10 + k * 1000 ∧ (∀ i k, ks[i]? = some k → Made n (child code i) T k) ∧ SOk ⟨x.2.2.1, x.2.2.2⟩)
      (fun r => ∃ ks : List (List Ent), r.1 = pre ++ [⟨code, f, T, ts, o⟩] ++ ks.flatten ∧ ks.length ≤ 3 ∧ (∀ i k, ks[i]? = some k → Made n (child code i) T k) ∧ SOk ⟨r.2.1, r.2.2⟩) (by
      rintro q ⟨i, out, cL, cI⟩ ⟨k, ks, rfl, hk, hi, ho, hkl, hol, hm, hso⟩
      simp only at hi ho hol hso
      subst hi
      unfold srcEntry_b1
      dsimp only
      by_cases hlt : k < m
      · refine .inl ?_
        obtain ⟨o1, s3, e3, k3, hm3, hl3⟩ := hF h8 ⟨cL, cI⟩ k T (by omega) hso h0 h1
        have hcl := hc.2
        rw [if_pos (by simp only [decide_eq_true_eq]; omega), if_pos (by simp; omega), byte_child (by omega), if_pos (by simp; omega)]
        have ech : (code ++ [48]) ++ [UInt8.ofNat (49 + k)] = child code k := by simp [child]
        rw [ech, e3, Option.bind_some, if_pos (by simp only; omega), w64 (n := ((k + 1 : Nat) : Int) + 1) (by omega)]
        refine ⟨_, m - (k + 1), by omega, rfl, k + 1, ks ++ [o1], rfl, by omega, rfl, ?_, by simp [hkl], ?_, fun i k' hk' => ?_, k3⟩
        · simp only; rw [ho]; simp
        · simp only [List.length_append]; omega
        · rcases Nat.lt_trichotomy i ks.length with hl | hl | hl
          · rw [List.getElem?_append_left hl] at hk'; exact hm i k' hk'
          · rw [hl, List.getElem?_append_right (Nat.le_refl _)] at hk'
            simp at hk'; subst hk'; rw [hl, hkl]; exact hm3
          · rw [List.getElem?_append_right (by omega)] at hk'
            have : (([o1] : List (List Ent)))[i - ks.length]? = none := by rw [List.getElem?_eq_none]; simp; omega
            rw [this] at hk'; cases hk'
      · refine .inr ?_
        have : k = m := by omega
        subst this
        rw [if_neg (by simp only [decide_eq_true_eq]; omega)]
        exact ⟨_, rfl, ks, ho, by omega, hm, hso⟩) m ((1 : Int), pre ++ [⟨code, f, T, ts, o⟩], s2.L, s2.I) ⟨0, [], rfl, by omega, rfl, by simp, rfl, by simp; omega, fun i k hk => by simp at hk, k2⟩
    rw [er, Option.bind_some]
    simp only at hk1 hk4
    exact ⟨_, _, rfl, hk4, T, _, ks, hv, hT, hk1, hk2, fun h => absurd h h8, hk3⟩

theorem mid_ok {n : Nat} {code : Str} (hc : Cd code) {F : CustomsmadeSource → Str → Int → Option (List Ent × CustomsmadeSource)} (hF : FOk n code F) {ts : List (List Str)} {o : Bool} {L : List Int} {I : Int} (hs : SOk ⟨L, I⟩) {stop : Int} (h0 : 0 < stop) (h1 : stop ≤ 36525)
    (hts : ts.length ≤ 2 ∧ ∀ t, t ∈ ts → Asc t ∧ t ≠ [] ∧ t.length ≤ 3) (h2 : code.length = 2 → ts = [] ∧ o = false) (h4 : code.length = 4 → ts ≠ [] ∧ o = false) (h6 : 4 < code.length → (ts = [] ↔ o = true)) : ∃ out s', srcEntry_j5 F code stop L I ts o = some (out, s') ∧ SOk s' ∧ Made (n + 1) code stop out := by
  have one : ∀ f t : Int, 0 ≤ f ∧ f < t ∧ t ≤ 36525 → EOk code ⟨code, f, t, ts, o⟩ := fun f t hd => one_zero hc hd hts h2 h4 h6
  have hj : ∀ (pre : List Ent) (L : List Int) (I f T : Int), srcEntry_j6 F code ts o pre L I f T = srcEntry_j3 F code ts o pre L I f T := fun _ _ _ _ _ => rfl
  unfold srcEntry_j5
  split
  · rename_i hcond
    have hcnd : 2 < code.length ∧ 12 < stop := by
      by_cases c1 : (2 : Int) < (code.length : Int)
      · simp [c1] at hcond; omega
      · simp [c1] at hcond
    obtain ⟨r, s2, e2, b1, b2, k2⟩ := next_ok (n := 6) hs (by omega) (by omega)
    rw [e2, Option.bind_some]
    dsimp only
    split
    · obtain ⟨t2, s3, e3, d1, d2, d3, k3⟩ := terms_ok k2
      rw [e3, Option.bind_some, if_pos (by simp), hj]
      refine tail_ok hc hF k3 (.inr ⟨_, _, rfl, one_zero hc (by omega) ⟨d2, d3⟩ (fun h => by omega) (fun _ => ⟨d1, rfl⟩) (fun _ => ⟨fun h => absurd h d1, fun h => by cases h⟩), one 10 stop (by omega), rfl, rfl, rfl, rfl⟩) (by omega) h0 h1
    · split
      · rw [hj]
        exact tail_ok hc hF k2 (.inl ⟨_, rfl, one 0 12 (by omega), rfl, rfl⟩) (by omega) (by omega) (by omega)
      · rw [hj]
        exact tail_ok hc hF k2 (.inl ⟨_, rfl, one 0 stop (by omega), rfl, rfl⟩) (by omega) h0 h1
  · rw [hj]
    exact tail_ok hc hF hs (.inl ⟨_, rfl, one 0 stop (by omega), rfl, rfl⟩) (by omega) h0 h1

theorem entry_F {n : Nat} {code : Str} (hc : Cd code) {F : CustomsmadeSource → Str → Int → Option (List Ent × CustomsmadeSource)} (hF : FOk n code F) {s : CustomsmadeSource} (hs : SOk s) {stop : Int} (h0 : 0 < stop) (h1 : stop ≤ 36525) :
    ∃ out s', srcEntry_F F s code stop = some (out, s') ∧ SOk s' ∧ Made (n + 1) code stop out := by
  have hj : ∀ (v : Int × CustomsmadeSource) (ts : List (List Str)) (o : Bool), srcEntry_j2 F code stop v ts o = srcEntry_j5 F code stop v.2.L v.2.I ts o := fun _ _ _ => rfl
  have hl := hc.2
  have key : ∀ (L : List Int) (I : Int) (ts : List (List Str)), SOk ⟨L, I⟩ → (ts.length ≤ 2 ∧ ∀ t, t ∈ ts → Asc t ∧ t ≠ [] ∧ t.length ≤ 3) → (code.length = 2 → ts = []) → (2 < code.length → ts ≠ []) → ∃ out s', srcEntry_j1 F code stop L I ts = some (out, s') ∧ SOk s' ∧ Made (n + 1) code stop out := fun L I ts hso hts hn hne => by
    unfold srcEntry_j1
    by_cases h4 : 4 < code.length
    · obtain ⟨r, s2, e2, b1, b2, k2⟩ := next_ok (n := 3) hso (by omega) (by omega)
      rw [if_pos (by simp only [decide_eq_true_eq]; omega), e2, Option.bind_some]
      have c4 : (4 : Int) < (code.length : Int) := by omega
      simp only [c4, decide_true, cond_true]
      split
      · rw [hj]
        exact mid_ok hc hF k2 h0 h1 ⟨by simp, fun t ht => by cases ht⟩ (fun h => by omega) (fun h => by omega) (fun _ => by simp)
      · rw [hj]
        exact mid_ok hc hF k2 h0 h1 hts (fun h => by omega) (fun h => by omega) (fun _ => ⟨fun h => absurd h (hne (by omega)), fun h => by cases h⟩)
    · rw [if_neg (by simp only [decide_eq_true_eq]; omega), if_neg (by simp)]
      exact mid_ok hc hF hso h0 h1 hts (fun h => ⟨hn h, rfl⟩) (fun h => ⟨hne (by omega), rfl⟩) (fun h => by omega)
  unfold srcEntry_F
  split
  · rename_i h2
    simp only [decide_eq_true_eq] at h2
    obtain ⟨ts, s1, e1, a1, a2, a3, k1⟩ := terms_ok hs
    rw [e1, Option.bind_some]
    exact key _ _ _ k1 ⟨a2, a3⟩ (fun h => by omega) (fun _ => a1)
  · rename_i h2
    simp only [decide_eq_true_eq] at h2
    exact key _ _ _ hs ⟨by simp, fun t ht => by cases ht⟩ (fun _ => rfl) (fun h => by omega)

theorem Vers.len {code : Str} {T : Int} {vs : List Ent} (h : Vers code T vs) : vs.length ≤ 2 := by
  rcases h with ⟨x, rfl, _⟩ | ⟨y, x, rfl, _⟩ <;> simp
theorem flat_len {ks : List (List Ent)} {m : Nat} (h : ∀ k, k ∈ ks → k.length ≤ m) : ks.flatten.length ≤ ks.length * m := by
  induction ks with
  | nil => simp
  | cons k ks ih =>
    have h1 := h k (by simp)
    have h2 := ih (fun k hk => h k (by simp [hk]))
    simp only [List.flatten_cons, List.length_append, List.length_cons, Nat.succ_mul]; omega
def maxL : Nat → Nat
  | 0 => 0
  | n + 1 => 2 + 3 * maxL n
theorem Made.len : ∀ {n : Nat} {code : Str} {T : Int} {out : List Ent}, Made n code T out → out.length ≤ maxL n
  | 0, _, _, _, h => h.elim
  | n + 1, code, stop, out, h => by
    obtain ⟨T, vs, ks, hv, hT, rfl, hk, hk8, hm⟩ := h
    have h1 := hv.len
    have h2 := flat_len (ks := ks) (m := maxL n) (fun k hk => by
      obtain ⟨i, hi, rfl⟩ := List.getElem_of_mem hk
      exact (hm i _ (List.getElem?_eq_getElem hi)).len)
    have h3 : ks.length * maxL n ≤ 3 * maxL n := Nat.mul_le_mul hk (Nat.le_refl _)
    simp only [List.length_append, maxL]; omega

theorem Made.len2 : ∀ {n : Nat} {code : Str} {T : Int} {out : List Ent}, Made n code T out → (code.length = 2 ∨ code.length = 4 ∨ code.length = 6 ∨ code.length = 8) → out.length ≤ maxL ((10 - code.length) / 2)
  | 0, _, _, _, h, _ => h.elim
  | n + 1, code, stop, out, h, hl => by
    obtain ⟨T, vs, ks, hv, hT, rfl, hk, hk8, hm⟩ := h
    have h1 := hv.len
    by_cases h8 : code.length = 8
    · rw [hk8 h8, h8]; simp [maxL]; exact h1
    · have h2 := flat_len (ks := ks) (m := maxL ((10 - code.length) / 2 - 1)) (fun k hk => by
        obtain ⟨i, hi, rfl⟩ := List.getElem_of_mem hk
        have := (hm i _ (List.getElem?_eq_getElem hi)).len2 (by simp [child]; omega)
        rwa [show (10 - (child code i).length) / 2 = (10 - code.length) / 2 - 1 by simp [child]; omega] at this)
      have h3 : ks.length * maxL ((10 - code.length) / 2 - 1) ≤ 3 * maxL ((10 - code.length) / 2 - 1) := Nat.mul_le_mul hk (Nat.le_refl _)
      obtain ⟨m, hmm⟩ : ∃ m, (10 - code.length) / 2 = m + 1 := ⟨(10 - code.length) / 2 - 1, by omega⟩
      rw [hmm] at h2 h3 ⊢
      simp only [Nat.add_sub_cancel] at h2 h3
      simp only [List.length_append, maxL]; omega
/-- How deep the codes below a code go. -/
theorem entry_n : ∀ (n : Nat) {code : Str}, Cd code → n + 1 ≤ 5 → (8 - code.length) / 2 ≤ n → ∀ {s : CustomsmadeSource}, SOk s → ∀ {stop : Int}, 0 < stop → stop ≤ 36525 → ∃ out s', srcEntry_n (n + 1) s code stop = some (out, s') ∧ SOk s' ∧ Made (n + 1) code stop out
  | 0, code, hc, hn, hd, s, hs, stop, h0, h1 => by
    have hl := hc.2
    have h8 : code.length = 8 := by omega
    exact entry_F hc (F := srcEntry_n 0) (fun h => absurd h8 h) hs h0 h1
  | n + 1, code, hc, hn, hd, s, hs, stop, h0, h1 => by
    refine entry_F hc (F := srcEntry_n (n + 1)) (fun h8 s i T hi hso hT0 hT1 => ?_) hs h0 h1
    have hl := hc.2
    have hch := hc.child h8 hi
    have hcl : (child code i).length = code.length + 2 := by simp [child]
    obtain ⟨out, s', e, k, hm⟩ := entry_n n hch (by omega) (by rw [hcl]; omega) hso hT0 hT1
    refine ⟨out, s', e, k, hm, ?_⟩
    have h1 := hm.len
    have h2 : maxL (n + 1) ≤ 1000 := by
      have : n = 0 ∨ n = 1 ∨ n = 2 ∨ n = 3 := by omega
      rcases this with rfl | rfl | rfl | rfl <;> decide
    omega
theorem entry_ok {code : Str} (hc : Cd code) (h2 : code.length = 2) {s : CustomsmadeSource} (hs : SOk s) : ∃ out s', srcEntry s code 36525 = some (out, s') ∧ SOk s' ∧ Made 5 code 36525 out := entry_n 4 hc (by omega) (by omega) hs (by omega) (by omega)
theorem entryR_eq (s : CustomsmadeSource) (code : Str) (T : Int) : srcEntryR s code T = srcEntry_F srcEntry s code T := rfl

end Go.C
