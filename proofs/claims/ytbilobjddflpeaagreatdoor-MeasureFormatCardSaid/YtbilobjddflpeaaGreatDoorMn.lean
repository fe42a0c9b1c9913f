/- Plain laws of chapter 19: the lines of measures, written and read. No program in sight. -/
import Derived.Test.YtbilobjddflpeaaGreatDoorMy
import Derived.Test.YtbilobjddflpeaaGreatDoorDy
import Derived.Test.YtbilobjddflpeaaGreatDoorPj
set_option linter.unusedVariables false
set_option linter.unusedSimpArgs false
namespace Go.C
open Go.V
open Go.Lib (decDigits)

def orgT (m : Mea) : Str := if m.Origins = [] then [42] else Lib.join m.Origins [44]
def regT (m : Mea) : Str := if m.Registered = -1 then [45] else decDigits m.Registered.toNat
/-- The first words of a measure's line. -/
def flds (m : Mea) : List Str := [decDigits m.ID.toNat, decDigits m.Kind.toNat, m.Prefix, orgT m, decDigits m.Company.toNat, decDigits m.From.toNat, decDigits m.To.toNat, regT m]
def lineS (m : Mea) : Str := Lib.join (flds m ++ [fmt m.Duty]) [32]

theorem lvl_digs {s : Str} (h : lvl s ≠ 0) : s.all isD = true := by
  unfold lvl at h
  split at h
  · rename_i hc; exact hc.1
  · exact absurd rfl h
theorem digs_no {s : Str} (h : s.all isD = true) {c : UInt8} (hc : c.toNat < 48 ∨ 57 < c.toNat) : c ∉ s := fun hm => by
  have := (isD_iff c).1 (List.all_eq_true.1 h c hm)
  omega
theorem org_ctry {l : List Str} (h : orgs l = true) {x : Str} (hx : x ∈ l) : ctry x = true := by
  obtain ⟨i, hi, rfl⟩ := List.getElem_of_mem hx
  unfold orgs at h
  have := List.all_eq_true.1 h i (List.mem_range.2 hi)
  unfold opl at this
  rw [Bool.and_eq_true] at this
  have h1 := this.1
  rwa [List.getD_eq_getElem?_getD, List.getElem?_eq_getElem hi, Option.getD_some] at h1
theorem ctry_bytes {x : Str} (h : ctry x = true) : x.length = 2 ∧ ∀ c, c ∈ x → 65 ≤ c.toNat ∧ c.toNat ≤ 90 := by
  unfold ctry at h
  simp only [Bool.and_eq_true, decide_eq_true_eq] at h
  obtain ⟨h1, h2, h3⟩ := h
  refine ⟨h1, fun c hc => ?_⟩
  match x, h1, hc, h2, h3 with
  | [a, b], _, hc, h2, h3 =>
    unfold capB at h2 h3
    simp at h2 h3
    simp at hc
    rcases hc with rfl | rfl
    · exact h2
    · exact h3
theorem org_no {m : Mea} (h : MVal m) {x : Str} (hx : x ∈ m.Origins) {c : UInt8} (hc : c.toNat < 65 ∨ 90 < c.toNat) : c ∉ x := fun hm => by
  have := (ctry_bytes (org_ctry h.orgs hx)).2 c hm
  omega
theorem join_no {l : List Str} {c s : UInt8} (hs : c ≠ s) (h : ∀ x, x ∈ l → c ∉ x) : c ∉ Lib.join l [s] := by
  match l with
  | [] => rw [Lib.join_nil]; simp
  | [x] => rw [Lib.join_one]; exact h x (by simp)
  | x :: y :: r =>
    rw [join_cons2]
    simp only [List.mem_append, List.mem_singleton, not_or]
    exact ⟨⟨h x (by simp), hs⟩, join_no hs (fun z hz => h z (List.mem_cons_of_mem _ hz))⟩
theorem dec_no (u : Nat) {c : UInt8} (hc : c.toNat < 48 ∨ 57 < c.toNat) : c ∉ decDigits u := (isDig_dec u).1.not_mem hc
theorem flds_no {m : Mea} (h : MVal m) : ∀ x, x ∈ flds m → (32 : UInt8) ∉ x := by
  intro x hx
  unfold flds at hx
  simp only [List.mem_cons, List.not_mem_nil, or_false] at hx
  have h32 : (32 : UInt8).toNat < 48 ∨ 57 < (32 : UInt8).toNat := .inl (by decide)
  rcases hx with rfl | rfl | rfl | rfl | rfl | rfl | rfl | rfl
  · exact dec_no _ h32
  · exact dec_no _ h32
  · exact digs_no (lvl_digs h.lvl) h32
  · unfold orgT
    split
    · decide
    · exact join_no (by decide) (fun y hy => org_no h hy (.inl (by decide)))
  · exact dec_no _ h32
  · exact dec_no _ h32
  · exact dec_no _ h32
  · unfold regT
    split
    · decide
    · exact dec_no _ h32

theorem lens_org {m : Mea} (h : MVal m) : Lib.lens m.Origins ≤ 40 := by
  have h1 := lens_le (l := m.Origins) (k := 2) (fun x hx => by have := (ctry_bytes (org_ctry h.orgs hx)).1; omega)
  have := h.origins
  omega
theorem orgT_len {m : Mea} (h : MVal m) : (orgT m).length ≤ 60 := by
  unfold orgT
  split
  · simp
  · have h1 := join_len m.Origins [44]
    have h2 := lens_org h
    have h3 := h.origins
    simp only [List.length_cons, List.length_nil] at h1
    omega
theorem regT_len {m : Mea} (h : MVal m) : (regT m).length ≤ 19 := by
  have := h.reg; have := h.days
  unfold regT
  split
  · simp
  · exact dec_len19 (by omega)
theorem flds_len {m : Mea} (h : MVal m) : Lib.lens (flds m) ≤ 200 := by
  have h1 := orgT_len h; have h2 := regT_len h; have h3 := lvl_len h.lvl
  have a1 := h.id; have a2 := h.kind; have a3 := h.company; have a4 := h.days
  have d1 := dec_len19 (u := m.ID.toNat) (by omega)
  have d2 := dec_len19 (u := m.Kind.toNat) (by omega)
  have d3 := dec_len19 (u := m.Company.toNat) (by omega)
  have d4 := dec_len19 (u := m.From.toNat) (by omega)
  have d5 := dec_len19 (u := m.To.toNat) (by omega)
  unfold flds
  simp only [Lib.lens, List.map_cons, List.map_nil, List.sum_cons, List.sum_nil]
  omega
theorem line_len {m : Mea} (h : MVal m) : (lineS m).length ≤ 420 := by
  have h1 := flds_len h
  have h2 := fmt_len h.duty
  have h3 := join_len (flds m ++ [fmt m.Duty]) [32]
  have h4 : Lib.lens (flds m ++ [fmt m.Duty]) = Lib.lens (flds m) + (fmt m.Duty).length := by simp [Lib.lens]
  have h5 : (flds m ++ [fmt m.Duty]).length = 9 := rfl
  rw [h4, h5] at h3
  simp only [List.length_cons, List.length_nil] at h3
  unfold lineS
  omega

/-! ### Written -/
theorem join_orgs {m : Mea} (h : MVal m) : joinS m.Origins [44] = some (Lib.join m.Origins [44]) := by
  have h1 := join_len m.Origins [44]
  have h2 := lens_org h
  have h3 := h.origins
  simp only [List.length_cons, List.length_nil] at h1
  unfold joinS
  rw [if_pos (by omega)]
theorem formatMeasure_eq {m : Mea} (h : MVal m) : formatMeasure m = some (lineS m) := by
  have a1 := h.id; have a2 := h.kind; have a3 := h.company; have a4 := h.days; have a5 := h.reg
  have hl := line_len h
  have fin : formatMeasure_j2 m (orgT m) (regT m) = some (lineS m) := by
    unfold formatMeasure_j2
    rw [itoa_ok (by omega) (by omega), Option.bind_some, itoa_ok (by omega) (by omega), Option.bind_some, itoa_ok (by omega) (by omega), Option.bind_some, itoa_ok (by omega) (by omega), Option.bind_some, itoa_ok (by omega) (by omega), Option.bind_some, dutyFormat_ok h.duty, Option.bind_some]
    show (joinS (flds m ++ [fmt m.Duty]) [32]).bind (fun v7 => some v7) = _
    unfold joinS
    rw [if_pos ⟨by show (9 : Nat) ≤ _; omega, by show (lineS m).length ≤ _; omega⟩]
    rfl
  unfold formatMeasure formatMeasure_j1
  have hr : ∀ o, (if (m.Registered != (-1 : Int)) = true then (itoa m.Registered).bind fun v8 => formatMeasure_j2 m o v8 else formatMeasure_j2 m o [45]) = formatMeasure_j2 m o (regT m) := fun o => by
    unfold regT
    by_cases hc : m.Registered = -1
    · rw [if_neg (by rw [eqI hc]; simp), if_pos hc]
    · rw [if_pos (neI hc), if_neg hc, itoa_ok (by omega) (by omega), Option.bind_some]
  by_cases ho : m.Origins = []
  · rw [if_neg (by rw [ho]; simp), hr]
    have : orgT m = [42] := if_pos ho
    rw [← this]; exact fin
  · have hpos : 0 < m.Origins.length := List.length_pos_iff.2 ho
    rw [if_pos (decide_eq_true (by omega)), join_orgs h, Option.bind_some, hr]
    have : orgT m = Lib.join m.Origins [44] := if_neg ho
    rw [← this]; exact fin

/-! ### Cut into at most nine -/
theorem splitK_at {c : UInt8} {w r : Str} (h : c ∉ w) (k : Nat) : Lib.splitK [c] 0 (k + 1) (w ++ c :: r) = w :: Lib.splitK [c] 0 k r := by
  simp only [Lib.splitK, index_at h]
  rw [if_neg (by simp)]
  simp
theorem splitK_len {c : UInt8} : ∀ (k : Nat) (s : Str), ∀ x, x ∈ Lib.splitK [c] 0 k s → x.length ≤ s.length
  | 0, s, x, hx => by simp [Lib.splitK] at hx; subst hx; exact Nat.le_refl _
  | k + 1, s, x, hx => by
    unfold Lib.splitK at hx
    split at hx
    · simp at hx; subst hx; exact Nat.le_refl _
    · rcases List.mem_cons.1 hx with rfl | hx
      · simp only [List.length_take]; exact Nat.min_le_right _ _
      · have := splitK_len k _ x hx
        simp only [List.length_drop] at this; omega
theorem splitN_fields : ∀ (fs : List Str) (r : Str), (∀ x, x ∈ fs → (32 : UInt8) ∉ x) → Lib.splitK [32] 0 fs.length (Lib.join (fs ++ [r]) [32]) = fs ++ [r]
  | [], r, _ => by rw [List.nil_append, Lib.join_one]; rfl
  | f :: fs, r, h => by
    have ih := splitN_fields fs r (fun x hx => h x (List.mem_cons_of_mem _ hx))
    have e : Lib.join ((f :: fs) ++ [r]) [32] = f ++ 32 :: Lib.join (fs ++ [r]) [32] := by
      cases fs with
      | nil => rw [List.cons_append, List.nil_append, join_cons2]; simp
      | cons g fs => rw [List.cons_append, List.cons_append, join_cons2]; simp
    rw [e, List.length_cons, splitK_at (h f List.mem_cons_self), ih]; rfl
theorem join_ge : ∀ (l : List Str), l.length ≤ (Lib.join l [32]).length + 1
  | [] => by simp
  | [x] => by simp
  | x :: y :: r => by
    have := join_ge (y :: r)
    rw [join_cons2]
    simp only [List.length_append, List.length_cons, List.length_nil] at this ⊢
    omega
theorem splitN_line {m : Mea} (h : MVal m) : splitNS (lineS m) [32] 9 = some (flds m ++ [fmt m.Duty]) := by
  have hl := line_len h
  have hg := join_ge (flds m ++ [fmt m.Duty])
  have h9 : (flds m ++ [fmt m.Duty]).length = 9 := rfl
  unfold splitNS
  rw [if_pos ⟨by omega, by simp, by omega, by omega⟩]
  unfold Lib.splitN
  have hmin : min (9 : Int).toNat ((lineS m).length + 1) - 1 = (flds m).length := by
    show min 9 ((lineS m).length + 1) - 1 = 8
    have : 9 ≤ (lineS m).length + 1 := by rw [h9] at hg; exact hg
    omega
  rw [hmin]
  unfold lineS
  rw [splitN_fields _ _ (flds_no h)]

/-! ### Read -/
theorem parse_tail {m : Mea} {v : List Str} (h : MVal m) (h9 : v[8]? = some (fmt m.Duty)) {a b c e g rg : Int} {h1 h2 : Bool} (hr : rg = m.Registered) : parseMeasure_j2 (lineS m) v true m.ID m.Kind m.Prefix m.Origins m.Company m.From m.To rg a b c h1 e h2 g = some (m, true) := by
  subst hr; exact tail_ok h9 (parse_fmt h.duty) h (formatMeasure_eq h)
theorem fl0 (m : Mea) : (flds m ++ [fmt m.Duty])[0]? = some (decDigits m.ID.toNat) := rfl
theorem fl1 (m : Mea) : (flds m ++ [fmt m.Duty])[1]? = some (decDigits m.Kind.toNat) := rfl
theorem fl2 (m : Mea) : (flds m ++ [fmt m.Duty])[2]? = some (m.Prefix) := rfl
theorem fl3 (m : Mea) : (flds m ++ [fmt m.Duty])[3]? = some (orgT m) := rfl
theorem fl4 (m : Mea) : (flds m ++ [fmt m.Duty])[4]? = some (decDigits m.Company.toNat) := rfl
theorem fl5 (m : Mea) : (flds m ++ [fmt m.Duty])[5]? = some (decDigits m.From.toNat) := rfl
theorem fl6 (m : Mea) : (flds m ++ [fmt m.Duty])[6]? = some (decDigits m.To.toNat) := rfl
theorem fl7 (m : Mea) : (flds m ++ [fmt m.Duty])[7]? = some (regT m) := rfl
theorem fl8 (m : Mea) : (flds m ++ [fmt m.Duty])[8]? = some (fmt m.Duty) := rfl
theorem orgT_star {m : Mea} (h : MVal m) (hne : m.Origins ≠ []) : orgT m ≠ [42] := by
  have : orgT m = Lib.join m.Origins [44] := if_neg hne
  rw [this]
  intro he
  cases hm : m.Origins with
  | nil => exact hne hm
  | cons x r =>
    have hx := ctry_bytes (org_ctry h.orgs (x := x) (by rw [hm]; simp))
    rw [hm] at he
    have hlen := congrArg List.length he
    rw [Lib.join_cons, List.length_append] at hlen
    simp only [List.length_cons, List.length_nil] at hlen
    omega
theorem regT_dash {m : Mea} (h : MVal m) (hne : m.Registered ≠ -1) : regT m ≠ [45] := by
  have : regT m = decDigits m.Registered.toNat := if_neg hne
  rw [this]
  intro he
  have := (isDig_dec m.Registered.toNat).1 45 (by rw [he]; simp)
  exact absurd this.1 (by decide)
theorem nine (m : Mea) : ((flds m ++ [fmt m.Duty]).length : Int) = 9 := rfl
theorem parse_line_j1 {m : Mea} (h : MVal m) {o : List Str} (ho : o = m.Origins) : parseMeasure_j1 (lineS m) (flds m ++ [fmt m.Duty]) m.Prefix o = some (m, true) := by
  subst ho
  have a1 := h.id; have a2 := h.kind; have a3 := h.company; have a4 := h.days; have a5 := h.reg
  have n1 : atoiS (decDigits m.ID.toNat) = some (m.ID, true) := atoi_dec (by omega) (by omega)
  have n2 : atoiS (decDigits m.Kind.toNat) = some (m.Kind, true) := atoi_dec (by omega) (by omega)
  have n3 : atoiS (decDigits m.Company.toNat) = some (m.Company, true) := atoi_dec (by omega) (by omega)
  have n4 : atoiS (decDigits m.From.toNat) = some (m.From, true) := atoi_dec (by omega) (by omega)
  have n5 : atoiS (decDigits m.To.toNat) = some (m.To, true) := atoi_dec (by omega) (by omega)
  unfold parseMeasure_j1 parseNumID parseNumKind parseNumCompany parseNumFrom parseNumTo parseNumRegistered
  rw [fl0, Option.bind_some, n1]; simp only [Option.bind_some]
  rw [fl1, Option.bind_some, n2]; simp only [Option.bind_some]
  rw [fl4, Option.bind_some, n3]; simp only [Option.bind_some]
  rw [fl5, Option.bind_some, n4]; simp only [Option.bind_some]
  rw [fl6, Option.bind_some, n5]; simp only [Option.bind_some]
  rw [fl7, Option.bind_some]
  by_cases hr : m.Registered = -1
  · have e : regT m = [45] := if_pos hr
    rw [if_neg (by rw [e]; simp)]
    exact parse_tail h (fl8 m) hr.symm
  · have n6 : atoiS (regT m) = some (m.Registered, true) := by
      have e : regT m = decDigits m.Registered.toNat := if_neg hr
      rw [e]; exact atoi_dec (by omega) (by omega)
    have hne : (regT m == ([45] : Str)) = false := by rw [beq_eq_false_iff_ne]; exact regT_dash h hr
    rw [hne, if_pos (by rfl), Option.bind_some, n6]; simp only [Option.bind_some]
    exact parse_tail h (fl8 m) rfl
theorem parse_line {m : Mea} (h : MVal m) : parseMeasure (lineS m) = some (m, true) := by
  have hl := line_len h
  unfold parseMeasure
  rw [splitN_line h, Option.bind_some, if_neg (by rw [nine]; decide), fl2, Option.bind_some, fl3, Option.bind_some]
  by_cases ho : m.Origins = []
  · have e : orgT m = [42] := if_pos ho
    rw [if_neg (by rw [e]; simp)]
    exact parse_line_j1 h ho.symm
  · have hne : (orgT m == ([42] : Str)) = false := by rw [beq_eq_false_iff_ne]; exact orgT_star h ho
    have e : orgT m = Lib.join m.Origins [44] := if_neg ho
    have hol := orgT_len h
    rw [hne, if_pos (by rfl), Option.bind_some, splitS_eq (by omega), e, spl_join ho (fun x hx => org_no h hx (.inl (by decide))), Option.bind_some]
    exact parse_line_j1 h rfl
theorem parseMeasure_any {line : Str} (h : line.length ≤ 1000000) : (∃ m, MVal m ∧ lineS m = line ∧ parseMeasure line = some (m, true)) ∨ ((∀ m, MVal m → lineS m ≠ line) ∧ ∃ m, parseMeasure line = some (m, false)) := by
  by_cases hd : ∃ m, MVal m ∧ lineS m = line
  · obtain ⟨m, h1, rfl⟩ := hd
    exact .inl ⟨m, h1, rfl, parse_line h1⟩
  · right
    refine ⟨fun m h1 h2 => hd ⟨m, h1, h2⟩, ?_⟩
    have hj2 : ∀ (v : List Str) (ok : Bool) (m : Mea) (a b c e g : Int) (h1 h2 : Bool), v.length = 9 → (∀ x, x ∈ v → x.length ≤ 1000000) → m.Origins.length ≤ 9223372036854775807 → ∃ m', parseMeasure_j2 line v ok m.ID m.Kind m.Prefix m.Origins m.Company m.From m.To m.Registered a b c h1 e h2 g = some (m', false) := by
      intro v ok m a b c e g h1 h2 hv hw ho
      unfold parseMeasure_j2
      have h8 : 8 < v.length := by omega
      have hw8 := hw _ (List.getElem_mem h8)
      rw [List.getElem?_eq_getElem h8, Option.bind_some]
      obtain ⟨d, ee, hde⟩ : ∃ d ee, dutyParse v[8] = some (d, ee) ∧ (ee = 0 → DOk d) := by
        rcases dutyParse_any hw8 with ⟨d, q1, _, q3⟩ | ⟨_, q3⟩
        · exact ⟨d, 0, q3, fun _ => q1⟩
        · exact ⟨zeroD, 4, q3, fun h => by cases h⟩
      rw [hde.1, Option.bind_some]
      dsimp only
      cases ok with
      | false => exact ⟨_, rfl⟩
      | true =>
        by_cases he : ee = 0
        · subst he
          simp only [Bool.not_true, cond_false, bne_self_eq_false, Bool.not_false, if_true]
          rw [meValidate_eq (fun x hx => by simp at hx; subst hx; exact ho), Option.bind_some]
          by_cases hm : ms [(⟨m.ID, m.Kind, m.Prefix, m.Origins, m.Company, m.From, m.To, m.Registered, d⟩ : ApiMeasure)] = 0
          · have hval := (ms_zero.1 hm).2.val (List.mem_singleton.2 rfl)
            rw [hm]
            simp only [bne_self_eq_false, Bool.not_false, if_true]
            rw [formatMeasure_eq hval, Option.bind_some]
            have : (lineS (⟨m.ID, m.Kind, m.Prefix, m.Origins, m.Company, m.From, m.To, m.Registered, d⟩ : ApiMeasure) == line) = false := by
              rw [beq_eq_false_iff_ne]; exact fun h2 => hd ⟨_, hval, h2⟩
            rw [this]; exact ⟨_, rfl⟩
          · rw [neI hm]; exact ⟨_, rfl⟩
        · rw [neI he]; exact ⟨_, rfl⟩
    unfold parseMeasure splitNS
    rw [if_pos ⟨by omega, by simp, by omega, by omega⟩, Option.bind_some]
    have hb : ∀ x, x ∈ Lib.splitN line [32] (9 : Int).toNat → x.length ≤ 1000000 := fun x hx => by
      have := splitK_len _ _ x hx; omega
    generalize Lib.splitN line [32] (9 : Int).toNat = v at hb
    by_cases hv : v.length = 9
    · have e9 : ((v.length : Int) != (9 : Int)) = false := eqI (by omega)
      rw [e9, if_neg (by simp)]
      have g : ∀ i, i < 9 → ∃ x, v[i]? = some x ∧ x.length ≤ 1000000 := fun i hi => ⟨_, List.getElem?_eq_getElem (by omega), hb _ (List.getElem_mem (by omega))⟩
      obtain ⟨x2, g2, _⟩ := g 2 (by omega)
      obtain ⟨x3, g3, l3⟩ := g 3 (by omega)
      rw [g2, Option.bind_some, g3, Option.bind_some]
      have hj1 : ∀ os : List Str, os.length ≤ 9223372036854775807 → ∃ m', parseMeasure_j1 line v x2 os = some (m', false) := by
        intro os hos
        obtain ⟨y0, k0, q0⟩ := g 0 (by omega)
        obtain ⟨y1, k1, q1⟩ := g 1 (by omega)
        obtain ⟨y4, k4, q4⟩ := g 4 (by omega)
        obtain ⟨y5, k5, q5⟩ := g 5 (by omega)
        obtain ⟨y6, k6, q6⟩ := g 6 (by omega)
        obtain ⟨y7, k7, q7⟩ := g 7 (by omega)
        obtain ⟨n0, b0, e0, _⟩ := atoi_any (s := y0) (by omega)
        obtain ⟨n1, b1, e1, _⟩ := atoi_any (s := y1) (by omega)
        obtain ⟨n4, b4, e4, _⟩ := atoi_any (s := y4) (by omega)
        obtain ⟨n5, b5, e5, _⟩ := atoi_any (s := y5) (by omega)
        obtain ⟨n6, b6, e6, _⟩ := atoi_any (s := y6) (by omega)
        obtain ⟨n7, b7, e7, _⟩ := atoi_any (s := y7) (by omega)
        unfold parseMeasure_j1 parseNumID parseNumKind parseNumCompany parseNumFrom parseNumTo parseNumRegistered
        simp only [k0, k1, k4, k5, k6, k7, e0, e1, e4, e5, e6, e7, Option.bind_some]
        split
        · exact hj2 v _ (⟨n0, n1, x2, os, n4, n5, n6, n7, zeroD⟩ : ApiMeasure) _ _ _ _ _ _ _ hv hb hos
        · exact hj2 v _ (⟨n0, n1, x2, os, n4, n5, n6, -1, zeroD⟩ : ApiMeasure) _ _ _ _ _ _ _ hv hb hos
      split
      · rw [Option.bind_some, splitS_eq (by omega), Option.bind_some]
        exact hj1 _ (by have := (spl_len 44 x3).1; omega)
      · exact hj1 [] (by simp)
    · rw [if_pos (neI (by omega))]
      exact ⟨_, rfl⟩


/-! ### Written -/
theorem catK {a b : Str} {β : Type} {k : Option β} (h : a.length + b.length ≤ 100000) : (if a.length + b.length ≤ 9223372036854775807 then k else none) = k := if_pos (by omega)
theorem refLine_eq {m : Mea} (h : MVal m) : refLine m = some (lineS m) := by
  have a1 := h.id; have a2 := h.kind; have a3 := h.company; have a4 := h.days; have a5 := h.reg; have a6 := h.origins
  have o1 := orgT_len h; have o2 := regT_len h; have o3 := lvl_len h.lvl; have o4 := lens_org h; have o5 := fmt_len h.duty
  have d1 := dec_len19 (u := m.ID.toNat) (by omega)
  have d2 := dec_len19 (u := m.Kind.toNat) (by omega)
  have d3 := dec_len19 (u := m.Company.toNat) (by omega)
  have d4 := dec_len19 (u := m.From.toNat) (by omega)
  have d5 := dec_len19 (u := m.To.toNat) (by omega)
  have hj : refJoined m.Origins [44] = some (Lib.join m.Origins [44]) := refJoined_eq (by simp only [List.length_cons, List.length_nil]; omega) (by omega)
  have hjl := join_len m.Origins [44]
  simp only [List.length_cons, List.length_nil] at hjl
  have f2 : ∀ t : Str, t.length ≤ 400 → refLine_j2 m t = some ((t ++ [32]) ++ fmt m.Duty) := fun t ht => by
    unfold refLine_j2
    rw [catK (by first | omega | (simp only [List.length_append, List.length_cons, List.length_nil]; omega)), refFormatDuty_ok h.duty, Option.bind_some, catK (by first | omega | (simp only [List.length_append, List.length_cons, List.length_nil]; omega))]
  have f1 : ∀ t : Str, t.length ≤ 150 → refLine_j1 m t = some ((((((((((t ++ Lib.join m.Origins [44]) ++ [32]) ++ decDigits m.Company.toNat) ++ [32]) ++ decDigits m.From.toNat) ++ [32]) ++ decDigits m.To.toNat) ++ [32]) ++ regT m) ++ [32] ++ fmt m.Duty) := fun t ht => by
    unfold refLine_j1
    rw [hj, Option.bind_some, catK (by first | omega | (simp only [List.length_append, List.length_cons, List.length_nil]; omega)), catK (by first | omega | (simp only [List.length_append, List.length_cons, List.length_nil]; omega)), digits_ok (by omega) (by omega), Option.bind_some, catK (by first | omega | (simp only [List.length_append, List.length_cons, List.length_nil]; omega)), catK (by first | omega | (simp only [List.length_append, List.length_cons, List.length_nil]; omega)), digits_ok (by omega) (by omega), Option.bind_some, catK (by first | omega | (simp only [List.length_append, List.length_cons, List.length_nil]; omega)), catK (by first | omega | (simp only [List.length_append, List.length_cons, List.length_nil]; omega)), digits_ok (by omega) (by omega), Option.bind_some, catK (by first | omega | (simp only [List.length_append, List.length_cons, List.length_nil]; omega)), catK (by first | omega | (simp only [List.length_append, List.length_cons, List.length_nil]; omega))]
    unfold regT at o2 ⊢
    by_cases hr : m.Registered = -1
    · rw [if_pos hr] at o2 ⊢
      rw [if_pos (decide_eq_true (by omega)), catK (by first | omega | (simp only [List.length_append, List.length_cons, List.length_nil]; omega)), f2 _ (by simp only [List.length_append, List.length_cons, List.length_nil]; omega)]
    · rw [if_neg hr] at o2 ⊢
      rw [if_neg (fun hh => by have := of_decide_eq_true hh; omega), digits_ok (by omega) (by omega), Option.bind_some, catK (by first | omega | (simp only [List.length_append, List.length_cons, List.length_nil]; omega)), f2 _ (by simp only [List.length_append, List.length_cons, List.length_nil]; omega)]
  unfold refLine
  rw [digits_ok (by omega) (by omega), Option.bind_some, catK (by first | omega | (simp only [List.length_append, List.length_cons, List.length_nil]; omega)), digits_ok (by omega) (by omega), Option.bind_some, catK (by first | omega | (simp only [List.length_append, List.length_cons, List.length_nil]; omega)), catK (by first | omega | (simp only [List.length_append, List.length_cons, List.length_nil]; omega)), catK (by first | omega | (simp only [List.length_append, List.length_cons, List.length_nil]; omega)), catK (by first | omega | (simp only [List.length_append, List.length_cons, List.length_nil]; omega))]
  have hline : lineS m = ((((((((((((((decDigits m.ID.toNat ++ [32]) ++ decDigits m.Kind.toNat) ++ [32]) ++ m.Prefix) ++ [32]) ++ orgT m) ++ [32]) ++ decDigits m.Company.toNat) ++ [32]) ++ decDigits m.From.toNat) ++ [32]) ++ decDigits m.To.toNat) ++ [32]) ++ regT m) ++ [32] ++ fmt m.Duty := by
    unfold lineS flds
    simp [Lib.join_cons, Lib.joinTail]
  rw [hline]
  by_cases ho : m.Origins = []
  · have e : orgT m = [42] := if_pos ho
    rw [if_pos (by rw [ho]; rfl), catK (by first | omega | (simp only [List.length_append, List.length_cons, List.length_nil]; omega)), f1 _ (by simp only [List.length_append, List.length_cons, List.length_nil]; omega), e, ho, Lib.join_nil, List.append_nil]
  · have e : orgT m = Lib.join m.Origins [44] := if_neg ho
    have hpos : 0 < m.Origins.length := List.length_pos_iff.2 ho
    rw [if_neg (by rw [beq_iff_eq]; omega), f1 _ (by simp only [List.length_append, List.length_cons, List.length_nil]; omega), e]

/-! ### Lists -/
open Classical in
/-- The measure that is written so. -/
noncomputable def gl (line : Str) : Option Mea := if h : ∃ m, MVal m ∧ lineS m = line then some (Classical.choose h) else none
theorem line_inj {m n : Mea} (hm : MVal m) (hn : MVal n) (h : lineS m = lineS n) : m = n := by
  have h1 := parse_line hm
  rw [h, parse_line hn] at h1
  exact (congrArg Prod.fst (Option.some.inj h1)).symm
theorem gl_some {m : Mea} (hm : MVal m) : gl (lineS m) = some m := by
  have hex : ∃ n, MVal n ∧ lineS n = lineS m := ⟨m, hm, rfl⟩
  unfold gl
  rw [dif_pos hex]
  have := Classical.choose_spec hex
  rw [line_inj this.1 hm this.2]
theorem gl_none {line : Str} (h : ∀ m, MVal m → lineS m ≠ line) : gl line = none := by
  unfold gl
  rw [dif_neg (fun ⟨m, h1, h2⟩ => h m h1 h2)]
theorem gl_val {line : Str} {m : Mea} (h : gl line = some m) : MVal m := by
  unfold gl at h
  split at h
  · rename_i hex
    cases h
    exact (Classical.choose_spec hex).1
  · cases h
/-- Lines, one after the other. -/
noncomputable def scan : List Str → Nat → List Mea → (List Mea × Int × Int) ⊕ List Mea
  | [], _, l => .inr l
  | x :: r, k, l => match gl x with | none => .inl ([], (k : Int), 4) | some m => scan r (k + 1) (l ++ [m])
theorem scan_ok : ∀ (xs : List Str) (k : Nat) (l : List Mea), (∀ x, x ∈ l → MVal x) → ∀ r, scan xs k l = .inr r → (∀ x, x ∈ r → MVal x) ∧ r.length = l.length + xs.length
  | [], k, l, hl, r, h => by cases h; exact ⟨hl, by simp⟩
  | x :: xs, k, l, hl, r, h => by
    unfold scan at h
    cases hg : gl x with
    | none => rw [hg] at h; cases h
    | some m =>
      rw [hg] at h
      have := scan_ok xs (k + 1) (l ++ [m]) (fun y hy => by
        rcases List.mem_append.1 hy with hy | hy
        · exact hl y hy
        · simp at hy; subst hy; exact gl_val hg) r h
      exact ⟨this.1, by rw [this.2]; simp; omega⟩

theorem meLoop {v : List Str} {n : Nat} (hn : v.length = n + 1) (hv : n ≤ 100000) (hl : ∀ x, x ∈ v → x.length ≤ 40000) : ∀ (m k : Nat) (l : List Mea), k + m = n → l.length = k →
    loopO (meParse_b1 v) ((k : Int), l) = some (match scan ((v.take n).drop k) k l with | .inl e => .inl e | .inr r => .inr r) := by
  have hw : IntKind.i64.wrap ((v.length : Int) - 1) = (n : Int) := by rw [w64 (by omega)]; omega
  have htl : (v.take n).length = n := by rw [List.length_take]; omega
  intro m
  induction m with
  | zero =>
    intro k l hk hlk
    have : k = n := by omega
    subst this
    rw [loop_stop (r := .inr l)]
    · rw [List.drop_eq_nil_of_le (by omega)]; rfl
    · unfold meParse_b1
      dsimp only
      rw [hw, Int.toNat_natCast, show (0 : Int).toNat = 0 from rfl, List.drop_zero, htl, if_neg (fun h => by have := of_decide_eq_true h; omega)]
  | succ m ih =>
    intro k l hk hlk
    have hkl : k < (v.take n).length := by omega
    have hmem : (v.take n)[k] ∈ v := List.mem_of_mem_take (List.getElem_mem hkl)
    have hlen := hl _ hmem
    have hb : meParse_b1 v ((k : Int), l) = ((parseMeasure ((v.take n)[k])).bind fun v5 =>
            if (!v5.2) = true then
              some (.inr (.inl ([], (k : Int), (4 : Int))))
            else
              if (l.length + [v5.1].length ≤ 137438953472) then
                some (.inl ((IntKind.i64.wrap ((k : Int) + (1 : Int))), (l ++ [v5.1])))
              else none) := by
      unfold meParse_b1
      dsimp only
      rw [hw, Int.toNat_natCast, show (0 : Int).toNat = 0 from rfl, List.drop_zero, htl, if_pos (decide_eq_true (by omega)), if_pos (by omega), Int.toNat_natCast, List.getElem?_eq_getElem hkl, Option.bind_some]
    rw [List.drop_eq_getElem_cons hkl]
    unfold scan
    rcases parseMeasure_any (line := (v.take n)[k]) (by omega) with ⟨q, h1, h2, h3⟩ | ⟨h1, q, h3⟩
    · rw [h3, Option.bind_some] at hb
      rw [← h2, gl_some h1]
      simp only [Bool.not_true, Bool.false_eq_true, if_false] at hb
      rw [if_pos (by simp only [List.length_cons, List.length_nil]; omega), w64 (by omega)] at hb
      rw [loop_step (x := (((k + 1 : Nat) : Int), l ++ [q])) hb]
      exact ih (k + 1) _ (by omega) (by simp; omega)
    · rw [h3, Option.bind_some] at hb
      rw [gl_none h1]
      rw [loop_stop hb]
/-- What a text is read as. -/
noncomputable def readS (s : Str) : List Mea × Int × Int :=
  match scan ((spl 10 s).take ((spl 10 s).length - 1)) 0 [] with
  | .inl e => e
  | .inr r => if (spl 10 s).getD ((spl 10 s).length - 1) default = [] then (if ms r = 0 then (r, (r.length : Int), 0) else ([], 0, ms r)) else ([], (((spl 10 s).length - 1 : Nat) : Int), 4)
theorem meParse_eq {s : Str} (h : s.length ≤ 40000) : meParse s = some (readS s) := by
  have hsl := spl_len 10 s
  have hpos := List.length_pos_iff.2 (spl_ne 10 s)
  have hl : ∀ x, x ∈ spl 10 s → x.length ≤ 40000 := fun x hx => by have := (hsl.2.1 x hx).1; omega
  unfold meParse readS
  rw [splitS_eq (by omega), Option.bind_some]
  generalize spl 10 s = v at *
  obtain ⟨n, hn⟩ : ∃ n, v.length = n + 1 := ⟨v.length - 1, by omega⟩
  have hw : IntKind.i64.wrap ((v.length : Int) - 1) = (n : Int) := by rw [w64 (by omega)]; omega
  have hn1 : v.length - 1 = n := by omega
  rw [hw, if_pos (by omega), hn1]
  have hloop := meLoop hn (by omega) hl n 0 [] (by omega) rfl
  rw [show (((0 : Nat) : Int)) = (0 : Int) from rfl, List.drop_zero] at hloop
  rw [hloop, Option.bind_some]
  cases hs : scan (v.take n) 0 [] with
  | inl e => rfl
  | inr r =>
    obtain ⟨hv, hrl⟩ := scan_ok _ _ _ (fun x hx => by cases hx) _ hs
    rw [List.length_take, Nat.min_eq_left (by omega)] at hrl
    have hrn : r.length = n := by simpa using hrl
    show meParse_j1 v r = _
    have hnv : n < v.length := by omega
    unfold meParse_j1
    rw [hw, if_pos (by omega), Int.toNat_natCast, List.getElem?_eq_getElem hnv, Option.bind_some, getD_of (List.getElem?_eq_getElem hnv)]
    dsimp only
    by_cases he : v[n] = []
    · rw [if_neg (by rw [beq_iff_eq.2 he]; simp), if_pos he, meV (fun x hx => (hv x hx).okL), Option.bind_some]
      by_cases hm : ms r = 0
      · rw [if_neg (by rw [eqI hm]; simp), if_pos hm, hrn]
      · rw [if_pos (neI hm), if_neg hm]
    · rw [if_pos (by rw [beq_eq_false_iff_ne.2 he]; rfl), if_neg he]
theorem readS_ok (s : Str) (h : s.length ≤ 40000) : (readS s).1.length ≤ 1000000 ∧ ∀ x, x ∈ (readS s).1 → x.Origins.length ≤ 1000000 := by
  have hsl := spl_len 10 s
  unfold readS
  cases hs : scan ((spl 10 s).take ((spl 10 s).length - 1)) 0 [] with
  | inl e =>
    have : ∀ (xs : List Str) (k : Nat) (l : List Mea) e, scan xs k l = .inl e → e.1 = [] := by
      intro xs
      induction xs with
      | nil => intro k l e h; cases h
      | cons x xs ih =>
        intro k l e h
        unfold scan at h
        cases hg : gl x with
        | none => rw [hg] at h; cases h; rfl
        | some m => rw [hg] at h; exact ih _ _ _ h
    have := this _ _ _ _ hs
    simp only [this]
    exact ⟨by simp, fun x hx => by cases hx⟩
  | inr r =>
    obtain ⟨hv, hrl⟩ := scan_ok _ _ _ (fun x hx => by cases hx) _ hs
    rw [List.length_take] at hrl
    simp only [List.length_nil, Nat.zero_add] at hrl
    dsimp only
    split
    · split
      · exact ⟨by simp only; omega, fun x hx => by have := (hv x hx).origins; omega⟩
      · exact ⟨by simp, fun x hx => by cases hx⟩
    · exact ⟨by simp, fun x hx => by cases hx⟩

/-- The text of a list. -/
def fmtL (l : List Mea) : Str := (l.map fun m => lineS m ++ [10]).flatten
theorem fmtL_snoc (l : List Mea) (m : Mea) : fmtL (l ++ [m]) = fmtL l ++ (lineS m ++ [10]) := by unfold fmtL; simp
theorem fmtL_len {l : List Mea} (h : ∀ x, x ∈ l → MVal x) : (fmtL l).length ≤ 421 * l.length := by
  induction l with
  | nil => simp [fmtL]
  | cons m l ih =>
    have h1 := line_len (h m List.mem_cons_self)
    have h2 := ih (fun x hx => h x (List.mem_cons_of_mem _ hx))
    have e : fmtL (m :: l) = (lineS m ++ [10]) ++ fmtL l := by unfold fmtL; simp
    rw [e]
    simp only [List.length_append, List.length_cons, List.length_nil]
    omega
theorem refFormat_eq {l : List Mea} (h : AscM l) (hl : l.length ≤ 300) : refFormat l = some (fmtL l) := by
  have hv : ∀ x, x ∈ l → MVal x := fun x hx => h.val hx
  unfold refFormat refFormat_j1
  rw [refMeasures_eq (fun x hx => (hv x hx).okL), ms_zero.2 ⟨hl, h⟩, Option.bind_some, if_neg (by simp)]
  have hfold := loop_seq (f := refFormat_b1 l) l.length (fun i => ((i : Int), fmtL (l.take i))) (fmtL l) (fun i hi => by
    have hb := fmtL_len (l := l.take i) (fun x hx => hv x (List.mem_of_mem_take hx))
    rw [List.length_take] at hb
    have hm := line_len (hv _ (List.getElem_mem hi))
    unfold refFormat_b1
    dsimp only
    rw [if_pos (decide_eq_true (by omega)), if_pos (by omega), Int.toNat_natCast, List.getElem?_eq_getElem hi, Option.bind_some, refLine_eq (hv _ (List.getElem_mem hi)), Option.bind_some, if_pos (by omega), if_pos (by simp only [List.length_append, List.length_cons, List.length_nil]; omega), w64 (by omega), take_snoc hi, fmtL_snoc, List.append_assoc]
    rfl) (by
    unfold refFormat_b1
    dsimp only
    rw [if_neg (by simp), List.take_length])
  have hfold' : loopO (refFormat_b1 l) ((0 : Int), ([] : Str)) = some (fmtL l) := hfold
  rw [hfold', Option.bind_some]

end Go.C
