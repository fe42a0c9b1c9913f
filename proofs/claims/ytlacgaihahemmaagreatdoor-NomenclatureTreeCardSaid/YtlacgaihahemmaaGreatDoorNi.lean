/- Plain laws of chapter 9: NomenclatureDays, NomenclatureTree. No program in sight. -/
import Derived.Test.YtlacgaihahemmaaGreatDoorNh
set_option linter.unusedVariables false
set_option linter.unusedSimpArgs false
namespace Go.C
open Go.V

theorem days_tail {b : ApiNomenclature} (hb : NMade b) {code : Str} (hc : code.length ≤ 9223372036854775807) (day : Int) : lawDays_j1 b code day = some true := by
  have hBB := hb.BB
  have hlen := fun e he => (hb.code e he).2.1
  obtain ⟨r, e1, e2, hr⟩ := nomFind_any hBB day code
  have hLB : ∀ l : List Ent, (∀ e, e ∈ l → e ∈ b.Entries) → ∀ x, x ∈ l → LB x.Terms := fun l hl x hx => hBB.ents.2 x (hl x hx)
  have hat : ∀ e, e ∈ atS b day → e ∈ b.Entries := fun e he => (List.mem_filter.1 he).1
  have s1 : sameEntries [r.1] [r.1] = some true := sameEntries_refl _ (by simp) (fun x hx => by
    simp at hx; subst hx
    rcases hr with ⟨_, h, _⟩ | ⟨h, _⟩
    · exact hBB.ents.2 _ (hat _ h)
    · rw [h]; exact ⟨by simp [zeroE], fun x hx => by simp [zeroE] at hx⟩)
  have s2 : sameEntries (atS b day) (atS b day) = some true := sameEntries_refl _ (atS_len hBB day) (hLB _ hat)
  have s3 : ∀ c, sameEntries (belS b day c) (belS b day c) = some true := fun c => sameEntries_refl _ (Nat.le_trans (List.length_filter_le _ _) (atS_len hBB day)) (hLB _ (fun e he => hat e (List.mem_filter.1 he).1))
  unfold lawDays_j1
  rw [e1, Option.bind_some, e2, Option.bind_some, if_pos (by simp), s1, Option.bind_some, if_pos (by simp), nomAt_eq hBB, Option.bind_some, if_pos (by simp), refAt_eq hBB, Option.bind_some, if_pos (by simp), s2, Option.bind_some, if_neg (by simp), nomBelow_eq hBB (fun e he => by have := hlen e he; omega), Option.bind_some, refBelow_eq hBB (fun e he => by have := hlen e he; omega) day hc, Option.bind_some, s3, Option.bind_some, if_pos rfl, nomBelow_eq hBB (fun e he => by have := hlen e he; omega), Option.bind_some, if_pos rfl, refBelow_eq hBB (fun e he => by have := hlen e he; omega) day (by simp), Option.bind_some, if_pos rfl, s3, Option.bind_some, if_pos (by simp), awake_true]
  rfl
theorem lawDays_true {l : List Int} {day : Int} {code : Str} {n : Int} {raw : Bool} (hl : l.length ≤ 9223372036854775807 ∧ ∀ x, x ∈ l → okI_i64 x) (hd : okI_i64 day) (hc : code.length ≤ 9223372036854775807) (hn : okI_i64 n) : lawDays l day code n raw = some true := by
  unfold lawDays
  obtain ⟨b, e2, hb⟩ := madeNom_ok l
  have hlen := hb.len
  rw [e2, Option.bind_some]
  cases raw with
  | true => rw [if_neg (by simp)]; exact days_tail hb hc day
  | false =>
    have hpos : (0 : Int) < (b.Entries.length : Int) := by omega
    have m1 := Int.emod_nonneg n (by omega : (b.Entries.length : Int) ≠ 0)
    have m2 := Int.emod_lt_of_pos n hpos
    have hk : (n % (b.Entries.length : Int)).toNat < b.Entries.length := by omega
    rw [if_pos (by simp), within_eq (by omega) (by omega), Option.bind_some, within_eq hpos (by omega), Option.bind_some, if_pos m1, List.getElem?_eq_getElem hk, Option.bind_some]
    exact days_tail hb (by have := (hb.code _ (List.getElem_mem hk)).2.1; omega) _

/-- What covers a period covers each day of it. -/
theorem cov_day {c : Str} {day : Int} : ∀ {l : List Ent} {d : Int}, d ≤ day → day < cov l c d → ∃ p, p ∈ l ∧ p.Code = c ∧ p.From ≤ day ∧ day < p.To
  | [], d, h1, h2 => by simp [cov] at h2; omega
  | a :: l, d, h1, h2 => by
    have h3 : day < cov l c (if a.Code = c ∧ a.From ≤ d ∧ d < a.To then a.To else d) := h2
    by_cases hc : a.Code = c ∧ a.From ≤ d ∧ d < a.To
    · rw [if_pos hc] at h3
      by_cases hd : day < a.To
      · exact ⟨a, by simp, hc.1, by omega, hd⟩
      · obtain ⟨p, hp, h⟩ := cov_day (by omega) h3
        exact ⟨p, by simp [hp], h⟩
    · rw [if_neg hc] at h3
      obtain ⟨p, hp, h⟩ := cov_day h1 h3
      exact ⟨p, by simp [hp], h⟩
theorem NMade.par {b : ApiNomenclature} (h : NMade b) {e : Ent} (he : e ∈ b.Entries) (h2 : e.Code.length ≠ 2) : e.To ≤ cov b.Entries (parent e.Code) e.From := by
  have hv := h.nv
  have hl := h.len
  obtain ⟨i, hi, rfl⟩ := List.getElem_of_mem he
  unfold C.nv at hv
  rw [if_neg (by have := h.notes.1; omega)] at hv
  by_cases c1 : ferr b.Entries.length (entErr b.Entries) ≠ 0
  · rw [if_pos c1] at hv; exact absurd hv c1
  rw [if_neg c1] at hv
  by_cases c2 : ferr b.Entries.length (parErr b.Entries) ≠ 0
  · rw [if_pos c2] at hv; exact absurd hv c2
  have := ferr_zero.1 (Decidable.not_not.1 c2) i hi
  unfold parErr parOk at this
  rw [getD_get hi] at this
  by_cases c3 : b.Entries[i].To ≤ cov b.Entries (parent b.Entries[i].Code) b.Entries[i].From
  · exact c3
  · rw [if_neg (by simp [h2]; omega)] at this; cases this

theorem one_of {l : List Ent} {c : Str} {day : Int} (hp : l.Pairwise Ord) (hd : ∀ e, e ∈ l → onDay day e = true) (hc : ∀ e, e ∈ l → e.Code = c) : l.length ≤ 1 := by
  match l, hp, hd, hc with
  | [], _, _, _ => simp
  | [x], _, _, _ => simp
  | y :: x :: r, hp, hd, hc =>
    exfalso
    have h1 := (List.pairwise_cons.1 hp).1 x (by simp)
    have hy := hd y (by simp); have hx := hd x (by simp)
    unfold onDay at hy hx
    simp only [Bool.and_eq_true, decide_eq_true_eq] at hy hx
    rcases h1 with h1 | ⟨_, h2, h3⟩
    · rw [hc y (by simp), hc x (by simp), bl_irrefl] at h1; cases h1
    · omega

theorem count_loop (b : ApiNomenclature) (day : Int) (l3 : List Ent) (i : Int) (x : Ent) {l : List Ent} (hl : l.length ≤ 1000) : loopO (lawTree_b2 b day l3 i x l) ((0 : Int), (0 : Int)) = some (((l.filter fun e => e.Code == x.Code).length : Nat) : Int) := by
  have := loop_seq (f := lawTree_b2 b day l3 i x l) l.length (fun k => ((k : Int), ((((l.take k).filter fun e => e.Code == x.Code).length : Nat) : Int))) (((l.filter fun e => e.Code == x.Code).length : Nat) : Int) (fun k hk => by
    have hfl := filter_len (fun e : Ent => e.Code == x.Code) l k
    unfold lawTree_b2 lawTree_j4
    dsimp only
    rw [if_pos (by simp only [decide_eq_true_eq]; omega), if_pos (by omega), Int.toNat_natCast, List.getElem?_eq_getElem hk, Option.bind_some, w64 (n := (k : Int) + 1) (by omega), filter_take _ hk]
    cases hc : (l[k].Code == x.Code) with
    | true => rw [if_pos rfl, if_pos rfl, w64 (by omega)]; simp
    | false => rw [if_neg (by simp), if_neg (by simp)]; rfl) (by unfold lawTree_b2; dsimp only; rw [if_neg (by simp), List.take_length])
  exact this

theorem lawTree_true {l : List Int} {day : Int} (hl : l.length ≤ 9223372036854775807 ∧ ∀ x, x ∈ l → okI_i64 x) (hd : okI_i64 day) : lawTree l day = some true := by
  unfold lawTree
  obtain ⟨b, e2, hb⟩ := madeNom_ok l
  have hBB := hb.BB
  rw [e2, Option.bind_some, within_eq (by omega) (by omega), Option.bind_some]
  generalize day % 20 = d
  have hall := atS_len hBB d
  rw [nomAt_eq hBB, Option.bind_some]
  have := loop_seq (f := lawTree_b1 b d (atS b d)) (atS b d).length (fun i => (i : Int)) (.inr ()) (fun i hi => by
    have hx := List.getElem_mem hi
    obtain ⟨hm, hon⟩ := List.mem_filter.1 hx
    have hcl := hb.code _ hm
    unfold lawTree_b1
    dsimp only
    rw [if_pos (by simp only [decide_eq_true_eq]; omega), if_pos (by omega), Int.toNat_natCast, List.getElem?_eq_getElem hi, Option.bind_some]
    generalize (atS b d)[i] = x at hx hm hon hcl ⊢
    have hj2 : lawTree_j2 b d (atS b d) (i : Int) = some (.inl ((i + 1 : Nat) : Int)) := by
      unfold lawTree_j2
      rw [w64 (n := (i : Int) + 1) (by omega)]; rfl
    by_cases h2 : x.Code.length = 2
    · rw [if_pos (by simp [h2]), hj2]
    have hlv : x.Code.length = 4 ∨ x.Code.length = 6 ∨ x.Code.length = 8 := by
      have := hcl.2.2
      unfold lvl at this
      split at this
      · rename_i hh; omega
      · exact absurd rfl this
    have hw : IntKind.i64.wrap ((x.Code.length : Int) - 2) = ((x.Code.length - 2 : Nat) : Int) := by rw [w64 (by omega)]; omega
    rw [if_neg (by simp; omega), if_neg (by simp; omega), hw, if_pos (by omega), Int.toNat_natCast]
    show (nomFind b d (parent x.Code)).bind _ = _
    have hon' := hon
    unfold onDay at hon'
    simp only [Bool.and_eq_true, decide_eq_true_eq] at hon'
    obtain ⟨p, hp1, hp2, hp3, hp4⟩ := cov_day hon'.1 (show d < cov b.Entries (parent x.Code) x.From by have := hb.par hm h2; omega)
    obtain ⟨r, f1, _, hr⟩ := nomFind_any hBB d (parent x.Code)
    have hfound : r.2 = true := by
      rcases hr with h | ⟨_, h⟩
      · exact h.1
      · exact absurd hp2 (h p (List.mem_filter.2 ⟨hp1, by unfold onDay; simp [hp3, hp4]⟩))
    rw [f1, Option.bind_some, if_neg (by simp [hfound]), if_pos (by omega)]
    show (nomBelow b d (parent x.Code)).bind _ = _
    rw [nomBelow_eq hBB (fun e he => by have := (hb.code e he).2.1; omega), Option.bind_some, count_loop _ _ _ _ _ (l := belS b d (parent x.Code)) (Nat.le_trans (List.length_filter_le _ _) hall), Option.bind_some]
    show lawTree_j3 b d (atS b d) (i : Int) _ = _
    have hone : ((belS b d (parent x.Code)).filter fun e => e.Code == x.Code).length = 1 := by
      have hle : ((belS b d (parent x.Code)).filter fun e => e.Code == x.Code).length ≤ 1 := one_of (c := x.Code) (day := d) (((hb.pw.filter _).filter _).filter _) (fun e he => (List.mem_filter.1 (List.mem_filter.1 (List.mem_filter.1 he).1).1).2) (fun e he => by simpa using (List.mem_filter.1 he).2)
      have hin : x ∈ (belS b d (parent x.Code)).filter fun e => e.Code == x.Code := by
        refine List.mem_filter.2 ⟨List.mem_filter.2 ⟨hx, ?_⟩, by simp⟩
        have hne : parent x.Code ≠ [] := fun e => by
          have := congrArg List.length e
          unfold parent at this
          rw [List.length_take] at this
          simp at this; omega
        unfold below
        rw [if_neg hne]
        simp; omega
      have := List.length_pos_of_mem hin
      omega
    rw [hone]
    unfold lawTree_j3
    rw [if_neg (by simp), hj2]) (by unfold lawTree_b1; rw [if_neg (by simp)])
  rw [show ((0 : Int)) = ((0 : Nat) : Int) from rfl, this, Option.bind_some]
  show lawTree_j1 = _
  unfold lawTree_j1
  rw [awake_true]; rfl

end Go.C
