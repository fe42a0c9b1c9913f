/- Plain laws of chapter 19: MeasureAdded. No program in sight. -/
import Derived.Test.YtbilobjddflpeaaGreatDoorMz
set_option linter.unusedVariables false
set_option linter.unusedSimpArgs false
namespace Go.C
open Go.V

/-- One measure more at the end. -/
theorem best_add (p : Mea → Bool) (l : List Mea) (z : Mea) : best p (l ++ [z]) = some z ∧ p z = true ∨ best p (l ++ [z]) = best p l := by
  rw [best_snoc]
  unfold stepB
  split
  · rename_i h; exact .inl ⟨rfl, h.1⟩
  · exact .inr rfl
theorem best_kind {l : List Mea} {code origin : Str} {company day kind : Int} {y : Mea} (h : bestK l code origin company day kind = some y) : y ∈ l ∧ y.Kind = kind ∧ covS y code origin company day = true := by
  obtain ⟨h1, h2⟩ := best_mem h
  unfold kindP at h2
  rw [Bool.and_eq_true] at h2
  exact ⟨h1, by simpa using h2.1, h2.2⟩
theorem mem_app {l : List Mea} {code origin : Str} {company day : Int} {y : Mea} : y ∈ appS l code origin company day ↔ ∃ kind : Int, 1 ≤ kind ∧ kind ≤ 6 ∧ bestK l code origin company day kind = some y := by
  unfold appS
  rw [List.mem_filterMap]
  constructor
  · rintro ⟨k, hk, h⟩
    refine ⟨k, ?_, ?_, h⟩ <;> (simp at hk; omega)
  · rintro ⟨k, h1, h2, h⟩
    exact ⟨k, by have : k = 1 ∨ k = 2 ∨ k = 3 ∨ k = 4 ∨ k = 5 ∨ k = 6 := by omega
                 rcases this with rfl | rfl | rfl | rfl | rfl | rfl <;> simp, h⟩

/-- The state of the inner loops. -/
def st3 (i : Int) (b : Bool) (c : List Mea) (m : Mea) : Int × Bool × List Mea × Int × Int × Str × List Str × Int × Int × Int × Int × Int × Int × Int × Bool × Int × Bool × Int :=
  (i, b, c, m.ID, m.Kind, m.Prefix, m.Origins, m.Company, m.From, m.To, m.Registered, m.Duty.Rate, m.Duty.Amount, m.Duty.Per, m.Duty.HasMost, m.Duty.Most, m.Duty.HasLeast, m.Duty.Least)
def en3 (b : Bool) (c : List Mea) (m : Mea) : Bool × List Mea × Int × Int × Str × List Str × Int × Int × Int × Int × Int × Int × Int × Bool × Int × Bool × Int :=
  (b, c, m.ID, m.Kind, m.Prefix, m.Origins, m.Company, m.From, m.To, m.Registered, m.Duty.Rate, m.Duty.Amount, m.Duty.Per, m.Duty.HasMost, m.Duty.Most, m.Duty.HasLeast, m.Duty.Least)
def st2 (i : Int) (b q : Bool) (c : List Mea) (m : Mea) : Int × Bool × Bool × List Mea × Int × Int × Str × List Str × Int × Int × Int × Int × Int × Int × Int × Bool × Int × Bool × Int :=
  (i, b, q, c, m.ID, m.Kind, m.Prefix, m.Origins, m.Company, m.From, m.To, m.Registered, m.Duty.Rate, m.Duty.Amount, m.Duty.Per, m.Duty.HasMost, m.Duty.Most, m.Duty.HasLeast, m.Duty.Least)
def en2 (b q : Bool) (c : List Mea) (m : Mea) : Bool × Bool × List Mea × Int × Int × Str × List Str × Int × Int × Int × Int × Int × Int × Int × Bool × Int × Bool × Int :=
  (b, q, c, m.ID, m.Kind, m.Prefix, m.Origins, m.Company, m.From, m.To, m.Registered, m.Duty.Rate, m.Duty.Amount, m.Duty.Per, m.Duty.HasMost, m.Duty.Most, m.Duty.HasLeast, m.Duty.Least)
def zeroM : Mea := ⟨0, 0, [], [], 0, 0, 0, 0, ⟨0, 0, 0, false, 0, false, 0⟩⟩

/-- The last one of a kind. -/
def lastK (kind : Int) (s : Bool × Mea) (x : Mea) : Bool × Mea := if x.Kind = kind then (true, x) else s
theorem last_uniq {l : List Mea} {kind : Int} : ∀ s : Bool × Mea, (∀ y, y ∈ l → y.Kind ≠ kind) → l.foldl (lastK kind) s = s := by
  induction l with
  | nil => intro s h; rfl
  | cons x l ih =>
    intro s h
    rw [List.foldl_cons, ih _ (fun y hy => h y (List.mem_cons_of_mem _ hy))]
    unfold lastK
    rw [if_neg (h x List.mem_cons_self)]
theorem last_one {l : List Mea} {kind : Int} {y : Mea} (hy : y ∈ l) (hk : y.Kind = kind) (hu : ∀ x, x ∈ l → x.Kind = kind → x = y) : ∀ s : Bool × Mea, l.foldl (lastK kind) s = (true, y) := by
  induction l with
  | nil => cases hy
  | cons x l ih =>
    intro s
    rw [List.foldl_cons]
    by_cases hm : y ∈ l
    · exact ih hm (fun x hx => hu x (List.mem_cons_of_mem _ hx)) _
    · rcases List.mem_cons.1 hy with rfl | h
      · rw [last_uniq _ (fun z hz hzk => hm (by rw [← hu z (List.mem_cons_of_mem _ hz) hzk]; exact hz))]
        unfold lastK; rw [if_pos hk]
      · exact absurd h hm

theorem added_inner3 {it : ApiItem} {x : Mea} {v5 : Int} {v6 v7 : List Mea} {kind : Int} {put : Bool} {c : List Mea} (h6 : v6.length ≤ 1000) :
    loopO (lawAdded_b3 it x v5 v6 v7 kind put) (st3 0 false c zeroM) = some (en3 (v6.foldl (lastK kind) (false, zeroM)).1 c (v6.foldl (lastK kind) (false, zeroM)).2) := by
  exact loop_fold v6 (lawAdded_b3 it x v5 v6 v7 kind put) (fun i (s : Bool × Mea) => st3 (i : Int) s.1 c s.2) (lastK kind) (fun s => en3 s.1 c s.2) (fun _ _ => True) (fun _ _ _ _ _ => trivial)
    (fun i y s _ hx => by
      have hlt := lt_of_get hx
      unfold lawAdded_b3 lawAdded_j6 st3
      dsimp only
      rw [if_pos (decide_eq_true (by omega)), if_pos (by omega), Int.toNat_natCast, hx, Option.bind_some, w64 (by omega)]
      unfold lastK
      by_cases hk : y.Kind = kind
      · rw [if_pos (by simpa using hk), if_pos hk, if_pos (by omega), Option.bind_some]; rfl
      · rw [if_neg (by simpa using hk), if_neg hk]; rfl)
    (fun s _ => by
      unfold lawAdded_b3 st3
      dsimp only
      rw [if_neg (by simp)]; rfl) (false, zeroM) trivial

def zMea (x : Mea) (v5 : Int) : Mea := ⟨IntKind.i64.wrap ((1000 : Int) + v5), x.Kind, x.Prefix, x.Origins, x.Company, x.From, x.To, x.Registered, x.Duty⟩
def hitZ (z : Mea) (kind : Int) (s : Bool × Bool × Mea) (y : Mea) : Bool × Bool × Mea := if kind = z.Kind ∧ y.Kind = kind ∧ y.ID = z.ID then (true, true, z) else s
theorem added_inner2 {it : ApiItem} {x : Mea} {v5 : Int} {v6 v7 : List Mea} {kind : Int} {put is : Bool} {c : List Mea} {m : Mea} (h7 : v7.length ≤ 1000) :
    loopO (lawAdded_b2 it x v5 v6 v7 kind) (st2 0 is put c m) = some (en2 (v7.foldl (hitZ (zMea x v5) kind) (is, put, m)).1 (v7.foldl (hitZ (zMea x v5) kind) (is, put, m)).2.1 c (v7.foldl (hitZ (zMea x v5) kind) (is, put, m)).2.2) := by
  exact loop_fold v7 (lawAdded_b2 it x v5 v6 v7 kind) (fun i (s : Bool × Bool × Mea) => st2 (i : Int) s.1 s.2.1 c s.2.2) (hitZ (zMea x v5) kind) (fun s => en2 s.1 s.2.1 c s.2.2) (fun _ _ => True) (fun _ _ _ _ _ => trivial)
    (fun i y s _ hx => by
      have hlt := lt_of_get hx
      unfold lawAdded_b2 lawAdded_j5 st2
      dsimp only
      rw [if_pos (decide_eq_true (by omega)), if_pos (fun _ => by omega), if_pos (fun _ => by omega), Int.toNat_natCast, getD_of hx, w64 (n := (i : Int) + 1) (by omega)]
      unfold hitZ
      by_cases hk : kind = (zMea x v5).Kind ∧ y.Kind = kind ∧ y.ID = (zMea x v5).ID
      · obtain ⟨k1, k2, k3⟩ := hk
        have e1 : (kind == x.Kind) = true := beq_iff_eq.2 k1
        have e2 : (y.Kind == kind) = true := by simpa using k2
        have e3 : (y.ID == IntKind.i64.wrap ((1000 : Int) + v5)) = true := beq_iff_eq.2 k3
        rw [e1, cond_true, e2, cond_true, e3, if_pos rfl, if_pos ⟨k1, k2, k3⟩]; rfl
      · rw [if_neg hk, if_neg ?_]; rfl
        intro h
        apply hk
        cases e1 : (kind == x.Kind) with
        | false => rw [e1, cond_false, cond_false] at h; cases h
        | true =>
          rw [e1, cond_true] at h
          cases e2 : (y.Kind == kind) with
          | false => rw [e2, cond_false] at h; cases h
          | true =>
            rw [e2, cond_true] at h
            exact ⟨beq_iff_eq.1 e1, beq_iff_eq.1 e2, beq_iff_eq.1 h⟩)
    (fun s _ => by
      unfold lawAdded_b2 st2
      dsimp only
      rw [if_neg (by simp)]; rfl) (is, put, m) trivial
theorem hit_none {l : List Mea} {z : Mea} {kind : Int} : ∀ s : Bool × Bool × Mea, (∀ y, y ∈ l → ¬ (kind = z.Kind ∧ y.Kind = kind ∧ y.ID = z.ID)) → l.foldl (hitZ z kind) s = s := by
  induction l with
  | nil => intro s h; rfl
  | cons x l ih =>
    intro s h
    rw [List.foldl_cons, ih _ (fun y hy => h y (List.mem_cons_of_mem _ hy))]
    unfold hitZ
    rw [if_neg (h x List.mem_cons_self)]
theorem hit_one {l : List Mea} {z : Mea} {kind : Int} {y : Mea} (hy : y ∈ l) (hk : kind = z.Kind ∧ y.Kind = kind ∧ y.ID = z.ID) : ∀ s : Bool × Bool × Mea, l.foldl (hitZ z kind) s = (true, true, z) := by
  have stay : ∀ (l : List Mea), l.foldl (hitZ z kind) (true, true, z) = (true, true, z) := by
    intro l
    induction l with
    | nil => rfl
    | cons x l ih =>
      rw [List.foldl_cons]
      have : hitZ z kind (true, true, z) x = (true, true, z) := by unfold hitZ; split <;> rfl
      rw [this]; exact ih
  induction l with
  | nil => cases hy
  | cons x l ih =>
    intro s
    rw [List.foldl_cons]
    rcases List.mem_cons.1 hy with rfl | h
    · unfold hitZ; rw [if_pos hk]; exact stay l
    · exact ih h _

/-- The loop over the kinds, with a flag. -/
theorem kinds_loop2 {f : (Int × Bool × List Mea) → Option ((Int × Bool × List Mea) ⊕ (Bool × List Mea))} {g : Int → Option Mea} {q : Int → Bool}
    (hstep : ∀ (k : Int) (p : Bool) (r : List Mea), 1 ≤ k → k ≤ 6 → r.length ≤ 6 → f (k, p, r) = some (.inl (k + 1, p || q k, r ++ (g k).toList)))
    (hend : ∀ p r, f (7, p, r) = some (.inr (p, r))) : loopO f ((1 : Int), false, []) = some (q 1 || q 2 || q 3 || q 4 || q 5 || q 6, ([1, 2, 3, 4, 5, 6] : List Int).filterMap g) := by
  have tl : ∀ (o : Option Mea), o.toList.length ≤ 1 := fun o => by cases o <;> simp
  have t1 := tl (g 1); have t2 := tl (g 2); have t3 := tl (g 3); have t4 := tl (g 4); have t5 := tl (g 5)
  rw [loop_step (hstep 1 false [] (by omega) (by omega) (by simp)), loop_step (hstep (1 + 1) _ _ (by omega) (by omega) (by simp; omega)), loop_step (hstep (1 + 1 + 1) _ _ (by omega) (by omega) (by simp; omega)), loop_step (hstep (1 + 1 + 1 + 1) _ _ (by omega) (by omega) (by simp; omega)), loop_step (hstep (1 + 1 + 1 + 1 + 1) _ _ (by omega) (by omega) (by simp; omega)), loop_step (hstep (1 + 1 + 1 + 1 + 1 + 1) _ _ (by omega) (by omega) (by simp; omega))]
  rw [show (1 + 1 + 1 + 1 + 1 + 1 + 1 : Int) = 7 by omega, loop_stop (hend _ _)]
  have fm : ∀ (a : Int) (l : List Int), (a :: l).filterMap g = (g a).toList ++ l.filterMap g := fun a l => by
    rw [List.filterMap_cons]
    cases g a <;> rfl
  rw [fm, fm, fm, fm, fm, fm]
  simp

theorem lawAdded_true {l k more : List Int} {id : Int} (hl : l.length ≤ 9223372036854775807 ∧ ∀ x, x ∈ l → okI_i64 x) (hk : k.length ≤ 9223372036854775807 ∧ ∀ x, x ∈ k → okI_i64 x) (hm : more.length ≤ 9223372036854775807 ∧ ∀ x, x ∈ more → okI_i64 x) (hid : okI_i64 id) : lawAdded l k more id = some true := by
  unfold lawAdded
  obtain ⟨m, e1, hb⟩ := madeMeasures_ok l
  obtain ⟨it, e2, _⟩ := madeItem_ok k
  obtain ⟨ys, e3, hy⟩ := madeMeasures_ok more
  have hlen := hb.len
  have hylen := hy.len
  rw [e1, Option.bind_some, e2, Option.bind_some, e3, Option.bind_some]
  by_cases h0 : ys.length = 0
  · rw [if_pos (by rw [beq_iff_eq]; omega), awake_true]; rfl
  rw [if_neg (by rw [beq_iff_eq]; omega), w64 (n := (ys.length : Int) - 1) (by omega), if_pos (by omega)]
  have hq : ((ys.length : Int) - 1).toNat < ys.length := by omega
  have hxv := hy.vals _ (List.getElem_mem hq)
  rw [List.getElem?_eq_getElem hq, Option.bind_some]
  generalize ys[((ys.length : Int) - 1).toNat] = x at hxv
  have m1 := Int.emod_nonneg id (by omega : (10 : Int) ≠ 0)
  have m2 := Int.emod_lt_of_pos id (by omega : (0 : Int) < 10)
  rw [within_eq (by omega) (by omega), Option.bind_some]
  generalize id % 10 = v5 at m1 m2
  rw [meApplicable_eq (by omega) hb.vals, Option.bind_some, if_pos (by omega), if_pos (by simp only [List.length_cons, List.length_nil]; omega)]
  show ((meApplicable (m ++ [zMea x v5]) it.Code it.Origin it.Company it.Day).bind _) = _
  have hzid : (zMea x v5).ID = 1000 + v5 := by show IntKind.i64.wrap (1000 + v5) = _; rw [w64 (by omega)]
  have hzv : MVal (zMea x v5) := ⟨by rw [hzid]; omega, hxv.kind, hxv.company, hxv.lvl, hxv.origins, hxv.orgs, hxv.days, hxv.reg, hxv.duty⟩
  have hzK := hzv.kind
  have hvals : ∀ y, y ∈ m ++ [zMea x v5] → MVal y := fun y hy => by
    rcases List.mem_append.1 hy with h | h
    · exact hb.vals y h
    · simp at h; subst h; exact hzv
  rw [meApplicable_eq (by simp; omega) hvals, Option.bind_some]
  generalize hz : zMea x v5 = z at *
  have ha6 := app_len m it.Code it.Origin it.Company it.Day
  have hb6 := app_len (m ++ [z]) it.Code it.Origin it.Company it.Day
  have hA : ∀ y, y ∈ appS m it.Code it.Origin it.Company it.Day → ∀ kind, y.Kind = kind → bestK m it.Code it.Origin it.Company it.Day kind = some y := fun y hy kind hkd => by
    obtain ⟨k', _, _, h⟩ := mem_app.1 hy
    have := (best_kind h).2.1
    rw [← hkd, this]; exact h
  have hB : ∀ y, y ∈ appS (m ++ [z]) it.Code it.Origin it.Company it.Day → ∀ kind, y.Kind = kind → bestK (m ++ [z]) it.Code it.Origin it.Company it.Day kind = some y := fun y hy kind hkd => by
    obtain ⟨k', _, _, h⟩ := mem_app.1 hy
    have := (best_kind h).2.1
    rw [← hkd, this]; exact h
  have hloop := kinds_loop2 (f := lawAdded_b1 it x v5 (appS m it.Code it.Origin it.Company it.Day) (appS (m ++ [z]) it.Code it.Origin it.Company it.Day)) (g := bestK (m ++ [z]) it.Code it.Origin it.Company it.Day)
    (q := fun kind => @decide (kind = z.Kind ∧ bestK (m ++ [z]) it.Code it.Origin it.Company it.Day kind = some z) (Classical.propDecidable _))
    (fun kind p r h1 h2 hr => by
      unfold lawAdded_b1
      dsimp only
      rw [if_pos (decide_eq_true h2)]
      have i3 := added_inner3 (it := it) (x := x) (v5 := v5) (v6 := appS m it.Code it.Origin it.Company it.Day) (v7 := appS (m ++ [z]) it.Code it.Origin it.Company it.Day) (kind := kind) (put := p) (c := r) (by omega)
      have i3' : loopO (lawAdded_b3 it x v5 (appS m it.Code it.Origin it.Company it.Day) (appS (m ++ [z]) it.Code it.Origin it.Company it.Day) kind p) ((0 : Int), false, r, 0, 0, [], [], 0, 0, 0, 0, 0, 0, 0, false, 0, false, 0) = _ := i3
      rw [i3', Option.bind_some]
      generalize hs : (appS m it.Code it.Origin it.Company it.Day).foldl (lastK kind) (false, zeroM) = s
      show lawAdded_j3 it x v5 (appS m it.Code it.Origin it.Company it.Day) (appS (m ++ [z]) it.Code it.Origin it.Company it.Day) kind p s.1 r s.2.ID s.2.Kind s.2.Prefix s.2.Origins s.2.Company s.2.From s.2.To s.2.Registered s.2.Duty.Rate s.2.Duty.Amount s.2.Duty.Per s.2.Duty.HasMost s.2.Duty.Most s.2.Duty.HasLeast s.2.Duty.Least = _
      unfold lawAdded_j3
      have i2 := added_inner2 (it := it) (x := x) (v5 := v5) (v6 := appS m it.Code it.Origin it.Company it.Day) (v7 := appS (m ++ [z]) it.Code it.Origin it.Company it.Day) (kind := kind) (put := p) (is := s.1) (c := r) (m := s.2) (by omega)
      unfold st2 at i2
      rw [i2, Option.bind_some, hz]
      generalize ht : (appS (m ++ [z]) it.Code it.Origin it.Company it.Day).foldl (hitZ z kind) (s.1, p, s.2) = t
      show lawAdded_j4 it x v5 (appS m it.Code it.Origin it.Company it.Day) (appS (m ++ [z]) it.Code it.Origin it.Company it.Day) kind t.1 t.2.1 r t.2.2.ID t.2.2.Kind t.2.2.Prefix t.2.2.Origins t.2.2.Company t.2.2.From t.2.2.To t.2.2.Registered t.2.2.Duty.Rate t.2.2.Duty.Amount t.2.2.Duty.Per t.2.2.Duty.HasMost t.2.2.Duty.Most t.2.2.Duty.HasLeast t.2.2.Duty.Least = _
      have fin : ∀ (u : Option Mea) (w : Bool), (t.1 = true ∧ u = some t.2.2 ∨ t.1 = false ∧ u = none) → t.2.1 = w → lawAdded_j4 it x v5 (appS m it.Code it.Origin it.Company it.Day) (appS (m ++ [z]) it.Code it.Origin it.Company it.Day) kind t.1 t.2.1 r t.2.2.ID t.2.2.Kind t.2.2.Prefix t.2.2.Origins t.2.2.Company t.2.2.From t.2.2.To t.2.2.Registered t.2.2.Duty.Rate t.2.2.Duty.Amount t.2.2.Duty.Per t.2.2.Duty.HasMost t.2.2.Duty.Most t.2.2.Duty.HasLeast t.2.2.Duty.Least = some (.inl (kind + 1, w, r ++ u.toList)) := fun u w hu hw => by
        unfold lawAdded_j4 lawAdded_j2
        rw [w64 (n := kind + 1) (by omega), hw]
        rcases hu with ⟨h1, rfl⟩ | ⟨h1, rfl⟩
        · rw [h1, if_pos rfl, if_pos (by simp only [List.length_cons, List.length_nil]; omega)]; rfl
        · rw [h1, if_neg (by simp)]; simp
      refine fin _ _ ?_ ?_
      all_goals
        by_cases hit : kind = z.Kind ∧ bestK (m ++ [z]) it.Code it.Origin it.Company it.Day kind = some z
      · -- z is taken
        have hzin : z ∈ appS (m ++ [z]) it.Code it.Origin it.Company it.Day := mem_app.2 ⟨kind, h1, h2, hit.2⟩
        rw [hit_one hzin ⟨hit.1, hit.1.symm, rfl⟩] at ht
        subst ht
        exact .inl ⟨rfl, hit.2⟩
      · have hno : ∀ y, y ∈ appS (m ++ [z]) it.Code it.Origin it.Company it.Day → ¬ (kind = z.Kind ∧ y.Kind = kind ∧ y.ID = z.ID) := fun y hy hc => by
          have hbk := hB y hy kind hc.2.1
          have hym := (best_kind hbk).1
          rcases List.mem_append.1 hym with h | h
          · have := hb.small y h
            rw [hc.2.2, hzid] at this; omega
          · simp at h; subst h; exact hit ⟨hc.1, hbk⟩
        rw [hit_none _ hno] at ht
        subst ht
        have hsame : bestK (m ++ [z]) it.Code it.Origin it.Company it.Day kind = bestK m it.Code it.Origin it.Company it.Day kind := by
          rcases best_add (kindP kind it.Code it.Origin it.Company it.Day) m z with ⟨h, hp⟩ | h
          · exfalso
            unfold kindP at hp
            rw [Bool.and_eq_true] at hp
            exact hit ⟨by have := hp.1; simp at this; exact this.symm, h⟩
          · exact h
        rw [hsame]
        simp only
        cases hbk : bestK m it.Code it.Origin it.Company it.Day kind with
        | none =>
          rw [last_uniq _ (fun y hy hyk => by have := hA y hy kind hyk; rw [hbk] at this; cases this)] at hs
          subst hs
          exact .inr ⟨rfl, rfl⟩
        | some y =>
          rw [last_one (mem_app.2 ⟨kind, h1, h2, hbk⟩) (best_kind hbk).2.1 (fun w hw hwk => by have := hA w hw kind hwk; rw [hbk] at this; cases this; rfl)] at hs
          subst hs
          exact .inl ⟨rfl, rfl⟩
      · have hzin : z ∈ appS (m ++ [z]) it.Code it.Origin it.Company it.Day := mem_app.2 ⟨kind, h1, h2, hit.2⟩
        rw [hit_one hzin ⟨hit.1, hit.1.symm, rfl⟩] at ht
        subst ht
        rw [@decide_eq_true _ (Classical.propDecidable _) hit]; simp
      · have hno : ∀ y, y ∈ appS (m ++ [z]) it.Code it.Origin it.Company it.Day → ¬ (kind = z.Kind ∧ y.Kind = kind ∧ y.ID = z.ID) := fun y hy hc => by
          have hbk := hB y hy kind hc.2.1
          have hym := (best_kind hbk).1
          rcases List.mem_append.1 hym with h | h
          · have := hb.small y h
            rw [hc.2.2, hzid] at this; omega
          · simp at h; subst h; exact hit ⟨hc.1, hbk⟩
        rw [hit_none _ hno] at ht
        subst ht
        rw [@decide_eq_false _ (Classical.propDecidable _) hit]; simp)
    (fun p r => by unfold lawAdded_b1; rfl)
  rw [hloop, Option.bind_some]
  generalize hput : (_ || _ : Bool) = put
  show lawAdded_j1 it x v5 (appS (m ++ [z]) it.Code it.Origin it.Company it.Day) put (appS (m ++ [z]) it.Code it.Origin it.Company it.Day) = some true
  unfold lawAdded_j1
  rw [sameMeasures_refl (by omega) (fun y hy => by have := (hvals y (app_mem hy)).origins; omega), Option.bind_some]
  show ((if (true && (!(!put))) = true then meCovers (zMea x v5) it.Code it.Origin it.Company it.Day else some default).bind _) = _
  rw [hz]
  cases put with
  | false =>
    simp only [Bool.not_false, Bool.not_true, Bool.and_false, Bool.false_eq_true, if_false, Option.bind_some, cond_true]
    rw [if_pos trivial, awake_true]; rfl
  | true =>
    have hcz : covS z it.Code it.Origin it.Company it.Day = true := by
      simp only [Bool.or_eq_true, decide_eq_true_eq] at hput
      rcases hput with ((((h | h) | h) | h) | h) | h <;> exact (best_kind h.2).2.2
    have ho := hzv.origins
    rw [if_pos (show (true && !!true) = true by rfl), meCovers_eq (by omega), Option.bind_some, hcz]
    simp only [Bool.not_true, cond_true, cond_false, if_true]
    rw [awake_true]; rfl

end Go.C
