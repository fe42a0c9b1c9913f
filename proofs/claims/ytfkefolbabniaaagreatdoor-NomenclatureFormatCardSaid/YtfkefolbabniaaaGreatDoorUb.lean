/- Plain laws of texts: the reference's own functions. No program in sight. -/
import Derived.Test.YtfkefolbabniaaaGreatDoorUa
import Derived.Test.YtfkefolbabniaaaGreatDoorGb
import Derived.Test.YtfkefolbabniaaaGreatDoorGe
import Derived.Test.YtfkefolbabniaaaGreatDoorPu
set_option linter.unusedVariables false
set_option linter.unusedSimpArgs false
namespace Go.C
open Go.V
open Go.Lib (decDigits)

theorem digits_loop (s : Str) (u : Nat) : u < 9223372036854775808 → s.length + (decDigits u).length ≤ 9223372036854775807 → loopO r02Digits_b1 (s, (u : Int)) = some (decDigits u ++ s) := by
  induction u using Nat.strongRecOn generalizing s with
  | ind u ih =>
    intro h hl
    have hb : bytesI [IntKind.u8.wrap (IntKind.i64.wrap ((48 : Int) + (u : Int).tmod 10))] = [dg (u % 10)] := by
      rw [Int.tmod_eq_emod_of_nonneg (by omega), byte_dg (by omega) (by omega)]
      congr 2
    have hq : IntKind.i64.wrap ((u : Int).tdiv 10) = ((u / 10 : Nat) : Int) := by
      rw [IntWalk.i64_quo _ _ (by omega)]; omega
    by_cases hu : u < 10
    · refine loop_stop ?_
      rw [dec_small hu] at *
      have h0 : u / 10 = 0 := by omega
      have h1 : u % 10 = u := by omega
      simp only [r02Digits_b1, hb, hq, h0, h1]
      simp at hl
      rw [if_pos (by simp; omega)]
      simp
    · rw [dec_big hu] at hl ⊢
      have h0 : u / 10 ≠ 0 := by omega
      simp at hl
      refine Eq.trans (loop_step (x := ([dg (u % 10)] ++ s, ((u / 10 : Nat) : Int))) ?_) ?_
      · simp only [r02Digits_b1, hb, hq]
        rw [if_pos (by simp; omega), if_neg (by simp; omega)]
      · rw [ih (u / 10) (by omega) _ (by omega) (by simp; omega)]
        simp

theorem digits_ok {n : Int} (h : 0 ≤ n) (h2 : n ≤ 9223372036854775807) : r02Digits n = some (decDigits n.toNat) := by
  obtain ⟨u, rfl⟩ := Int.eq_ofNat_of_zero_le h
  unfold r02Digits
  have := dec_len19 (u := u) (by omega)
  rw [digits_loop [] u (by omega) (by simp; omega)]
  simp

theorem take_snoc {α : Type} {l : List α} {i : Nat} (h : i < l.length) : l.take (i + 1) = l.take i ++ [l[i]] := by rw [List.take_add_one, List.getElem?_eq_getElem h]; rfl

theorem refJoined_eq {l : List Str} {sep : Str} (h : sep.length * l.length + Lib.lens l ≤ 4611686018427387904) (hl : l.length ≤ 4611686018427387904) : refJoined l sep = some (Lib.join l sep) := by
  have hb : ∀ i, (Lib.join (l.take i) sep).length ≤ sep.length * l.length + Lib.lens l := fun i => by
    have h1 := join_len (l.take i) sep
    have h2 := Lib.lens_take_le l i
    have h3 : sep.length * (l.take i).length ≤ sep.length * l.length := Nat.mul_le_mul (Nat.le_refl _) (by rw [List.length_take]; omega)
    omega
  unfold refJoined
  have := loop_seq (f := refJoined_b1 l sep) l.length (fun i => ((i : Int), Lib.join (l.take i) sep)) (Lib.join l sep) (fun i hi => by
    have hb1 := hb i
    have hb2 := hb (i + 1)
    unfold refJoined_b1 refJoined_j2
    dsimp only
    rw [if_pos (by simp only [decide_eq_true_eq]; omega)]
    rw [take_snoc hi] at hb2 ⊢
    by_cases h0 : i = 0
    · subst h0
      rw [if_neg (by simp), if_pos (by omega), Int.toNat_natCast, List.getElem?_eq_getElem hi, Option.bind_some, w64 (n := ((0 : Nat) : Int) + 1) (by omega)]
      have hz : Lib.join (l.take 0) sep = [] := by rw [List.take_zero]; rfl
      rw [if_pos (by rw [hz]; simp only [List.take_zero, List.nil_append, Lib.join_one] at hb2; simp only [List.length_nil]; omega), hz]
      simp [Lib.join_one]
    · have hne : l.take i ≠ [] := fun e => by have := congrArg List.length e; simp only [List.length_take, List.length_nil] at this; omega
      rw [join_snoc hne] at hb2 ⊢
      simp only [List.length_append] at hb2
      rw [if_pos (by simp; omega), if_pos (by omega), if_pos (by omega), Int.toNat_natCast, List.getElem?_eq_getElem hi, Option.bind_some, if_pos (by simp; omega), w64 (n := (i : Int) + 1) (by omega)]; rfl)
    (by unfold refJoined_b1; dsimp only; rw [if_neg (by simp), List.take_length])
  show (loopO (refJoined_b1 l sep) ((((0 : Nat) : Int)), Lib.join (l.take 0) sep)).bind _ = _
  rw [this]; rfl

theorem r08Split_eq (c : UInt8) {s : Str} (hs : s.length ≤ 4294967281) : r08Split s (c.toNat : Int) = some (spl c s) := by
  unfold r08Split
  obtain ⟨r, e, rfl⟩ := loop_inv (f := r08Split_b1 s (c.toNat : Int)) (fun m x => (∃ i j : Nat, m = s.length + 2 - i ∧ x.1 = (i : Int) ∧ x.2.1 = (j : Int) ∧ i ≤ s.length ∧ j ≤ i ∧ c ∉ (s.take i).drop j ∧ x.2.2 ++ spl c (s.drop j) = spl c s ∧ x.2.2.length ≤ j) ∨ (m = 1 ∧ x.1 = ((s.length + 1 : Nat) : Int) ∧ x.2.2 = spl c s)) (fun r => r = spl c s) (by
    rintro m ⟨i', j', out⟩ h
    simp only at h
    rcases h with ⟨i, j, rfl, rfl, rfl, hi, hj, hc, hout, hlen⟩ | ⟨rfl, rfl, rfl⟩
    · refine .inl ?_
      unfold r08Split_b1 r08Split_j2
      dsimp only
      rw [if_pos (by simp only [decide_eq_true_eq]; omega), if_pos (fun h => by simp at h; omega), Int.toNat_natCast, Int.toNat_natCast, w64 (n := (i : Int) + 1) (by omega)]
      by_cases hlt : i < s.length
      · have hne : ((i : Int) == (s.length : Int)) = false := by simp; omega
        have hsd : s.drop j = (s.take i).drop j ++ s[i] :: s.drop (i + 1) := by
          rw [← List.drop_eq_getElem_cons hlt]
          conv => lhs; rw [← List.take_append_drop i s]
          rw [List.drop_append_of_le_length (by rw [List.length_take]; omega)]
        have hg : s.getD i 0 = s[i] := by rw [List.getD_eq_getElem?_getD, List.getElem?_eq_getElem hlt]; rfl
        rw [hne, hg]
        by_cases hsc : s[i] = c
        · rw [if_pos (by simp [hsc]), if_pos (by omega), if_pos (by simp; omega)]
          refine ⟨_, s.length + 2 - (i + 1), by omega, rfl, .inl ⟨i + 1, i + 1, rfl, rfl, rfl, by omega, by omega, ?_, ?_, by simp; omega⟩⟩
          · simp
          · show (out ++ [(s.take i).drop j]) ++ spl c (s.drop (i + 1)) = spl c s
            rw [← hout, hsd, hsc, spl_at hc]; simp
        · have hsn : ¬ ((s[i].toNat : Int) = (c.toNat : Int)) := fun e => hsc (UInt8.toNat_inj.1 (by omega))
          rw [if_neg (by simpa using hsn)]
          refine ⟨_, s.length + 2 - (i + 1), by omega, rfl, .inl ⟨i + 1, j, rfl, rfl, rfl, by omega, by omega, ?_, hout, hlen⟩⟩
          rw [take_snoc hlt, List.drop_append_of_le_length (by rw [List.length_take]; omega)]
          simp only [List.mem_append, List.mem_singleton, not_or]
          exact ⟨hc, fun e => hsc e.symm⟩
      · have he : i = s.length := by omega
        subst he
        rw [if_pos (by simp), if_pos (by omega), if_pos (by simp; omega)]
        refine ⟨_, 1, by omega, rfl, .inr ⟨rfl, rfl, ?_⟩⟩
        rw [List.take_length] at hc ⊢
        rw [← hout, spl_miss hc]
    · refine .inr ?_
      unfold r08Split_b1
      dsimp only
      rw [if_neg (by simp only [decide_eq_true_eq]; omega)]
      exact ⟨_, rfl, rfl⟩) (s.length + 2) ((0 : Int), (0 : Int), []) (.inl ⟨0, 0, rfl, rfl, rfl, by omega, by omega, by simp, by simp, by simp⟩)
  rw [e]; rfl

theorem num_step {n : Int} {c : UInt8} (h1 : 48 ≤ c.toNat) (h2 : c.toNat ≤ 57) (h3 : 0 ≤ n) (h4 : n ≤ 1000000000000) : IntKind.i64.wrap (IntKind.i64.wrap ((10 : Int) * n) + IntKind.i64.wrap (IntKind.u8.wrap ((c.toNat : Int) - 48))) = n * 10 + ((c.toNat : Int) - 48) := by
  rw [IntWalk.u8_in _ (by omega), w64 (n := 10 * n) (by omega), w64 (n := (c.toNat : Int) - 48) (by omega), w64 (by omega)]; omega
theorem r08Num_dig {s : Str} (hd : IsDig s) (hl : s.length ≤ 12) : r08Num s = some (valF 0 s : Int) := by
  unfold r08Num
  have := loop_seq (f := r08Num_b1 s) s.length (fun i => ((i : Int), (valF 0 (s.take i) : Int))) (.inr (valF 0 s : Int)) (fun i hi => by
    have hg : s.getD i 0 = s[i] := by rw [List.getD_eq_getElem?_getD, List.getElem?_eq_getElem hi]; rfl
    have hc := hd s[i] (List.getElem_mem hi)
    have hv := valF_lt (s.take i) 0 0 (fun c hc => hd c (List.mem_of_mem_take hc)) (by decide)
    have hv2 : valF 0 (s.take i) < 1000000000001 := by
      rw [List.length_take, Nat.min_eq_left (by omega)] at hv
      exact Nat.lt_of_lt_of_le hv (Nat.le_trans (Nat.pow_le_pow_right (by omega) (show 0 + i ≤ 12 by omega)) (by decide))
    clear hv
    unfold r08Num_b1
    dsimp only
    rw [if_pos (by simp only [decide_eq_true_eq]; omega), if_pos (by omega), if_pos (fun _ => by omega), Int.toNat_natCast, hg, if_neg (by simp; omega), if_pos (by omega), num_step hc.1 hc.2 (by omega) (by omega), w64 (n := (i : Int) + 1) (by omega), take_snoc hi, valF_append]
    have : (valF (valF 0 (s.take i)) [s[i]] : Int) = (valF 0 (s.take i) : Int) * 10 + ((s[i].toNat : Int) - 48) := by
      show (((valF 0 (s.take i)) * 10 + (s[i].toNat - 48) : Nat) : Int) = _
      omega
    rw [this]; rfl)
    (by unfold r08Num_b1; dsimp only; rw [if_neg (by simp), List.take_length])
  show (loopO (r08Num_b1 s) (((0 : Nat) : Int), ((valF 0 (s.take 0) : Nat) : Int))).bind _ = _
  rw [this]; rfl
theorem r08Num_dec {n : Int} (h : 0 ≤ n) (h2 : n < 1000000000000) : r08Num (decDigits n.toNat) = some n := by
  obtain ⟨d1, d2, d3⟩ := isDig_dec n.toNat
  rw [r08Num_dig d1 (dec_len 11 _ (by omega)), d2, Int.toNat_of_nonneg h]
theorem r08Num_any {s : Str} (hl : s.length ≤ 4611686018427387904) : ∃ n, r08Num s = some n ∧ -1 ≤ n ∧ n ≤ 10000000000010 := by
  unfold r08Num
  obtain ⟨r, e, hr⟩ := loop_all s (r08Num_b1 s) (fun i b => ((i : Int), b)) (fun i b => 0 ≤ b ∧ b ≤ 10000000000010) (fun r => match r with | .inl v => v = -1 | .inr v => 0 ≤ v ∧ v ≤ 10000000000010) (fun i x b hx hb => by
    have hi := lt_of_get hx
    have hg : s.getD i 0 = x := getD_of hx
    have hx255 := x.toNat_lt
    unfold r08Num_b1
    dsimp only
    rw [if_pos (by simp only [decide_eq_true_eq]; omega), if_pos (by omega), if_pos (fun _ => by omega), Int.toNat_natCast, hg]
    by_cases hc : (x.toNat : Int) < 48 ∨ 57 < (x.toNat : Int) ∨ 1000000000000 < b
    · refine .inr ⟨.inl (-1), ?_, rfl⟩
      rw [if_pos]
      rcases hc with h | h | h
      · simp [h]
      · simp [h]
      · simp [h]
    · refine .inl ⟨b * 10 + ((x.toNat : Int) - 48), ?_, by omega⟩
      rw [if_neg (by simp; omega), if_pos (by omega), num_step (by omega) (by omega) hb.1 (by omega), w64 (n := (i : Int) + 1) (by omega)]; rfl)
    (fun b hb => ⟨.inr b, by unfold r08Num_b1; dsimp only; rw [if_neg (by simp)], hb⟩) 0 (by omega)
  rw [show ((0 : Int), (0 : Int)) = (((0 : Nat) : Int), (0 : Int)) from rfl, e, Option.bind_some]
  cases r with
  | inl v => simp only at hr; subst hr; exact ⟨_, rfl, by omega, by omega⟩
  | inr v => exact ⟨_, rfl, by omega, by omega⟩

end Go.C
