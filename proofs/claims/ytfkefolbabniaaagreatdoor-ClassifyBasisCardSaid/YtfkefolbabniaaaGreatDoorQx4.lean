/- Packed by pack.py. -/
import Derived.Test.YtfkefolbabniaaaGreatDoorQx2
import Derived.Test.YtfkefolbabniaaaGreatDoorQx3
section
set_option linter.unusedVariables false
namespace Go.C
open Go.V
noncomputable def book10  : Option (ApiNomenclature) :=
 some (⟨[(⟨([57, 52] : Str), 0, (100 : Int), [], false⟩ : ApiCodeEntry), (⟨([57, 52, 48, 49] : Str), 0, (100 : Int), [[([99, 104, 97, 105, 114] : Str)], [([115, 101, 97, 116] : Str)]], false⟩ : ApiCodeEntry), (⟨([57, 52, 48, 51] : Str), 0, (100 : Int), [[([102, 117, 114, 110, 105, 116, 117, 114, 101] : Str)]], false⟩ : ApiCodeEntry)], []⟩ : ApiNomenclature)
noncomputable def awake10  : Option (Bool) :=
 (book10 ).bind fun v =>
  (classify v (5 : Int) (⟨[([99, 104, 97, 105, 114] : Str), ([102, 117, 114, 110, 105, 116, 117, 114, 101] : Str)], [], [], false⟩ : ApiGood)).bind fun v2 =>
   (book10 ).bind fun v3 =>
    (classify v3 (5 : Int) (⟨[([99, 104, 97, 105, 114] : Str), ([108, 97, 109, 112] : Str)], [], [], false⟩ : ApiGood)).bind fun v4 =>
     (book10 ).bind fun v5 =>
      (classify v5 (5 : Int) (⟨[([108, 97, 109, 112] : Str)], [], [], false⟩ : ApiGood)).bind fun v6 =>
       if ((bif (v2.1 == ([57, 52, 48, 51] : Str)) then ((v2.2.1.length : Int) == (1 : Int)) else false) = true → (0 ≤ (0 : Int) ∧ (0 : Int) < (v2.2.1.length : Int))) then
        some (bif (bif (bif (bif (bif (bif (v2.1 == ([57, 52, 48, 51] : Str)) then ((v2.2.1.length : Int) == (1 : Int)) else false) then (((v2.2.1.getD 0 default).Rule) == (6 : Int)) else false) then (v2.2.2 == (0 : Int)) else false) then (v4.1 == ([57, 52, 48, 49] : Str)) else false) then (v4.2.2 == (0 : Int)) else false) then (v6.2.2 == (7 : Int)) else false)
       else none
noncomputable def day10 (n1 : Int) : Option (Int) :=
 (within n1 (16 : Int)).bind fun v =>
  some v
noncomputable def lawBasis_j1 (d : Int) (v : ApiNomenclature) (v2 : ApiGood) (parent : Str) : Option (Bool) :=
 (day10 d).bind fun v3 =>
  (basis v v3 v2 parent).bind fun v4 =>
   (day10 d).bind fun v5 =>
    (rBasis v v5 v2 parent).bind fun v6 =>
     (if (!(v4.1 != v6.1)) = true then sameEntries v4.2 v6.2 else some default).bind fun v7 =>
      if (bif (v4.1 != v6.1) then true else (!v7)) = true then
       some false
      else
       if ((v4.2.length : Int) == (0 : Int)) = true then
        (if (v4.1 == (0 : Int)) = true then awake10  else some default).bind fun v8 =>
         some (bif (v4.1 == (0 : Int)) then v8 else false)
       else
        (reduce v v2 v4.1 v4.2).bind fun v9 =>
         (rReduce v v2 v4.1 v4.2).bind fun v10 =>
          (if (v9.1 == v10.1) = true then sameEntries [v9.2] [v10.2] else some default).bind fun v11 =>
           (if (bif (v9.1 == v10.1) then v11 else false) = true then awake10  else some default).bind fun v12 =>
            some (bif (bif (v9.1 == v10.1) then v11 else false) then v12 else false)
noncomputable def lawBasis (l : (List Int)) (m1 : (List Int)) (d : Int) (at_ : Int) (top : Bool) : Option (Bool) :=
 (madeNom l).bind fun v =>
  (madeGood m1).bind fun v2 =>
   if (!top) = true then
    (within at_ (v.Entries.length : Int)).bind fun v13 =>
     if (0 ≤ v13) then
      (v.Entries[v13.toNat]?).bind fun x =>
       lawBasis_j1 d v v2 x.Code
     else none
   else
    lawBasis_j1 d v v2 ([] : Str)
noncomputable def lawPath_j1 (d : Int) (v : ApiNomenclature) (v4 : Str × (List ApiClassStep) × Int) (parent : Str) : Option (Bool) :=
 (if (bif (bif (decide ((1 : Int) ≤ (v4.2.1.length : Int))) then (decide ((v4.2.1.length : Int) ≤ (3 : Int))) else false) then (parent == v4.1) else false) = true then day10 d else some default).bind fun v6 =>
  (if (bif (bif (decide ((1 : Int) ≤ (v4.2.1.length : Int))) then (decide ((v4.2.1.length : Int) ≤ (3 : Int))) else false) then (parent == v4.1) else false) = true then nomBelow v v6 v4.1 else some default).bind fun v7 =>
   (if (bif (bif (bif (decide ((1 : Int) ≤ (v4.2.1.length : Int))) then (decide ((v4.2.1.length : Int) ≤ (3 : Int))) else false) then (parent == v4.1) else false) then ((v7.length : Int) == (0 : Int)) else false) = true then awake10  else some default).bind fun v8 =>
    some (bif (bif (bif (bif (decide ((1 : Int) ≤ (v4.2.1.length : Int))) then (decide ((v4.2.1.length : Int) ≤ (3 : Int))) else false) then (parent == v4.1) else false) then ((v7.length : Int) == (0 : Int)) else false) then v8 else false)
noncomputable def lawPath_b1 (d : Int) (v : ApiNomenclature) (v4 : Str × (List ApiClassStep) × Int) : (Int × Str) → Option ((Int × Str) ⊕ ((Bool) ⊕ (Str)))
 | (i, parent2) =>
  if (decide (i < (v4.2.1.length : Int))) = true then
   (day10 d).bind fun v12 =>
    if (0 ≤ i) then
     (v4.2.1[i.toNat]?).bind fun x4 =>
      (nomFind v v12 x4.Chosen).bind fun v13 =>
       if (0 ≤ i) then
        (v4.2.1[i.toNat]?).bind fun x5 =>
         if ((!(!(x5.Parent == parent2))) = true → (0 ≤ i ∧ i < (v4.2.1.length : Int))) then
          if ((!(!(x5.Parent == parent2))) = true → (0 ≤ i ∧ i < (v4.2.1.length : Int))) then
           (if (!(!(x5.Parent == parent2))) = true then refHas ((v4.2.1.getD i.toNat default).Candidates) ((v4.2.1.getD i.toNat default).Chosen) else some default).bind fun v14 =>
            if ((!(bif (bif (!(x5.Parent == parent2)) then true else (!v14)) then true else (!v13.2))) = true → (0 ≤ i ∧ i < (v4.2.1.length : Int))) then
             if (bif (bif (bif (!(x5.Parent == parent2)) then true else (!v14)) then true else (!v13.2)) then true else ((((v4.2.1.getD i.toNat default).Chosen).length : Int) != (IntKind.i64.wrap ((4 : Int) + (IntKind.i64.wrap ((2 : Int) * i)))))) = true then
              some (.inr (.inl false))
             else
              if (0 ≤ i) then
               (v4.2.1[i.toNat]?).bind fun x6 =>
                some (.inl ((IntKind.i64.wrap (i + (1 : Int))), x6.Chosen))
              else none
            else none
          else none
         else none
       else none
    else none
  else
   some (.inr (.inr parent2))
noncomputable def lawPath (l : (List Int)) (m1 : (List Int)) (d : Int) : Option (Bool) :=
 (madeNom l).bind fun v =>
  (madeGood m1).bind fun v2 =>
   (day10 d).bind fun v3 =>
    (classify v v3 v2).bind fun v4 =>
     if (v4.2.2 != (0 : Int)) = true then
      (if (v4.2.2 == (7 : Int)) = true then awake10  else some default).bind fun v5 =>
       some (bif (v4.2.2 == (7 : Int)) then v5 else false)
     else
      (loopO (lawPath_b1 d v v4) ((0 : Int), ([] : Str))).bind fun e => match e with
       | (.inl rv) =>
        some rv
       | (.inr parent4) =>
        lawPath_j1 d v v4 parent4
noncomputable def lawExcluded_j1 (v : ApiNomenclature) (v2 : ApiGood) (v4 : Str × (List ApiClassStep) × Int) : Option (Bool) :=
 (nomExcluded v v4.1 v2.Words).bind fun v6 =>
  (if (!v6) = true then awake10  else some default).bind fun v7 =>
   some (bif (!v6) then v7 else false)
noncomputable def lawExcluded_b1 (v : ApiNomenclature) (v2 : ApiGood) (v4 : Str × (List ApiClassStep) × Int) : (Int) → Option ((Int) ⊕ ((Bool) ⊕ (Unit)))
 | i =>
  if (decide (i < (v4.2.1.length : Int))) = true then
   if (0 ≤ i) then
    (v4.2.1[i.toNat]?).bind fun x2 =>
     if ((!(x2.Basis == (3 : Int))) = true → (0 ≤ i ∧ i < (v4.2.1.length : Int))) then
      if ((!(bif (x2.Basis == (3 : Int)) then true else (((v4.2.1.getD i.toNat default).Basis) == (8 : Int)))) = true → (0 ≤ i ∧ i < (v4.2.1.length : Int))) then
       if (bif (bif (x2.Basis == (3 : Int)) then true else (((v4.2.1.getD i.toNat default).Basis) == (8 : Int))) then true else (bif (((v4.2.1.getD i.toNat default).Basis) == (7 : Int)) then (decide ((0 : Int) < i)) else false)) = true then
        (awake10 ).bind fun v9 =>
         some (.inr (.inl v9))
       else
        some (.inl (IntKind.i64.wrap (i + (1 : Int))))
      else none
     else none
   else none
  else
   some (.inr (.inr ()))
noncomputable def lawExcluded (l : (List Int)) (m1 : (List Int)) (d : Int) : Option (Bool) :=
 (madeNom l).bind fun v =>
  (madeGood m1).bind fun v2 =>
   (day10 d).bind fun v3 =>
    (classify v v3 v2).bind fun v4 =>
     if (v4.2.2 != (0 : Int)) = true then
      (awake10 ).bind fun v5 =>
       some v5
     else
      (loopO (lawExcluded_b1 v v2 v4) (0 : Int)).bind fun e => match e with
       | (.inl rv) =>
        some rv
       | (.inr ()) =>
        lawExcluded_j1 v v2 v4
noncomputable def lawOtherDays (l : (List Int)) (m1 : (List Int)) (d : Int) (at_ : Int) : Option (Bool) :=
 (madeNom l).bind fun v =>
  (madeGood m1).bind fun v2 =>
   (within at_ (v.Entries.length : Int)).bind fun v3 =>
    if (0 ≤ v3) then
     (v.Entries[v3.toNat]?).bind fun x =>
      (day10 d).bind fun v4 =>
       (if (decide (x.From ≤ v4)) = true then day10 d else some default).bind fun v5 =>
        if ((decide (x.From ≤ v4)) = true → (0 ≤ v3 ∧ v3 < (v.Entries.length : Int))) then
         if (bif (decide (x.From ≤ v4)) then (decide (v5 < ((v.Entries.getD v3.toNat default).To))) else false) = true then
          (awake10 ).bind fun v6 =>
           some v6
         else
          if (0 ≤ (0 : Int) ∧ (0 : Int) ≤ v3 ∧ v3 ≤ (v.Entries.length : Int)) then
           if (0 + ((v.Entries.take v3.toNat).drop (0 : Int).toNat).length ≤ 137438953472) then
            if (0 ≤ (IntKind.i64.wrap (v3 + (1 : Int))) ∧ (IntKind.i64.wrap (v3 + (1 : Int))) ≤ (v.Entries.length : Int)) then
             if (((v.Entries.take v3.toNat).drop (0 : Int).toNat).length + (v.Entries.drop (IntKind.i64.wrap (v3 + (1 : Int))).toNat).length ≤ 137438953472) then
              (nomValidate (⟨(((v.Entries.take v3.toNat).drop (0 : Int).toNat) ++ (v.Entries.drop (IntKind.i64.wrap (v3 + (1 : Int))).toNat)), v.Notes⟩ : ApiNomenclature)).bind fun v7 =>
               if (v7 != (0 : Int)) = true then
                (awake10 ).bind fun v8 =>
                 some v8
               else
                (day10 d).bind fun v9 =>
                 (classify v v9 v2).bind fun v10 =>
                  (day10 d).bind fun v11 =>
                   (classify (⟨(((v.Entries.take v3.toNat).drop (0 : Int).toNat) ++ (v.Entries.drop (IntKind.i64.wrap (v3 + (1 : Int))).toNat)), v.Notes⟩ : ApiNomenclature) v11 v2).bind fun v12 =>
                    (if (bif (v10.1 == v12.1) then (v10.2.2 == v12.2.2) else false) = true then sameSteps v10.2.1 v12.2.1 else some default).bind fun v13 =>
                     (if (bif (bif (v10.1 == v12.1) then (v10.2.2 == v12.2.2) else false) then v13 else false) = true then awake10  else some default).bind fun v14 =>
                      some (bif (bif (bif (v10.1 == v12.1) then (v10.2.2 == v12.2.2) else false) then v13 else false) then v14 else false)
             else none
            else none
           else none
          else none
        else none
    else none
end Go.C
end

section
set_option linter.unusedVariables false
set_option linter.unusedSimpArgs false
set_option maxHeartbeats 4000000
set_option maxRecDepth 20000
namespace Go.Proofs.YtfkefolbabniaaaGreatDoor
open Go.V Go.C
theorem within_con {wg : World} (hw : WG wg) {x : Int} {n1 : Int} {r : Int} (h : within x n1 = some r) : Con Tryz.prog wg gl 14 [.v (.int .i64 x), .v (.int .i64 n1)] [] (.v (.int .i64 r)) [] := by
 unfold within at h
 refine con_of_WC (S := slotsOf 0 _) Tryz.func14 rfl Tryz.ntmps14 rfl (fun t x hx => (slotsOf_get hx).2) ?_
 intro F L w ρ0 R hR
 try dsimp only [slotsOf]
 refine sr (lr1 rfl (ns ?_))
 obtain ⟨g1, h⟩ := grd h
 obtain ⟨g2, h⟩ := grd h
 refine lr 8 rfl (by repeat' (first | exact trivial | assumption | intro _ | exact g1 (by assumption) | exact g2 (by assumption) | apply And.intro | exact sideT | (refine and_i ?_ ?_))) ?_
 refine nr ?_
 cases h
 exact rt tbOk hR
theorem srcNext_con {wg : World} (hw : WG wg) {s : CustomsmadeSource} {n1 : Int} {r : Int × CustomsmadeSource} (h : srcNext s n1 = some r) : Con Tryz.prog wg gl 46 [.p 0 0, .v (.int .i64 n1)] [(0, .blk 81 [.v (.sl 1 (s.L.map eInt_i64)), .v (.int .i64 s.I)])] (.v (.int .i64 r.1)) [(0, .blk 81 [.v (.sl 1 (r.2.L.map eInt_i64)), .v (.int .i64 r.2.I)])] := by
 unfold srcNext at h
 refine con_of_WC (S := slotsOf 0 _) Tryz.func46 rfl Tryz.ntmps46 rfl (fun t x hx => (slotsOf_get hx).2) ?_
 intro F L w ρ0 R hR
 try dsimp only [slotsOf]
 refine sr (lr1 rfl (nn (WC.seq (WC.seq (WC.order mixed ?_)))))
 refine wr 8 rfl trivial ?_
 refine WR.q [] rfl rfl rfl (q_ev tbOk (.v (.int .i64 (s.L.length : Int))) rfl (by exact trivial) (by exact lenT)) ?_
 refine wr 1 rfl trivial ?_
 refine WR.nil (by kernel_rfl) (WQ.thenNormal ?_)
 refine WC.cond rfl (fun hc1 => ?_) (fun hc1 => ?_)
 ·replace h := ite_t hc1 h
  refine sr (lr1 rfl (nr (WQ.thenRet ?_)))
  cases h
  exact rt tbOk hR
 ·replace h := ite_f hc1 h
  refine kn (sr (lr 8 rfl trivial (nn (WC.seq (WC.order mixed ?_)))))
  refine wr 9 rfl trivial ?_
  obtain ⟨g1, h⟩ := grd h
  replace h := bnd h; obtain ⟨x, hxx, h⟩ := h
  refine WR.q [] rfl rfl rfl (q_idx tbOk rfl (by exact trivial) g1 (map_get (f := eInt_i64) hxx)) ?_
  refine wr 2 rfl trivial ?_
  replace h := bnd h; obtain ⟨v, hvv, h⟩ := h
  refine WR.call0 fn14 rfl rfl rfl rfl (by exact trivial) rfl (within_con hw hvv) ?_
  refine wr 1 rfl trivial ?_
  refine WR.nil (by kernel_rfl) (WQ.thenNormal (WC.ret ?_))
  cases h
  exact rt tbOk hR
theorem madeCut_con {wg : World} (hw : WG wg) {l : (List Int)} {n1 : Int} {r : (List Int)} (h : madeCut l n1 = some r) : Con Tryz.prog wg gl 45 [.v (.sl 1 (l.map eInt_i64)), .v (.int .i64 n1)] [] (.v (.sl 1 (r.map eInt_i64))) [] := by
 unfold madeCut at h
 refine con_of_WC (S := slotsOf 0 _) Tryz.func45 rfl Tryz.ntmps45 rfl (fun t x hx => (slotsOf_get hx).2) ?_
 intro F L w ρ0 R hR
 try dsimp only [slotsOf]
 refine sr (lr1 rfl (nn (WC.seq (sr (lr1 rfl ?_)))))
 refine WL.q [] rfl rfl rfl (q_ev tbOk (.v (.int .i64 (l.length : Int))) rfl (by exact trivial) (by exact lenT)) ?_
 refine lr2 rfl (nn ?_)
 refine WC.cond rfl (fun hc1 => ?_) (fun hc1 => ?_)
 ·replace h := ite_t hc1 h
  refine sr (lr2 rfl ?_)
  obtain ⟨g1, h⟩ := grd h
  refine WL.q [] rfl rfl rfl (q_ev tbOk (.v (.sl 1 (((l.take n1.toNat).drop (0 : Int).toNat).map eInt_i64))) rfl (by exact sideR) (by exact tdT)) ?_
  refine lr1 rfl (nr (WQ.thenRet ?_))
  cases h
  exact rt tbOk hR
 ·replace h := ite_f hc1 h
  refine kn (sr (lr2 rfl (nr ?_)))
  cases h
  exact rt tbOk hR
theorem vocabulary_con {wg : World} (hw : WG wg)  {r : (List Str)} (h : vocabulary  = some r) : Con Tryz.prog wg gl 98 [] [] (.v (.sl 1 (r.map eStr))) [] := by
 unfold vocabulary at h
 refine con_of_WC (S := slotsOf 0 _) Tryz.func98 rfl Tryz.ntmps98 rfl (fun t x hx => (slotsOf_get hx).2) ?_
 intro F L w ρ0 R hR
 try dsimp only [slotsOf]
 refine sr (lr1 rfl (ns (lr2 rfl (nr ?_))))
 cases h
 exact rt tbOk hR
theorem srcWords_con {wg : World} (hw : WG wg) {s : CustomsmadeSource} {most : Int} {r : (List Str) × CustomsmadeSource} (h : srcWords s most = some r) : Con Tryz.prog wg gl 47 [.p 0 0, .v (.int .i64 most)] [(0, .blk 81 [.v (.sl 1 (s.L.map eInt_i64)), .v (.int .i64 s.I)])] (.v (.sl 1 (r.1.map eStr))) [(0, .blk 81 [.v (.sl 1 (r.2.L.map eInt_i64)), .v (.int .i64 r.2.I)])] := by
 unfold srcWords at h
 refine con_of_WC (S := slotsOf 0 _) Tryz.func47 rfl Tryz.ntmps47 rfl (fun t x hx => (slotsOf_get hx).2) ?_
 intro F L w ρ0 R hR
 try dsimp only [slotsOf]
 refine sr (lr1 rfl (ns ?_))
 replace h := bnd h; obtain ⟨v, hvv, h⟩ := h
 refine WL.call0 fn98 rfl rfl rfl rfl (by exact trivial) rfl (vocabulary_con hw hvv) ?_
 refine lr1 rfl (ns (lr1 rfl (ns (lr1 rfl ?_))))
 replace h := bnd h; obtain ⟨v2, hvv2, h⟩ := h
 refine WL.callO [(0, 0)] [(0, 0)] [0] fn46 rfl rfl rfl rfl (by exact trivial) (srcNext_con hw hvv2) rfl rfl (by exact eqs) rfl rfl rfl rfl rfl rfl ?_
 refine lr1 rfl (nn (WC.seq (sr (lr1 rfl (nn ?_)))))
 refine WC.thenCut (X := (List Str)) (fun gG => ⟨[(7, .v (.int .i64 v2.1)), (6, .r 1006), (5, .v (.sl 1 (v.map eStr))), (0, .p 0 0)], [(1006, .row 9 1 (gG.map eStr)), (0, .blk 81 [.v (.sl 1 (v2.2.L.map eInt_i64)), .v (.int .i64 v2.2.I)])]⟩) (fun gG => srcWords_j1 v v2 gG = some r) ?_ ?_
 ·refine WC.block ?_
  obtain ⟨eQ1, hl1, hk1⟩ := bnd h
  clear h
  refine WC.rowNil 6 1006 9 1 rfl rfl ?_
  refine WC.loop (σ := Int × (List Str)) (τ := ((List Str))) (fun sS => ⟨[(8, .v (.int .i64 sS.1)), (7, .v (.int .i64 v2.1)), (6, .r 1006), (5, .v (.sl 1 (v.map eStr))), (0, .p 0 0), (1, .v (.int .i64 most))], [(1006, .row 9 1 (sS.2.map eStr)), (0, .blk 81 [.v (.sl 1 (v2.2.L.map eInt_i64)), .v (.int .i64 v2.2.I)])]⟩) (srcWords_b1 most v v2) [] ((0 : Int), []) hl1 sub ?_
  rintro ⟨i2, out4⟩ m hn1 he1 hx1
  obtain ⟨o1, hf1⟩ := some_of hx1
  have h := hf1
  unfold srcWords_b1 at h
  try dsimp only [slotsOf]
  refine WC.seq (sr (lr2 rfl ?_))
  refine WL.q [] rfl rfl rfl (q_ev tbOk (.v (.int .i64 (v.length : Int))) rfl (by exact trivial) (by exact lenT)) ?_
  refine lr 3 rfl (by exact sideR) ?_
  refine WL.gq [1006] rfl rfl rfl rfl (fun hg => q_ev tbOk (.v (.int .i64 (out4.length : Int))) rfl (by exact sideR) (by exact lenT)) ?_
  refine lr 3 rfl (by exact sideR) ?_
  refine nn ?_
  refine WC.cond rfl (fun hc2 => ?_) (fun hc2 => ?_)
  ·replace h := ite_t hc2 h
   refine kn (WC.seq ?_)
   refine WC.thenCut (X := (List Str)) (fun gG => ⟨[(6, .r 1006), (8, .v (.int .i64 i2)), (7, .v (.int .i64 v2.1)), (5, .v (.sl 1 (v.map eStr))), (0, .p 0 0), (1, .v (.int .i64 most))], [(1006, .row 9 1 (gG.map eStr)), (0, .blk 81 [.v (.sl 1 (v2.2.L.map eInt_i64)), .v (.int .i64 v2.2.I)])]⟩) (fun gG => srcWords_j3 most v v2 i2 gG = some o1) ?_ ?_
   ·refine WC.block (sr ?_)
    obtain ⟨g3, h⟩ := grd h
    refine lr 5 rfl (by repeat' (first | exact trivial | assumption | intro _ | exact g3 (by assumption) | apply And.intro | exact sideT | (refine and_i ?_ ?_))) ?_
    refine nn ?_
    refine WC.cond rfl (fun hc3 => ?_) (fun hc3 => ?_)
    ·replace h := ite_t hc3 h
     refine WC.region (lr3 rfl ?_)
     obtain ⟨g4, h⟩ := grd h
     replace h := bnd h; obtain ⟨x4, hxx4, h⟩ := h
     refine WL.q [] rfl rfl rfl (q_idx tbOk rfl (by exact trivial) g4 (map_get (f := eStr) hxx4)) ?_
     refine lr2 rfl ?_
     obtain ⟨g5, h⟩ := grd h
     refine WL.append tbOk ((out4 ++ [x4]).map eStr) [35, 1006] ap31 rfl rfl rfl rfl (fun _ e => by cases e; rfl) (by exact trivial) (map_cells (f := eStr) (xs := [x4]) fun _ => rfl) (by have := g5; simp only [List.length_map, List.length_nil, List.length_cons] at this ⊢; omega) rfl rfl (by simp only [List.map_append]; try rfl) rfl ?_
     refine lr1 rfl (WL.nil (WQ.blockNormal ?_))
     exact WQ.cut [(1006, 35)] (out4 ++ [x4]) sub h
    ·replace h := ite_f hc3 h
     refine WC.skip (WQ.blockNormal ?_)
     exact WQ.cut [] out4 sub h
   ·intro out7 h
    replace h : srcWords_j3 most v v2 i2 out7 = some _ := h
    unfold srcWords_j3 at h
    try dsimp only [slotsOf]
    refine WC.region (lr3 rfl (WL.nil ?_))
    cases h
    exact WQ.next [] ((IntKind.i64.wrap (i2 + (1 : Int))), out7) sub (hn1 _ hf1)
  ·replace h := ite_f hc2 h
   refine WC.exit (WQ.thenExit ?_)
   cases h
   have he := he1 _ hf1
   subst he
   replace h := hk1
   try dsimp only at h
   refine eb ?_
   exact WQ.cut [] out4 sub h
 ·intro out h
  replace h : srcWords_j1 v v2 out = some _ := h
  unfold srcWords_j1 at h
  try dsimp only [slotsOf]
  refine WC.seq (sr (lr1 rfl ?_))
  refine WL.q [1006] rfl rfl rfl (q_ev tbOk (.v (.int .i64 (out.length : Int))) rfl (by exact trivial) (by exact lenT)) ?_
  refine lr1 rfl (nn ?_)
  refine WC.thenCut (X := (List Str)) (fun gG => ⟨[(6, .v (.sl 1 (gG.map eStr))), (0, .p 0 0)], [(0, .blk 81 [.v (.sl 1 (v2.2.L.map eInt_i64)), .v (.int .i64 v2.2.I)])]⟩) (fun gG => srcWords_j2 v2 gG = some r) ?_ ?_
  ·refine WC.cond rfl (fun hc1 => ?_) (fun hc1 => ?_)
   ·replace h := ite_t hc1 h
    refine WC.region (lr3 rfl ?_)
    refine WL.q [] rfl rfl rfl (q_ev tbOk (.v (.int .i64 (v.length : Int))) rfl (by exact trivial) (by exact lenT)) ?_
    obtain ⟨g1, h⟩ := grd h
    refine lr 1 rfl (by repeat' (first | exact trivial | assumption | intro _ | exact g1 (by assumption) | apply And.intro | exact sideT | (refine and_i ?_ ?_))) ?_
    obtain ⟨g2, h⟩ := grd h
    replace h := bnd h; obtain ⟨x, hxx, h⟩ := h
    refine WL.q [] rfl rfl rfl (q_idx tbOk rfl (by exact trivial) g2 (map_get (f := eStr) hxx)) ?_
    refine lr3 rfl (WL.nil ?_)
    exact WQ.cut [] [x] sub h
   ·replace h := ite_f hc1 h
    refine WC.skip ?_
    refine WQ.publish 1006 rfl rfl ?_
    exact WQ.cut [] out sub h
  ·intro out2 h
   replace h : srcWords_j2 v2 out2 = some _ := h
   unfold srcWords_j2 at h
   try dsimp only [slotsOf]
   refine sr (lr2 rfl (nr ?_))
   cases h
   exact rt tbOk hR
theorem srcShares_con {wg : World} (hw : WG wg) {s : CustomsmadeSource} {n1 : Int} {r : (List Int) × CustomsmadeSource} (h : srcShares s n1 = some r) : Con Tryz.prog wg gl 56 [.p 0 0, .v (.int .i64 n1)] [(0, .blk 81 [.v (.sl 1 (s.L.map eInt_i64)), .v (.int .i64 s.I)])] (.v (.sl 1 (r.1.map eInt_i64))) [(0, .blk 81 [.v (.sl 1 (r.2.L.map eInt_i64)), .v (.int .i64 r.2.I)])] := by
 unfold srcShares at h
 refine con_of_WC (S := slotsOf 0 _) Tryz.func56 rfl Tryz.ntmps56 rfl (fun t x hx => (slotsOf_get hx).2) ?_
 intro F L w ρ0 R hR
 try dsimp only [slotsOf]
 refine sr (lr1 rfl (ns (lr1 rfl (ns (lr1 rfl (nn (WC.seq (sr (lr1 rfl (nn ?_))))))))))
 refine WC.thenCut (X := Int × (List Int) × (List Int) × Int) (fun gG => ⟨[(6, .v (.int .i64 gG.1)), (5, .r 1005), (0, .p 0 0)], [(1005, .row 3 1 (gG.2.1.map eInt_i64)), (0, .blk 81 [.v (.sl 1 (gG.2.2.1.map eInt_i64)), .v (.int .i64 gG.2.2.2)])]⟩) (fun gG => srcShares_j1 gG.1 gG.2.1 gG.2.2.1 gG.2.2.2 = some r) ?_ ?_
 ·refine WC.block ?_
  obtain ⟨eQ1, hl1, hk1⟩ := bnd h
  clear h
  refine WC.rowNil 5 1005 3 1 rfl rfl ?_
  refine WC.loop (σ := Int × Int × (List Int) × (List Int) × Int) (τ := (Int × (List Int) × (List Int) × Int)) (fun sS => ⟨[(7, .v (.int .i64 sS.1)), (6, .v (.int .i64 sS.2.1)), (5, .r 1005), (0, .p 0 0), (1, .v (.int .i64 n1))], [(1005, .row 3 1 (sS.2.2.1.map eInt_i64)), (0, .blk 81 [.v (.sl 1 (sS.2.2.2.1.map eInt_i64)), .v (.int .i64 sS.2.2.2.2)])]⟩) (srcShares_b1 n1) [] ((1 : Int), (1000000 : Int), [], s.L, s.I) hl1 sub ?_
  rintro ⟨i2, left3, out2, c0_04, c0_14⟩ m hn1 he1 hx1
  obtain ⟨o1, hf1⟩ := some_of hx1
  have h := hf1
  unfold srcShares_b1 at h
  try dsimp only [slotsOf]
  refine WC.seq (sr (lr3 rfl (nn ?_)))
  refine WC.cond rfl (fun hc1 => ?_) (fun hc1 => ?_)
  ·replace h := ite_t hc1 h
   refine kn (sb (sr (lr1 rfl ?_)))
   replace h := bnd h; obtain ⟨v7, hvv7, h⟩ := h
   refine WL.callO [(0, 0)] [(0, 0)] [0] fn46 rfl rfl rfl rfl (by exact trivial) (srcNext_con hw hvv7) rfl rfl (by exact eqs) rfl rfl rfl rfl rfl rfl ?_
   refine lr3 rfl (nn (WC.seq (sr (lr1 rfl ?_))))
   replace h := bnd h; obtain ⟨v8, hvv8, h⟩ := h
   refine WL.callO [(0, 0)] [(0, 0)] [0] fn46 rfl rfl rfl rfl (by exact trivial) (srcNext_con hw hvv8) rfl rfl (by exact eqs) rfl rfl rfl rfl rfl rfl ?_
   refine lr1 rfl (nn ?_)
   refine WC.thenCut (X := Int × (List Int) × (List Int) × Int) (fun gG => ⟨[(8, .v (.int .i64 gG.1)), (7, .v (.int .i64 i2)), (6, .v (.int .i64 left3)), (5, .r 1005), (0, .p 0 0), (1, .v (.int .i64 n1))], [(1005, .row 3 1 (gG.2.1.map eInt_i64)), (0, .blk 81 [.v (.sl 1 (gG.2.2.1.map eInt_i64)), .v (.int .i64 gG.2.2.2)])]⟩) (fun gG => srcShares_j2 n1 i2 left3 gG.1 gG.2.1 gG.2.2.1 gG.2.2.2 = some o1) ?_ ?_
   ·refine WC.cond rfl (fun hc2 => ?_) (fun hc2 => ?_)
    ·replace h := ite_t hc2 h
     refine WC.region ?_
     obtain ⟨g3, h⟩ := grd h
     refine lr 3 rfl (by repeat' (first | exact trivial | assumption | intro _ | exact g3 (by assumption) | apply And.intro | exact sideT | (refine and_i ?_ ?_))) ?_
     replace h := bnd h; obtain ⟨v9, hvv9, h⟩ := h
     refine WL.callO [(0, 0)] [(0, 0)] [0] fn46 rfl rfl rfl rfl (by exact trivial) (srcNext_con hw hvv9) rfl rfl (by exact eqs) rfl rfl rfl rfl rfl rfl ?_
     refine lr2 rfl (WL.nil ?_)
     exact WQ.cut [] ((IntKind.i64.wrap ((1 : Int) + v9.1)), out2, v9.2.L, v9.2.I) sub h
    ·replace h := ite_f hc2 h
     refine WC.skip ?_
     exact WQ.cut [] ((IntKind.i64.wrap ((1 : Int) + (IntKind.i64.wrap (v7.1 * (100000 : Int))))), out2, v8.2.L, v8.2.I) sub h
   ·rintro ⟨x3, out5, c0_07, c0_17⟩ h
    replace h : srcShares_j2 n1 i2 left3 x3 out5 c0_07 c0_17 = some _ := h
    unfold srcShares_j2 at h
    try dsimp only [slotsOf]
    refine sr (lr 8 rfl trivial (ns (lr3 rfl ?_)))
    obtain ⟨g2, h⟩ := grd h
    refine WL.append tbOk ((out5 ++ [(if (IntKind.i64.wrap (left3 - (IntKind.i64.wrap (n1 - i2)))) < x3 then (IntKind.i64.wrap (left3 - (IntKind.i64.wrap (n1 - i2)))) else x3)]).map eInt_i64) [36, 1005] ap22 rfl rfl rfl rfl (fun _ e => by cases e; rfl) (by exact trivial) (map_cells (f := eInt_i64) (xs := [(if (IntKind.i64.wrap (left3 - (IntKind.i64.wrap (n1 - i2)))) < x3 then (IntKind.i64.wrap (left3 - (IntKind.i64.wrap (n1 - i2)))) else x3)]) fun _ => rfl) (by have := g2; simp only [List.length_map, List.length_nil, List.length_cons] at this ⊢; omega) rfl rfl (by simp only [List.map_append]; try rfl) rfl ?_
    refine lr1 rfl (nn (WC.region (lr4 rfl (WL.nil (bn (WC.region (lr3 rfl (WL.nil ?_))))))))
    cases h
    exact WQ.next [(1005, 36)] ((IntKind.i64.wrap (i2 + (1 : Int))), (IntKind.i64.wrap (left3 - (if (IntKind.i64.wrap (left3 - (IntKind.i64.wrap (n1 - i2)))) < x3 then (IntKind.i64.wrap (left3 - (IntKind.i64.wrap (n1 - i2)))) else x3))), (out5 ++ [(if (IntKind.i64.wrap (left3 - (IntKind.i64.wrap (n1 - i2)))) < x3 then (IntKind.i64.wrap (left3 - (IntKind.i64.wrap (n1 - i2)))) else x3)]), c0_07, c0_17) sub (hn1 _ hf1)
  ·replace h := ite_f hc1 h
   refine WC.exit (WQ.thenExit ?_)
   cases h
   have he := he1 _ hf1
   subst he
   replace h := hk1
   try dsimp only at h
   refine eb ?_
   exact WQ.cut [] (left3, out2, c0_04, c0_14) sub h
 ·rintro ⟨left, out, c0_0, c0_1⟩ h
  replace h : srcShares_j1 left out c0_0 c0_1 = some _ := h
  unfold srcShares_j1 at h
  try dsimp only [slotsOf]
  refine sr (lr3 rfl ?_)
  obtain ⟨g1, h⟩ := grd h
  refine WL.append tbOk ((out ++ [left]).map eInt_i64) [43, 1005] ap22 rfl rfl rfl rfl (fun _ e => by cases e; rfl) (by exact trivial) (map_cells (f := eInt_i64) (xs := [left]) fun _ => rfl) (by have := g1; simp only [List.length_map, List.length_nil, List.length_cons] at this ⊢; omega) rfl rfl (by simp only [List.map_append]; try rfl) rfl ?_
  refine lr1 rfl (nr ?_)
  refine WQ.publish 43 rfl rfl ?_
  cases h
  exact rt tbOk hR
theorem madeGood_con {wg : World} (hw : WG wg) {l : (List Int)} {r : ApiGood} (h : madeGood l = some r) : Con Tryz.prog wg gl 21 [.v (.sl 1 (l.map eInt_i64))] [] (.v (.agg [.sl 1 (r.Words.map eStr), .sl 2 (r.Materials.map eApiMaterial), .sl 2 (r.Parts.map eApiComponent), .bool r.Incomplete])) [] := by
 unfold madeGood at h
 refine con_of_WC (S := slotsOf 0 _) Tryz.func21 rfl Tryz.ntmps21 rfl (fun t x hx => (slotsOf_get hx).2) ?_
 intro F L w ρ0 R hR
 try dsimp only [slotsOf]
 refine sr (lr1 rfl (ns (lr1 rfl ?_)))
 replace h := bnd h; obtain ⟨v, hvv, h⟩ := h
 refine WL.call0 fn45 rfl rfl rfl rfl (by exact trivial) rfl (madeCut_con hw hvv) ?_
 refine lr3 rfl (ns (lr1 rfl ?_))
 replace h := bnd h; obtain ⟨v2, hvv2, h⟩ := h
 refine WL.callO [(0, 14)] [(0, 14)] [14] fn47 rfl rfl rfl rfl (by exact trivial) (srcWords_con hw hvv2) rfl rfl (by exact eqs) rfl rfl rfl rfl rfl rfl ?_
 refine lr1 rfl ?_
 replace h := bnd h; obtain ⟨v3, hvv3, h⟩ := h
 refine WL.callO [(0, 14)] [(0, 14)] [14] fn46 rfl rfl rfl rfl (by exact trivial) (srcNext_con hw hvv3) rfl rfl (by exact eqs) rfl rfl rfl rfl rfl rfl ?_
 refine lr4 rfl (nn (WC.seq (sr (lr1 rfl ?_))))
 replace h := bnd h; obtain ⟨v4, hvv4, h⟩ := h
 refine WL.callO [(0, 14)] [(0, 14)] [14] fn46 rfl rfl rfl rfl (by exact trivial) (srcNext_con hw hvv4) rfl rfl (by exact eqs) rfl rfl rfl rfl rfl rfl ?_
 refine lr1 rfl (ns (lr2 rfl (nn ?_)))
 refine WC.thenCut (X := (List ApiMaterial) × (List Int) × Int) (fun gG => ⟨[(4, .p 4 0), (3, .p 14 0), (2, .p 2 0)], [(2, .blk 43 [.v (.raw (.slice none 0 0)), .v (.raw (.slice none 0 0)), .v (.raw (.slice none 0 0)), .v (.bool false)]), (2201, .row 94 2 (gG.1.map eApiMaterial)), (4, .blk 43 [.v (.sl 1 (v2.1.map eStr)), .r 2201, .v (.raw (.slice none 0 0)), .v (.bool (v3.1 == (1 : Int)))]), (14, .blk 81 [.v (.sl 1 (gG.2.1.map eInt_i64)), .v (.int .i64 gG.2.2)])]⟩) (fun gG => madeGood_j1 v2 v3 gG.1 gG.2.1 gG.2.2 = some r) ?_ ?_
 ·refine WC.cond rfl (fun hc3 => ?_) (fun hc3 => ?_)
  ·replace h := ite_t hc3 h
   refine sr (lr2 rfl ?_)
   replace h := bnd h; obtain ⟨v11, hvv11, h⟩ := h
   refine WL.callO [(0, 14)] [(0, 14)] [14] fn46 rfl rfl rfl rfl (by exact trivial) (srcNext_con hw hvv11) rfl rfl (by exact eqs) rfl rfl rfl rfl rfl rfl ?_
   obtain ⟨g3, h⟩ := grd h
   refine WL.q [] rfl rfl rfl (q_ev tbOk (.v (.sl 1 (([([103, 108, 97, 115, 115] : Str), ([108, 97, 109, 112] : Str), ([115, 116, 101, 101, 108] : Str), ([119, 111, 111, 100] : Str)].drop v11.1.toNat).map eStr))) rfl (by exact sideR) (by exact tdT)) ?_
   refine lr1 rfl (ns (lr3 rfl ?_))
   refine WL.q [] rfl rfl rfl (q_ev tbOk (.v (.int .i64 (([([103, 108, 97, 115, 115] : Str), ([108, 97, 109, 112] : Str), ([115, 116, 101, 101, 108] : Str), ([119, 111, 111, 100] : Str)].drop v11.1.toNat).length : Int))) rfl (by exact trivial) (by exact lenT)) ?_
   refine lr1 rfl ?_
   replace h := bnd h; obtain ⟨v12, hvv12, h⟩ := h
   refine WL.callO [(0, 14)] [(0, 14)] [14] fn56 rfl rfl rfl rfl (by exact trivial) (srcShares_con hw hvv12) rfl rfl (by exact eqs) rfl rfl rfl rfl rfl rfl ?_
   refine lr1 rfl (ns (lr1 rfl (nn (WC.block ?_))))
   obtain ⟨eQ2, hl2, hk2⟩ := bnd h
   clear h
   refine WC.rowNilB 4 1 2201 94 2 rfl rfl rfl (cs2 := [.v (.sl 1 (v2.1.map eStr)), .r 2201, .v (.raw (.slice none 0 0)), .v (.bool (v3.1 == (1 : Int)))]) rfl ?_
   refine WC.loop (σ := Int × (List ApiMaterial)) (τ := ((List ApiMaterial))) (fun sS => ⟨[(8, .v (.int .i64 sS.1)), (7, .v (.sl 1 (v12.1.map eInt_i64))), (6, .v (.sl 1 (([([103, 108, 97, 115, 115] : Str), ([108, 97, 109, 112] : Str), ([115, 116, 101, 101, 108] : Str), ([119, 111, 111, 100] : Str)].drop v11.1.toNat).map eStr))), (4, .p 4 0), (3, .p 14 0), (2, .p 2 0)], [(2, .blk 43 [.v (.raw (.slice none 0 0)), .v (.raw (.slice none 0 0)), .v (.raw (.slice none 0 0)), .v (.bool false)]), (2201, .row 94 2 (sS.2.map eApiMaterial)), (4, .blk 43 [.v (.sl 1 (v2.1.map eStr)), .r 2201, .v (.raw (.slice none 0 0)), .v (.bool (v3.1 == (1 : Int)))]), (14, .blk 81 [.v (.sl 1 (v12.2.L.map eInt_i64)), .v (.int .i64 v12.2.I)])]⟩) (madeGood_b2 v2 v3 v11 v12) [] ((0 : Int), []) hl2 sub ?_
   rintro ⟨i4, c4_16⟩ m hn2 he2 hx2
   obtain ⟨o2, hf2⟩ := some_of hx2
   have h := hf2
   unfold madeGood_b2 at h
   try dsimp only [slotsOf]
   refine WC.seq (sr (lr2 rfl ?_))
   refine WL.q [] rfl rfl rfl (q_ev tbOk (.v (.int .i64 (v12.1.length : Int))) rfl (by exact trivial) (by exact lenT)) ?_
   refine lr1 rfl (nn ?_)
   refine WC.cond rfl (fun hc4 => ?_) (fun hc4 => ?_)
   ·replace h := ite_t hc4 h
    refine kn (sb (WC.order mixed ?_))
    refine wr 4 rfl trivial ?_
    obtain ⟨g4, h⟩ := grd h
    replace h := bnd h; obtain ⟨x8, hxx8, h⟩ := h
    refine WR.q [] rfl rfl rfl (q_idx tbOk rfl (by exact trivial) g4 (map_get (f := eStr) hxx8)) ?_
    refine wr 3 rfl trivial ?_
    obtain ⟨g5, h⟩ := grd h
    replace h := bnd h; obtain ⟨x9, hxx9, h⟩ := h
    refine WR.q [] rfl rfl rfl (q_idx tbOk rfl (by exact trivial) g5 (map_get (f := eInt_i64) hxx9)) ?_
    refine wr 3 rfl trivial ?_
    obtain ⟨g6, h⟩ := grd h
    refine WR.append tbOk ((c4_16 ++ [(⟨x8, x9⟩ : ApiMaterial)]).map eApiMaterial) [53, 2201] ap40 rfl rfl rfl rfl (fun _ e => by cases e; rfl) (by exact trivial) (map_cells (f := eApiMaterial) (xs := [(⟨x8, x9⟩ : ApiMaterial)]) fun _ => rfl) (by have := g6; simp only [List.length_map, List.length_nil, List.length_cons] at this ⊢; omega) rfl rfl (by simp only [List.map_append]; try rfl) rfl rfl ?_
    refine wr 2 rfl trivial ?_
    refine WR.nil (by kernel_rfl) (bn (WC.region (lr3 rfl (WL.nil ?_))))
    cases h
    exact WQ.next [(2201, 53)] ((IntKind.i64.wrap (i4 + (1 : Int))), (c4_16 ++ [(⟨x8, x9⟩ : ApiMaterial)])) sub (hn2 _ hf2)
   ·replace h := ite_f hc4 h
    refine WC.exit (WQ.thenExit ?_)
    cases h
    have he := he2 _ hf2
    subst he
    replace h := hk2
    try dsimp only at h
    refine eb ?_
    exact WQ.cut [] (c4_16, v12.2.L, v12.2.I) sub h
  ·replace h := ite_f hc3 h
   refine WC.skip ?_
   refine WQ.rowNilB 4 1 2201 94 2 rfl rfl rfl (cs2 := [.v (.sl 1 (v2.1.map eStr)), .r 2201, .v (.raw (.slice none 0 0)), .v (.bool (v3.1 == (1 : Int)))]) rfl ?_
   exact WQ.cut [] ([], v4.2.L, v4.2.I) sub h
 ·rintro ⟨c4_1, c14_0, c14_1⟩ h
  replace h : madeGood_j1 v2 v3 c4_1 c14_0 c14_1 = some _ := h
  unfold madeGood_j1 at h
  try dsimp only [slotsOf]
  refine WC.seq (sr (lr1 rfl ?_))
  replace h := bnd h; obtain ⟨v5, hvv5, h⟩ := h
  refine WL.callO [(0, 14)] [(0, 14)] [14] fn46 rfl rfl rfl rfl (by exact trivial) (srcNext_con hw hvv5) rfl rfl (by exact eqs) rfl rfl rfl rfl rfl rfl ?_
  refine lr1 rfl (nn ?_)
  refine WC.thenCut (X := (List ApiMaterial) × (List ApiComponent)) (fun gG => ⟨[(4, .p 4 0), (2, .p 2 0)], [(2, .blk 43 [.v (.raw (.slice none 0 0)), .v (.raw (.slice none 0 0)), .v (.raw (.slice none 0 0)), .v (.bool false)]), (2201, .row 94 2 (gG.1.map eApiMaterial)), (2202, .row 96 2 (gG.2.map eApiComponent)), (4, .blk 43 [.v (.sl 1 (v2.1.map eStr)), .r 2201, .r 2202, .v (.bool (v3.1 == (1 : Int)))])]⟩) (fun gG => madeGood_j2 v2 v3 gG.1 gG.2 = some r) ?_ ?_
  ·refine WC.cond rfl (fun hc1 => ?_) (fun hc1 => ?_)
   ·replace h := ite_t hc1 h
    refine sr (lr2 rfl ?_)
    replace h := bnd h; obtain ⟨v6, hvv6, h⟩ := h
    refine WL.callO [(0, 14)] [(0, 14)] [14] fn46 rfl rfl rfl rfl (by exact trivial) (srcNext_con hw hvv6) rfl rfl (by exact eqs) rfl rfl rfl rfl rfl rfl ?_
    refine lr1 rfl ?_
    replace h := bnd h; obtain ⟨v7, hvv7, h⟩ := h
    refine WL.callO [(0, 14)] [(0, 14)] [14] fn56 rfl rfl rfl rfl (by exact trivial) (srcShares_con hw hvv7) rfl rfl (by exact eqs) rfl rfl rfl rfl rfl rfl ?_
    refine lr1 rfl (ns (lr1 rfl (nn (WC.block ?_))))
    obtain ⟨eQ1, hl1, hk1⟩ := bnd h
    clear h
    refine WC.rowNilB 4 2 2202 96 2 rfl rfl rfl (cs2 := [.v (.sl 1 (v2.1.map eStr)), .r 2201, .r 2202, .v (.bool (v3.1 == (1 : Int)))]) rfl ?_
    refine WC.loop (σ := Int × (List ApiMaterial) × (List ApiComponent) × (List Int) × Int) (τ := ((List ApiMaterial) × (List ApiComponent))) (fun sS => ⟨[(10, .v (.int .i64 sS.1)), (9, .v (.sl 1 (v7.1.map eInt_i64))), (4, .p 4 0), (3, .p 14 0), (2, .p 2 0)], [(2, .blk 43 [.v (.raw (.slice none 0 0)), .v (.raw (.slice none 0 0)), .v (.raw (.slice none 0 0)), .v (.bool false)]), (2201, .row 94 2 (sS.2.1.map eApiMaterial)), (2202, .row 96 2 (sS.2.2.1.map eApiComponent)), (4, .blk 43 [.v (.sl 1 (v2.1.map eStr)), .r 2201, .r 2202, .v (.bool (v3.1 == (1 : Int)))]), (14, .blk 81 [.v (.sl 1 (sS.2.2.2.1.map eInt_i64)), .v (.int .i64 sS.2.2.2.2)])]⟩) (madeGood_b1 v2 v3 v7) [] ((0 : Int), c4_1, [], v7.2.L, v7.2.I) hl1 sub ?_
    rintro ⟨i2, c4_14, c4_22, c14_03, c14_13⟩ m hn1 he1 hx1
    obtain ⟨o1, hf1⟩ := some_of hx1
    have h := hf1
    unfold madeGood_b1 at h
    try dsimp only [slotsOf]
    refine WC.seq (sr (lr2 rfl ?_))
    refine WL.q [] rfl rfl rfl (q_ev tbOk (.v (.int .i64 (v7.1.length : Int))) rfl (by exact trivial) (by exact lenT)) ?_
    refine lr1 rfl (nn ?_)
    refine WC.cond rfl (fun hc2 => ?_) (fun hc2 => ?_)
    ·replace h := ite_t hc2 h
     refine kn (sb (WC.order mixed ?_))
     refine wr 3 rfl trivial ?_
     replace h := bnd h; obtain ⟨v10, hvv10, h⟩ := h
     refine WR.callO [(0, 14)] [(0, 14)] [14] fn47 rfl rfl rfl rfl (by exact trivial) (srcWords_con hw hvv10) rfl rfl (by exact eqs) rfl rfl rfl rfl rfl rfl ?_
     refine wr 2 rfl trivial ?_
     obtain ⟨g1, h⟩ := grd h
     replace h := bnd h; obtain ⟨x3, hxx3, h⟩ := h
     refine WR.q [] rfl rfl rfl (q_idx tbOk rfl (by exact trivial) g1 (map_get (f := eInt_i64) hxx3)) ?_
     refine wr 3 rfl trivial ?_
     obtain ⟨g2, h⟩ := grd h
     refine WR.append tbOk ((c4_22 ++ [(⟨v10.1, x3⟩ : ApiComponent)]).map eApiComponent) [79, 2202] ap41 rfl rfl rfl rfl (fun _ e => by cases e; rfl) (by exact trivial) (map_cells (f := eApiComponent) (xs := [(⟨v10.1, x3⟩ : ApiComponent)]) fun _ => rfl) (by have := g2; simp only [List.length_map, List.length_nil, List.length_cons] at this ⊢; omega) rfl rfl (by simp only [List.map_append]; try rfl) rfl rfl ?_
     refine wr 2 rfl trivial ?_
     refine WR.nil (by kernel_rfl) (bn (WC.region (lr3 rfl (WL.nil ?_))))
     cases h
     exact WQ.next [(2202, 79)] ((IntKind.i64.wrap (i2 + (1 : Int))), c4_14, (c4_22 ++ [(⟨v10.1, x3⟩ : ApiComponent)]), v10.2.L, v10.2.I) sub (hn1 _ hf1)
    ·replace h := ite_f hc2 h
     refine WC.exit (WQ.thenExit ?_)
     cases h
     have he := he1 _ hf1
     subst he
     replace h := hk1
     try dsimp only at h
     refine eb ?_
     exact WQ.cut [] (c4_14, c4_22) sub h
   ·replace h := ite_f hc1 h
    refine WC.skip ?_
    refine WQ.rowNilB 4 2 2202 96 2 rfl rfl rfl (cs2 := [.v (.sl 1 (v2.1.map eStr)), .r 2201, .r 2202, .v (.bool (v3.1 == (1 : Int)))]) rfl ?_
    exact WQ.cut [] (c4_1, []) sub h
  ·rintro ⟨c4_12, c4_2⟩ h
   replace h : madeGood_j2 v2 v3 c4_12 c4_2 = some _ := h
   unfold madeGood_j2 at h
   try dsimp only [slotsOf]
   refine WC.seq ?_
   refine WC.publish 2201 rfl rfl ?_
   refine WC.publish 2202 rfl rfl ?_
   refine WC.region (lr2 rfl (nr ?_))
   cases h
   exact rt tbOk hR
theorem srcTerms_con {wg : World} (hw : WG wg) {s : CustomsmadeSource} {r : (List (List Str)) × CustomsmadeSource} (h : srcTerms s = some r) : Con Tryz.prog wg gl 99 [.p 0 0] [(0, .blk 81 [.v (.sl 1 (s.L.map eInt_i64)), .v (.int .i64 s.I)])] (.v (.sl 1 (r.1.map eLStr))) [(0, .blk 81 [.v (.sl 1 (r.2.L.map eInt_i64)), .v (.int .i64 r.2.I)])] := by
 unfold srcTerms at h
 refine con_of_WC (S := slotsOf 0 _) Tryz.func99 rfl Tryz.ntmps99 rfl (fun t x hx => (slotsOf_get hx).2) ?_
 intro F L w ρ0 R hR
 try dsimp only [slotsOf]
 refine sr (lr1 rfl (ns (lr1 rfl ?_)))
 replace h := bnd h; obtain ⟨v, hvv, h⟩ := h
 refine WL.callO [(0, 0)] [(0, 0)] [0] fn47 rfl rfl rfl rfl (by exact trivial) (srcWords_con hw hvv) rfl rfl (by exact eqs) rfl rfl rfl rfl rfl rfl ?_
 refine WL.buildRow tbOk ([v.1].map eLStr) rfl rfl rfl rfl (by exact trivial) rfl rfl ?_
 refine lr1 rfl (nn (WC.seq (sr (lr1 rfl ?_))))
 replace h := bnd h; obtain ⟨v2, hvv2, h⟩ := h
 refine WL.callO [(0, 0)] [(0, 0)] [0] fn46 rfl rfl rfl rfl (by exact trivial) (srcNext_con hw hvv2) rfl rfl (by exact eqs) rfl rfl rfl rfl rfl rfl ?_
 refine lr1 rfl (nn ?_)
 refine WC.thenCut (X := (List (List Str)) × (List Int) × Int) (fun gG => ⟨[(3, .r 1003), (0, .p 0 0)], [(1003, .row 31 1 (gG.1.map eLStr)), (0, .blk 81 [.v (.sl 1 (gG.2.1.map eInt_i64)), .v (.int .i64 gG.2.2)])]⟩) (fun gG => srcTerms_j1 gG.1 gG.2.1 gG.2.2 = some r) ?_ ?_
 ·refine WC.cond rfl (fun hc1 => ?_) (fun hc1 => ?_)
  ·replace h := ite_t hc1 h
   refine WC.region (lr2 rfl ?_)
   replace h := bnd h; obtain ⟨v3, hvv3, h⟩ := h
   refine WL.callO [(0, 0)] [(0, 0)] [0] fn47 rfl rfl rfl rfl (by exact trivial) (srcWords_con hw hvv3) rfl rfl (by exact eqs) rfl rfl rfl rfl rfl rfl ?_
   refine lr1 rfl ?_
   obtain ⟨g1, h⟩ := grd h
   refine WL.append tbOk (([v.1] ++ [v3.1]).map eLStr) [14, 6] ap52 rfl rfl rfl rfl (fun _ e => by cases e; rfl) (by exact trivial) (map_cells (f := eLStr) (xs := [v3.1]) fun _ => rfl) (by have := g1; simp only [List.length_map, List.length_nil, List.length_cons] at this ⊢; omega) rfl rfl (by simp only [List.map_append]; try rfl) rfl ?_
   refine lr1 rfl (WL.nil ?_)
   exact WQ.cut [(1003, 14)] (([v.1] ++ [v3.1]), v3.2.L, v3.2.I) sub h
  ·replace h := ite_f hc1 h
   refine WC.skip ?_
   exact WQ.cut [(1003, 6)] ([v.1], v2.2.L, v2.2.I) sub h
 ·rintro ⟨out, c0_0, c0_1⟩ h
  replace h : srcTerms_j1 out c0_0 c0_1 = some _ := h
  unfold srcTerms_j1 at h
  try dsimp only [slotsOf]
  refine sr (lr2 rfl (nr ?_))
  refine WQ.publish 1003 rfl rfl ?_
  cases h
  exact rt tbOk hR
theorem srcEntry_n_con {wg : World} (hw : WG wg) (n : Nat) : ∀ {s : CustomsmadeSource} {code : Str} {end_ : Int} {r : (List ApiCodeEntry) × CustomsmadeSource} (h : srcEntry_n n s code end_ = some r), Con Tryz.prog wg gl 48 [.p 0 0, .v (.str code), .v (.int .i64 end_)] [(0, .blk 81 [.v (.sl 1 (s.L.map eInt_i64)), .v (.int .i64 s.I)])] (.v (.sl 5 (r.1.map eApiCodeEntry))) [(0, .blk 81 [.v (.sl 1 (r.2.L.map eInt_i64)), .v (.int .i64 r.2.I)])] := by
 induction n with
 | zero => intros; rename_i h; cases h
 | succ n ih =>
 intro s code end_ r h
 replace h : srcEntry_F (srcEntry_n n) s code end_ = some r := h
 unfold srcEntry_F at h
 refine con_of_WC (S := slotsOf 0 _) Tryz.func48 rfl Tryz.ntmps48 rfl (fun t x hx => (slotsOf_get hx).2) ?_
 intro F L w ρ0 R hR
 try dsimp only [slotsOf]
 refine sr (lr1 rfl (ns (lr5 rfl (ns (lr1 rfl (nn (WC.seq (sr (lr3 rfl (nn ?_))))))))))
 refine WC.thenCut (X := (List Int) × Int × (List (List Str))) (fun gG => ⟨[(8, .v (.raw (.slice none 0 0))), (7, .p 7 0), (0, .p 0 0), (1, .v (.str code)), (2, .v (.int .i64 end_))], [(0, .blk 81 [.v (.sl 1 (gG.1.map eInt_i64)), .v (.int .i64 gG.2.1)]), (7, .blk 54 [.v (.str code), .v (.int .i64 (0 : Int)), .v (.int .i64 end_), .v (.sl 1 (gG.2.2.map eLStr)), .v (.bool false)])]⟩) (fun gG => srcEntry_j1 (srcEntry_n n) code end_ gG.1 gG.2.1 gG.2.2 = some r) ?_ ?_
 ·refine WC.cond rfl (fun hc13 => ?_) (fun hc13 => ?_)
  ·replace h := ite_t hc13 h
   refine WC.region (lr1 rfl ?_)
   replace h := bnd h; obtain ⟨v12, hvv12, h⟩ := h
   refine WL.callO [(0, 0)] [(0, 0)] [0] fn99 rfl rfl rfl rfl (by exact trivial) (srcTerms_con hw hvv12) rfl rfl (by exact eqs) rfl rfl rfl rfl rfl rfl ?_
   refine lr2 rfl (WL.nil ?_)
   exact WQ.cut [] (v12.2.L, v12.2.I, v12.1) sub h
  ·replace h := ite_f hc13 h
   refine WC.skip ?_
   refine WQ.weakenO 7 (.blk 54 [.v (.str code), .v (.int .i64 (0 : Int)), .v (.int .i64 end_), .v (.sl 1 ([].map eLStr)), .v (.bool false)]) rfl (LeO.blk (.cons (Le.refl _) (.cons (Le.refl _) (.cons (Le.refl _) (.cons (Le.nil 1) (.cons (Le.refl _) .nil)))))) rfl ?_
   exact WQ.cut [] (s.L, s.I, []) sub h
 ·rintro ⟨c0_0, c0_1, c7_3⟩ h
  replace h : srcEntry_j1 (srcEntry_n n) code end_ c0_0 c0_1 c7_3 = some _ := h
  unfold srcEntry_j1 at h
  try dsimp only [slotsOf]
  refine WC.seq (WC.seq ?_)
  by_cases hk1 : (decide ((4 : Int) < (code.length : Int))) = true
  ·replace h := ifp hk1 h
   refine WC.region (lr4 rfl ?_)
   refine WL.ungd rfl rfl hk1 ?_
   refine lr1 rfl ?_
   refine WL.ungd rfl rfl hk1 ?_
   replace h := bnd h; obtain ⟨v, hvv, h⟩ := h
   refine WL.callO [(0, 0)] [(0, 0)] [0] fn46 rfl rfl rfl rfl (by exact trivial) (srcNext_con hw hvv) rfl rfl (by exact eqs) rfl rfl rfl rfl rfl rfl ?_
   refine WL.ungd rfl rfl hk1 ?_
   refine lr 2 rfl (by exact sideR) ?_
   refine nn ?_
   refine WC.thenCut (X := (List (List Str)) × Bool) (fun gG => ⟨[(8, .v (.raw (.slice none 0 0))), (7, .p 7 0), (0, .p 0 0), (1, .v (.str code)), (2, .v (.int .i64 end_))], [(0, .blk 81 [.v (.sl 1 (v.2.L.map eInt_i64)), .v (.int .i64 v.2.I)]), (7, .blk 54 [.v (.str code), .v (.int .i64 (0 : Int)), .v (.int .i64 end_), .v (.sl 1 (gG.1.map eLStr)), .v (.bool gG.2)])]⟩) (fun gG => srcEntry_j2 (srcEntry_n n) code end_ v gG.1 gG.2 = some r) ?_ ?_
   ·refine WC.cond rfl (fun hc6 => ?_) (fun hc6 => ?_)
    ·replace h := ite_t hc6 h
     refine WC.region (lr4 rfl (WL.nil ?_))
     refine WQ.weakenO 7 (.blk 54 [.v (.str code), .v (.int .i64 (0 : Int)), .v (.int .i64 end_), .v (.sl 1 ([].map eLStr)), .v (.bool true)]) rfl (LeO.blk (.cons (Le.refl _) (.cons (Le.refl _) (.cons (Le.refl _) (.cons (Le.nil 1) (.cons (Le.refl _) .nil)))))) rfl ?_
     exact WQ.cut [] ([], true) sub h
    ·replace h := ite_f hc6 h
     refine WC.skip ?_
     exact WQ.cut [] (c7_3, false) sub h
   ·rintro ⟨c7_32, c7_4⟩ h
    replace h : srcEntry_j2 (srcEntry_n n) code end_ v c7_32 c7_4 = some _ := h
    unfold srcEntry_j2 at h
    try dsimp only [slotsOf]
    refine WC.seq (sr ?_)
    refine lr 7 rfl (by exact sideR) ?_
    refine nn ?_
    refine WC.thenCut (X := (List ApiCodeEntry) × (List Int) × Int × Int × Int) (fun gG => ⟨[(8, .r 1008), (7, .p 7 0), (0, .p 0 0), (1, .v (.str code))], [(1008, .row 54 5 (gG.1.map eApiCodeEntry)), (0, .blk 81 [.v (.sl 1 (gG.2.1.map eInt_i64)), .v (.int .i64 gG.2.2.1)]), (7, .blk 54 [.v (.str code), .v (.int .i64 gG.2.2.2.1), .v (.int .i64 gG.2.2.2.2), .v (.sl 1 (c7_32.map eLStr)), .v (.bool c7_4)])]⟩) (fun gG => srcEntry_j3 (srcEntry_n n) code c7_32 c7_4 gG.1 gG.2.1 gG.2.2.1 gG.2.2.2.1 gG.2.2.2.2 = some r) ?_ ?_
    ·refine WC.cond rfl (fun hc3 => ?_) (fun hc3 => ?_)
     ·replace h := ite_t hc3 h
      refine sr (lr1 rfl ?_)
      replace h := bnd h; obtain ⟨v5, hvv5, h⟩ := h
      refine WL.callO [(0, 0)] [(0, 0)] [0] fn46 rfl rfl rfl rfl (by exact trivial) (srcNext_con hw hvv5) rfl rfl (by exact eqs) rfl rfl rfl rfl rfl rfl ?_
      refine nn (WC.block (sr (lr2 rfl (nn ?_))))
      refine WC.cond rfl (fun hc4 => ?_) (fun hc4 => ?_)
      ·replace h := ite_t hc4 h
       refine sr (lr3 rfl (ns (lr4 rfl (ns (lr1 rfl ?_)))))
       replace h := bnd h; obtain ⟨v6, hvv6, h⟩ := h
       refine WL.callO [(0, 0)] [(0, 0)] [0] fn99 rfl rfl rfl rfl (by exact trivial) (srcTerms_con hw hvv6) rfl rfl (by exact eqs) rfl rfl rfl rfl rfl rfl ?_
       refine lr2 rfl (ns (lr2 rfl (nn (WC.region (lr3 rfl ?_)))))
       obtain ⟨g5, h⟩ := grd h
       refine WL.append tbOk ([(⟨code, (0 : Int), (10 : Int), v6.1, false⟩ : ApiCodeEntry)].map eApiCodeEntry) [52] ap25 rfl rfl rfl rfl (fun _ e => by cases e) (by exact trivial) (map_cells (f := eApiCodeEntry) (xs := [(⟨code, (0 : Int), (10 : Int), v6.1, false⟩ : ApiCodeEntry)]) fun _ => rfl) (by have := g5; simp only [List.length_map, List.length_nil, List.length_cons] at this ⊢; omega) rfl rfl rfl rfl ?_
       refine lr1 rfl (WL.nil (WQ.blockNormal ?_))
       exact WQ.cut [(1008, 52)] ([(⟨code, (0 : Int), (10 : Int), v6.1, false⟩ : ApiCodeEntry)], v6.2.L, v6.2.I, (10 : Int), end_) sub h
      ·replace h := ite_f hc4 h
       refine sr (lr2 rfl (nn ?_))
       refine WC.cond rfl (fun hc5 => ?_) (fun hc5 => ?_)
       ·replace h := ite_t hc5 h
        refine WC.region (lr2 rfl (WL.nil (WQ.blockNormal ?_)))
        refine WQ.rowNil 8 1008 54 5 rfl rfl ?_
        exact WQ.cut [] ([], v5.2.L, v5.2.I, (0 : Int), (12 : Int)) sub h
       ·replace h := ite_f hc5 h
        refine WC.skip (WQ.blockNormal ?_)
        refine WQ.rowNil 8 1008 54 5 rfl rfl ?_
        exact WQ.cut [] ([], v5.2.L, v5.2.I, (0 : Int), end_) sub h
     ·replace h := ite_f hc3 h
      refine WC.skip ?_
      refine WQ.rowNil 8 1008 54 5 rfl rfl ?_
      exact WQ.cut [] ([], v.2.L, v.2.I, (0 : Int), end_) sub h
    ·rintro ⟨out, c0_02, c0_12, c7_1, c7_2⟩ h
     replace h : srcEntry_j3 (srcEntry_n n) code c7_32 c7_4 out c0_02 c0_12 c7_1 c7_2 = some _ := h
     unfold srcEntry_j3 at h
     try dsimp only [slotsOf]
     refine sr (lr3 rfl ?_)
     obtain ⟨g1, h⟩ := grd h
     refine WL.append tbOk ((out ++ [(⟨code, c7_1, c7_2, c7_32, c7_4⟩ : ApiCodeEntry)]).map eApiCodeEntry) [59, 1008] ap25 rfl rfl rfl rfl (fun _ e => by cases e; rfl) (by exact trivial) (map_cells (f := eApiCodeEntry) (xs := [(⟨code, c7_1, c7_2, c7_32, c7_4⟩ : ApiCodeEntry)]) fun _ => rfl) (by have := g1; simp only [List.length_map, List.length_nil, List.length_cons] at this ⊢; omega) rfl rfl (by simp only [List.map_append]; try rfl) rfl ?_
     refine lr1 rfl (nn (WC.seq (sr (lr3 rfl (nn ?_)))))
     refine WC.cond rfl (fun hc1 => ?_) (fun hc1 => ?_)
     ·replace h := ite_t hc1 h
      refine sr (lr2 rfl (nr (WQ.thenRet ?_)))
      refine WQ.publish 59 rfl rfl ?_
      cases h
      exact rt tbOk hR
     ·replace h := ite_f hc1 h
      refine kn (WC.seq (sr (lr1 rfl ?_)))
      replace h := bnd h; obtain ⟨v2, hvv2, h⟩ := h
      refine WL.callO [(0, 0)] [(0, 0)] [0] fn46 rfl rfl rfl rfl (by exact trivial) (srcNext_con hw hvv2) rfl rfl (by exact eqs) rfl rfl rfl rfl rfl rfl ?_
      refine lr2 rfl (nn ?_)
      refine WC.thenCut (X := (List ApiCodeEntry) × (List Int) × Int) (fun gG => ⟨[(8, .r 1008), (0, .p 0 0)], [(1008, .row 54 5 (gG.1.map eApiCodeEntry)), (0, .blk 81 [.v (.sl 1 (gG.2.1.map eInt_i64)), .v (.int .i64 gG.2.2)])]⟩) (fun gG => srcEntry_j4 (srcEntry_n n) gG.1 gG.2.1 gG.2.2 = some r) ?_ ?_
      ·refine WC.block ?_
       obtain ⟨eQ1, hl1, hk1⟩ := bnd h
       clear h
       refine WC.loop (σ := Int × (List ApiCodeEntry) × (List Int) × Int) (τ := ((List ApiCodeEntry) × (List Int) × Int)) (fun sS => ⟨[(11, .v (.int .i64 v2.1)), (10, .v (.int .i64 sS.1)), (8, .r 1008), (7, .p 7 0), (0, .p 0 0), (1, .v (.str code))], [(1008, .row 54 5 (sS.2.1.map eApiCodeEntry)), (0, .blk 81 [.v (.sl 1 (sS.2.2.1.map eInt_i64)), .v (.int .i64 sS.2.2.2)]), (7, .blk 54 [.v (.str code), .v (.int .i64 c7_1), .v (.int .i64 c7_2), .v (.sl 1 (c7_32.map eLStr)), .v (.bool c7_4)])]⟩) (srcEntry_b1 (srcEntry_n n) code c7_32 c7_4 c7_1 c7_2 v2) [(1008, 59)] ((1 : Int), (out ++ [(⟨code, c7_1, c7_2, c7_32, c7_4⟩ : ApiCodeEntry)]), v2.2.L, v2.2.I) hl1 sub ?_
       rintro ⟨i, out3, c0_04, c0_14⟩ m hn1 he1 hx1
       obtain ⟨o1, hf1⟩ := some_of hx1
       have h := hf1
       unfold srcEntry_b1 at h
       try dsimp only [slotsOf]
       refine WC.seq (sr (lr3 rfl (nn ?_)))
       refine WC.cond rfl (fun hc2 => ?_) (fun hc2 => ?_)
       ·replace h := ite_t hc2 h
        refine kn (sb (WC.region ?_))
        obtain ⟨g2, h⟩ := grd h
        refine lr 8 rfl (by repeat' (first | exact trivial | assumption | intro _ | exact g2 (by assumption) | apply And.intro | exact sideT | (refine and_i ?_ ?_))) ?_
        refine WL.q [] rfl rfl rfl (q_b2s tbOk (xs := [(IntKind.u8.wrap (IntKind.i64.wrap ((48 : Int) + i)))]) by23 rfl (by exact trivial)) ?_
        obtain ⟨g3, h⟩ := grd h
        refine lr 3 rfl (by repeat' (first | exact trivial | assumption | intro _ | exact g3 (by assumption) | apply And.intro | exact sideT | (refine and_i ?_ ?_))) ?_
        replace h := bnd h; obtain ⟨v4, hvv4, h⟩ := h
        refine WL.callO [(0, 0)] [(0, 0)] [0] fn48 rfl rfl rfl rfl (by exact trivial) (ih hvv4) rfl rfl (by exact eqs) rfl rfl rfl rfl rfl rfl ?_
        obtain ⟨g4, h⟩ := grd h
        refine WL.append tbOk ((out3 ++ v4.1).map eApiCodeEntry) [84, 1008] ap25 rfl rfl rfl rfl (fun _ e => by cases e; rfl) (by exact trivial) (map_cells (f := eApiCodeEntry) (xs := v4.1) fun _ => rfl) (by have := g4; simp only [List.length_map, List.length_nil, List.length_cons] at this ⊢; omega) rfl rfl (by simp only [List.map_append]; try rfl) rfl ?_
        refine lr1 rfl (WL.nil (bn (WC.region (lr3 rfl (WL.nil ?_)))))
        cases h
        exact WQ.next [(1008, 84)] ((IntKind.i64.wrap (i + (1 : Int))), (out3 ++ v4.1), v4.2.L, v4.2.I) sub (hn1 _ hf1)
       ·replace h := ite_f hc2 h
        refine WC.exit (WQ.thenExit ?_)
        cases h
        have he := he1 _ hf1
        subst he
        replace h := hk1
        try dsimp only at h
        refine eb ?_
        exact WQ.cut [] (out3, c0_04, c0_14) sub h
      ·rintro ⟨out2, c0_03, c0_13⟩ h
       replace h : srcEntry_j4 (srcEntry_n n) out2 c0_03 c0_13 = some _ := h
       unfold srcEntry_j4 at h
       try dsimp only [slotsOf]
       refine sr (lr2 rfl (nr ?_))
       refine WQ.publish 1008 rfl rfl ?_
       cases h
       exact rt tbOk hR
  ·replace h := ifn hk1 h
   refine WC.region (lr4 rfl ?_)
   refine WL.skipg (.v (.raw (.nilIface))) rfl rfl rfl rfl (Bool.eq_false_iff.2 hk1) ?_
   refine WL.skipg (.v (.raw (.nilIface))) rfl rfl rfl rfl (Bool.eq_false_iff.2 hk1) ?_
   refine WL.skipg (.v (.bool false)) rfl rfl rfl rfl (Bool.eq_false_iff.2 hk1) ?_
   refine lr 1 rfl (by repeat' (first | exact trivial | assumption | intro _ | (exact absurd (by assumption) hk1) | (exfalso; simp_all; done) | apply And.intro | exact sideT | (refine and_i ?_ ?_))) ?_
   refine nn ?_
   refine WC.thenCut (X := (List (List Str)) × Bool) (fun gG => ⟨[(8, .v (.raw (.slice none 0 0))), (7, .p 7 0), (0, .p 0 0), (1, .v (.str code)), (2, .v (.int .i64 end_))], [(0, .blk 81 [.v (.sl 1 (c0_0.map eInt_i64)), .v (.int .i64 c0_1)]), (7, .blk 54 [.v (.str code), .v (.int .i64 (0 : Int)), .v (.int .i64 end_), .v (.sl 1 (gG.1.map eLStr)), .v (.bool gG.2)])]⟩) (fun gG => srcEntry_j5 (srcEntry_n n) code end_ c0_0 c0_1 gG.1 gG.2 = some r) ?_ ?_
   ·refine WC.cond rfl (fun hc12 => ?_) (fun hc12 => ?_)
    ·replace h := ite_t hc12 h
     refine WC.region (lr4 rfl (WL.nil ?_))
     refine WQ.weakenO 7 (.blk 54 [.v (.str code), .v (.int .i64 (0 : Int)), .v (.int .i64 end_), .v (.sl 1 ([].map eLStr)), .v (.bool true)]) rfl (LeO.blk (.cons (Le.refl _) (.cons (Le.refl _) (.cons (Le.refl _) (.cons (Le.nil 1) (.cons (Le.refl _) .nil)))))) rfl ?_
     exact WQ.cut [] ([], true) sub h
    ·replace h := ite_f hc12 h
     refine WC.skip ?_
     exact WQ.cut [] (c7_3, false) sub h
   ·rintro ⟨c7_33, c7_42⟩ h
    replace h : srcEntry_j5 (srcEntry_n n) code end_ c0_0 c0_1 c7_33 c7_42 = some _ := h
    unfold srcEntry_j5 at h
    try dsimp only [slotsOf]
    refine WC.seq (sr ?_)
    refine lr 7 rfl (by exact sideR) ?_
    refine nn ?_
    refine WC.thenCut (X := (List ApiCodeEntry) × (List Int) × Int × Int × Int) (fun gG => ⟨[(8, .r 1008), (7, .p 7 0), (0, .p 0 0), (1, .v (.str code))], [(1008, .row 54 5 (gG.1.map eApiCodeEntry)), (0, .blk 81 [.v (.sl 1 (gG.2.1.map eInt_i64)), .v (.int .i64 gG.2.2.1)]), (7, .blk 54 [.v (.str code), .v (.int .i64 gG.2.2.2.1), .v (.int .i64 gG.2.2.2.2), .v (.sl 1 (c7_33.map eLStr)), .v (.bool c7_42)])]⟩) (fun gG => srcEntry_j6 (srcEntry_n n) code c7_33 c7_42 gG.1 gG.2.1 gG.2.2.1 gG.2.2.2.1 gG.2.2.2.2 = some r) ?_ ?_
    ·refine WC.cond rfl (fun hc9 => ?_) (fun hc9 => ?_)
     ·replace h := ite_t hc9 h
      refine sr (lr1 rfl ?_)
      replace h := bnd h; obtain ⟨v10, hvv10, h⟩ := h
      refine WL.callO [(0, 0)] [(0, 0)] [0] fn46 rfl rfl rfl rfl (by exact trivial) (srcNext_con hw hvv10) rfl rfl (by exact eqs) rfl rfl rfl rfl rfl rfl ?_
      refine nn (WC.block (sr (lr2 rfl (nn ?_))))
      refine WC.cond rfl (fun hc10 => ?_) (fun hc10 => ?_)
      ·replace h := ite_t hc10 h
       refine sr (lr3 rfl (ns (lr4 rfl (ns (lr1 rfl ?_)))))
       replace h := bnd h; obtain ⟨v11, hvv11, h⟩ := h
       refine WL.callO [(0, 0)] [(0, 0)] [0] fn99 rfl rfl rfl rfl (by exact trivial) (srcTerms_con hw hvv11) rfl rfl (by exact eqs) rfl rfl rfl rfl rfl rfl ?_
       refine lr2 rfl (ns (lr2 rfl (nn (WC.region (lr3 rfl ?_)))))
       obtain ⟨g10, h⟩ := grd h
       refine WL.append tbOk ([(⟨code, (0 : Int), (10 : Int), v11.1, false⟩ : ApiCodeEntry)].map eApiCodeEntry) [52] ap25 rfl rfl rfl rfl (fun _ e => by cases e) (by exact trivial) (map_cells (f := eApiCodeEntry) (xs := [(⟨code, (0 : Int), (10 : Int), v11.1, false⟩ : ApiCodeEntry)]) fun _ => rfl) (by have := g10; simp only [List.length_map, List.length_nil, List.length_cons] at this ⊢; omega) rfl rfl rfl rfl ?_
       refine lr1 rfl (WL.nil (WQ.blockNormal ?_))
       exact WQ.cut [(1008, 52)] ([(⟨code, (0 : Int), (10 : Int), v11.1, false⟩ : ApiCodeEntry)], v11.2.L, v11.2.I, (10 : Int), end_) sub h
      ·replace h := ite_f hc10 h
       refine sr (lr2 rfl (nn ?_))
       refine WC.cond rfl (fun hc11 => ?_) (fun hc11 => ?_)
       ·replace h := ite_t hc11 h
        refine WC.region (lr2 rfl (WL.nil (WQ.blockNormal ?_)))
        refine WQ.rowNil 8 1008 54 5 rfl rfl ?_
        exact WQ.cut [] ([], v10.2.L, v10.2.I, (0 : Int), (12 : Int)) sub h
       ·replace h := ite_f hc11 h
        refine WC.skip (WQ.blockNormal ?_)
        refine WQ.rowNil 8 1008 54 5 rfl rfl ?_
        exact WQ.cut [] ([], v10.2.L, v10.2.I, (0 : Int), end_) sub h
     ·replace h := ite_f hc9 h
      refine WC.skip ?_
      refine WQ.rowNil 8 1008 54 5 rfl rfl ?_
      exact WQ.cut [] ([], c0_0, c0_1, (0 : Int), end_) sub h
    ·rintro ⟨out6, c0_07, c0_17, c7_12, c7_22⟩ h
     replace h : srcEntry_j6 (srcEntry_n n) code c7_33 c7_42 out6 c0_07 c0_17 c7_12 c7_22 = some _ := h
     unfold srcEntry_j6 at h
     try dsimp only [slotsOf]
     refine sr (lr3 rfl ?_)
     obtain ⟨g6, h⟩ := grd h
     refine WL.append tbOk ((out6 ++ [(⟨code, c7_12, c7_22, c7_33, c7_42⟩ : ApiCodeEntry)]).map eApiCodeEntry) [59, 1008] ap25 rfl rfl rfl rfl (fun _ e => by cases e; rfl) (by exact trivial) (map_cells (f := eApiCodeEntry) (xs := [(⟨code, c7_12, c7_22, c7_33, c7_42⟩ : ApiCodeEntry)]) fun _ => rfl) (by have := g6; simp only [List.length_map, List.length_nil, List.length_cons] at this ⊢; omega) rfl rfl (by simp only [List.map_append]; try rfl) rfl ?_
     refine lr1 rfl (nn (WC.seq (sr (lr3 rfl (nn ?_)))))
     refine WC.cond rfl (fun hc7 => ?_) (fun hc7 => ?_)
     ·replace h := ite_t hc7 h
      refine sr (lr2 rfl (nr (WQ.thenRet ?_)))
      refine WQ.publish 59 rfl rfl ?_
      cases h
      exact rt tbOk hR
     ·replace h := ite_f hc7 h
      refine kn (WC.seq (sr (lr1 rfl ?_)))
      replace h := bnd h; obtain ⟨v7, hvv7, h⟩ := h
      refine WL.callO [(0, 0)] [(0, 0)] [0] fn46 rfl rfl rfl rfl (by exact trivial) (srcNext_con hw hvv7) rfl rfl (by exact eqs) rfl rfl rfl rfl rfl rfl ?_
      refine lr2 rfl (nn ?_)
      refine WC.thenCut (X := (List ApiCodeEntry) × (List Int) × Int) (fun gG => ⟨[(8, .r 1008), (0, .p 0 0)], [(1008, .row 54 5 (gG.1.map eApiCodeEntry)), (0, .blk 81 [.v (.sl 1 (gG.2.1.map eInt_i64)), .v (.int .i64 gG.2.2)])]⟩) (fun gG => srcEntry_j7 (srcEntry_n n) gG.1 gG.2.1 gG.2.2 = some r) ?_ ?_
      ·refine WC.block ?_
       obtain ⟨eQ2, hl2, hk2⟩ := bnd h
       clear h
       refine WC.loop (σ := Int × (List ApiCodeEntry) × (List Int) × Int) (τ := ((List ApiCodeEntry) × (List Int) × Int)) (fun sS => ⟨[(11, .v (.int .i64 v7.1)), (10, .v (.int .i64 sS.1)), (8, .r 1008), (7, .p 7 0), (0, .p 0 0), (1, .v (.str code))], [(1008, .row 54 5 (sS.2.1.map eApiCodeEntry)), (0, .blk 81 [.v (.sl 1 (sS.2.2.1.map eInt_i64)), .v (.int .i64 sS.2.2.2)]), (7, .blk 54 [.v (.str code), .v (.int .i64 c7_12), .v (.int .i64 c7_22), .v (.sl 1 (c7_33.map eLStr)), .v (.bool c7_42)])]⟩) (srcEntry_b2 (srcEntry_n n) code c7_33 c7_42 c7_12 c7_22 v7) [(1008, 59)] ((1 : Int), (out6 ++ [(⟨code, c7_12, c7_22, c7_33, c7_42⟩ : ApiCodeEntry)]), v7.2.L, v7.2.I) hl2 sub ?_
       rintro ⟨i3, out8, c0_09, c0_19⟩ m hn2 he2 hx2
       obtain ⟨o2, hf2⟩ := some_of hx2
       have h := hf2
       unfold srcEntry_b2 at h
       try dsimp only [slotsOf]
       refine WC.seq (sr (lr3 rfl (nn ?_)))
       refine WC.cond rfl (fun hc8 => ?_) (fun hc8 => ?_)
       ·replace h := ite_t hc8 h
        refine kn (sb (WC.region ?_))
        obtain ⟨g7, h⟩ := grd h
        refine lr 8 rfl (by repeat' (first | exact trivial | assumption | intro _ | exact g7 (by assumption) | apply And.intro | exact sideT | (refine and_i ?_ ?_))) ?_
        refine WL.q [] rfl rfl rfl (q_b2s tbOk (xs := [(IntKind.u8.wrap (IntKind.i64.wrap ((48 : Int) + i3)))]) by23 rfl (by exact trivial)) ?_
        obtain ⟨g8, h⟩ := grd h
        refine lr 3 rfl (by repeat' (first | exact trivial | assumption | intro _ | exact g8 (by assumption) | apply And.intro | exact sideT | (refine and_i ?_ ?_))) ?_
        replace h := bnd h; obtain ⟨v9, hvv9, h⟩ := h
        refine WL.callO [(0, 0)] [(0, 0)] [0] fn48 rfl rfl rfl rfl (by exact trivial) (ih hvv9) rfl rfl (by exact eqs) rfl rfl rfl rfl rfl rfl ?_
        obtain ⟨g9, h⟩ := grd h
        refine WL.append tbOk ((out8 ++ v9.1).map eApiCodeEntry) [84, 1008] ap25 rfl rfl rfl rfl (fun _ e => by cases e; rfl) (by exact trivial) (map_cells (f := eApiCodeEntry) (xs := v9.1) fun _ => rfl) (by have := g9; simp only [List.length_map, List.length_nil, List.length_cons] at this ⊢; omega) rfl rfl (by simp only [List.map_append]; try rfl) rfl ?_
        refine lr1 rfl (WL.nil (bn (WC.region (lr3 rfl (WL.nil ?_)))))
        cases h
        exact WQ.next [(1008, 84)] ((IntKind.i64.wrap (i3 + (1 : Int))), (out8 ++ v9.1), v9.2.L, v9.2.I) sub (hn2 _ hf2)
       ·replace h := ite_f hc8 h
        refine WC.exit (WQ.thenExit ?_)
        cases h
        have he := he2 _ hf2
        subst he
        replace h := hk2
        try dsimp only at h
        refine eb ?_
        exact WQ.cut [] (out8, c0_09, c0_19) sub h
      ·rintro ⟨out7, c0_08, c0_18⟩ h
       replace h : srcEntry_j7 (srcEntry_n n) out7 c0_08 c0_18 = some _ := h
       unfold srcEntry_j7 at h
       try dsimp only [slotsOf]
       refine sr (lr2 rfl (nr ?_))
       refine WQ.publish 1008 rfl rfl ?_
       cases h
       exact rt tbOk hR
theorem srcEntry_con {wg : World} (hw : WG wg) {s : CustomsmadeSource} {code : Str} {end_ : Int} {r : (List ApiCodeEntry) × CustomsmadeSource} (h : srcEntry s code end_ = some r) : Con Tryz.prog wg gl 48 [.p 0 0, .v (.str code), .v (.int .i64 end_)] [(0, .blk 81 [.v (.sl 1 (s.L.map eInt_i64)), .v (.int .i64 s.I)])] (.v (.sl 5 (r.1.map eApiCodeEntry))) [(0, .blk 81 [.v (.sl 1 (r.2.L.map eInt_i64)), .v (.int .i64 r.2.I)])] := srcEntry_n_con hw _ h
theorem srcEntryR_con {wg : World} (hw : WG wg) {s : CustomsmadeSource} {code : Str} {end_ : Int} {r : (List ApiCodeEntry) × CustomsmadeSource} (h : srcEntryR s code end_ = some r) : Con Tryz.prog wg gl 48 [.p 0 0, .v (.str code), .v (.int .i64 end_)] [(0, .blk 81 [.v (.sl 1 (s.L.map eInt_i64)), .v (.int .i64 s.I)])] (.r 500) [(0, .blk 81 [.v (.sl 1 (r.2.L.map eInt_i64)), .v (.int .i64 r.2.I)]), (500, .row 54 5 (r.1.map eApiCodeEntry))] := by
 unfold srcEntryR at h
 refine con_of_WC (S := slotsOf 0 _) Tryz.func48 rfl Tryz.ntmps48 rfl (fun t x hx => (slotsOf_get hx).2) ?_
 intro F L w ρ0 R hR
 try dsimp only [slotsOf]
 refine sr (lr1 rfl (ns (lr5 rfl (ns (lr1 rfl (nn (WC.seq (sr (lr3 rfl (nn ?_))))))))))
 refine WC.thenCut (X := (List Int) × Int × (List (List Str))) (fun gG => ⟨[(8, .v (.raw (.slice none 0 0))), (7, .p 7 0), (0, .p 0 0), (1, .v (.str code)), (2, .v (.int .i64 end_))], [(0, .blk 81 [.v (.sl 1 (gG.1.map eInt_i64)), .v (.int .i64 gG.2.1)]), (7, .blk 54 [.v (.str code), .v (.int .i64 (0 : Int)), .v (.int .i64 end_), .v (.sl 1 (gG.2.2.map eLStr)), .v (.bool false)])]⟩) (fun gG => srcEntryR_j1 code end_ gG.1 gG.2.1 gG.2.2 = some r) ?_ ?_
 ·refine WC.cond rfl (fun hc13 => ?_) (fun hc13 => ?_)
  ·replace h := ite_t hc13 h
   refine WC.region (lr1 rfl ?_)
   replace h := bnd h; obtain ⟨v12, hvv12, h⟩ := h
   refine WL.callO [(0, 0)] [(0, 0)] [0] fn99 rfl rfl rfl rfl (by exact trivial) (srcTerms_con hw hvv12) rfl rfl (by exact eqs) rfl rfl rfl rfl rfl rfl ?_
   refine lr2 rfl (WL.nil ?_)
   exact WQ.cut [] (v12.2.L, v12.2.I, v12.1) sub h
  ·replace h := ite_f hc13 h
   refine WC.skip ?_
   refine WQ.weakenO 7 (.blk 54 [.v (.str code), .v (.int .i64 (0 : Int)), .v (.int .i64 end_), .v (.sl 1 ([].map eLStr)), .v (.bool false)]) rfl (LeO.blk (.cons (Le.refl _) (.cons (Le.refl _) (.cons (Le.refl _) (.cons (Le.nil 1) (.cons (Le.refl _) .nil)))))) rfl ?_
   exact WQ.cut [] (s.L, s.I, []) sub h
 ·rintro ⟨c0_0, c0_1, c7_3⟩ h
  replace h : srcEntryR_j1 code end_ c0_0 c0_1 c7_3 = some _ := h
  unfold srcEntryR_j1 at h
  try dsimp only [slotsOf]
  refine WC.seq (WC.seq ?_)
  by_cases hk1 : (decide ((4 : Int) < (code.length : Int))) = true
  ·replace h := ifp hk1 h
   refine WC.region (lr4 rfl ?_)
   refine WL.ungd rfl rfl hk1 ?_
   refine lr1 rfl ?_
   refine WL.ungd rfl rfl hk1 ?_
   replace h := bnd h; obtain ⟨v, hvv, h⟩ := h
   refine WL.callO [(0, 0)] [(0, 0)] [0] fn46 rfl rfl rfl rfl (by exact trivial) (srcNext_con hw hvv) rfl rfl (by exact eqs) rfl rfl rfl rfl rfl rfl ?_
   refine WL.ungd rfl rfl hk1 ?_
   refine lr 2 rfl (by exact sideR) ?_
   refine nn ?_
   refine WC.thenCut (X := (List (List Str)) × Bool) (fun gG => ⟨[(8, .v (.raw (.slice none 0 0))), (7, .p 7 0), (0, .p 0 0), (1, .v (.str code)), (2, .v (.int .i64 end_))], [(0, .blk 81 [.v (.sl 1 (v.2.L.map eInt_i64)), .v (.int .i64 v.2.I)]), (7, .blk 54 [.v (.str code), .v (.int .i64 (0 : Int)), .v (.int .i64 end_), .v (.sl 1 (gG.1.map eLStr)), .v (.bool gG.2)])]⟩) (fun gG => srcEntryR_j2 code end_ v gG.1 gG.2 = some r) ?_ ?_
   ·refine WC.cond rfl (fun hc6 => ?_) (fun hc6 => ?_)
    ·replace h := ite_t hc6 h
     refine WC.region (lr4 rfl (WL.nil ?_))
     refine WQ.weakenO 7 (.blk 54 [.v (.str code), .v (.int .i64 (0 : Int)), .v (.int .i64 end_), .v (.sl 1 ([].map eLStr)), .v (.bool true)]) rfl (LeO.blk (.cons (Le.refl _) (.cons (Le.refl _) (.cons (Le.refl _) (.cons (Le.nil 1) (.cons (Le.refl _) .nil)))))) rfl ?_
     exact WQ.cut [] ([], true) sub h
    ·replace h := ite_f hc6 h
     refine WC.skip ?_
     exact WQ.cut [] (c7_3, false) sub h
   ·rintro ⟨c7_32, c7_4⟩ h
    replace h : srcEntryR_j2 code end_ v c7_32 c7_4 = some _ := h
    unfold srcEntryR_j2 at h
    try dsimp only [slotsOf]
    refine WC.seq (sr ?_)
    refine lr 7 rfl (by exact sideR) ?_
    refine nn ?_
    refine WC.thenCut (X := (List ApiCodeEntry) × (List Int) × Int × Int × Int) (fun gG => ⟨[(8, .r 1008), (7, .p 7 0), (0, .p 0 0), (1, .v (.str code))], [(1008, .row 54 5 (gG.1.map eApiCodeEntry)), (0, .blk 81 [.v (.sl 1 (gG.2.1.map eInt_i64)), .v (.int .i64 gG.2.2.1)]), (7, .blk 54 [.v (.str code), .v (.int .i64 gG.2.2.2.1), .v (.int .i64 gG.2.2.2.2), .v (.sl 1 (c7_32.map eLStr)), .v (.bool c7_4)])]⟩) (fun gG => srcEntryR_j3 code c7_32 c7_4 gG.1 gG.2.1 gG.2.2.1 gG.2.2.2.1 gG.2.2.2.2 = some r) ?_ ?_
    ·refine WC.cond rfl (fun hc3 => ?_) (fun hc3 => ?_)
     ·replace h := ite_t hc3 h
      refine sr (lr1 rfl ?_)
      replace h := bnd h; obtain ⟨v5, hvv5, h⟩ := h
      refine WL.callO [(0, 0)] [(0, 0)] [0] fn46 rfl rfl rfl rfl (by exact trivial) (srcNext_con hw hvv5) rfl rfl (by exact eqs) rfl rfl rfl rfl rfl rfl ?_
      refine nn (WC.block (sr (lr2 rfl (nn ?_))))
      refine WC.cond rfl (fun hc4 => ?_) (fun hc4 => ?_)
      ·replace h := ite_t hc4 h
       refine sr (lr3 rfl (ns (lr4 rfl (ns (lr1 rfl ?_)))))
       replace h := bnd h; obtain ⟨v6, hvv6, h⟩ := h
       refine WL.callO [(0, 0)] [(0, 0)] [0] fn99 rfl rfl rfl rfl (by exact trivial) (srcTerms_con hw hvv6) rfl rfl (by exact eqs) rfl rfl rfl rfl rfl rfl ?_
       refine lr2 rfl (ns (lr2 rfl (nn (WC.region (lr3 rfl ?_)))))
       obtain ⟨g5, h⟩ := grd h
       refine WL.append tbOk ([(⟨code, (0 : Int), (10 : Int), v6.1, false⟩ : ApiCodeEntry)].map eApiCodeEntry) [52] ap25 rfl rfl rfl rfl (fun _ e => by cases e) (by exact trivial) (map_cells (f := eApiCodeEntry) (xs := [(⟨code, (0 : Int), (10 : Int), v6.1, false⟩ : ApiCodeEntry)]) fun _ => rfl) (by have := g5; simp only [List.length_map, List.length_nil, List.length_cons] at this ⊢; omega) rfl rfl rfl rfl ?_
       refine lr1 rfl (WL.nil (WQ.blockNormal ?_))
       exact WQ.cut [(1008, 52)] ([(⟨code, (0 : Int), (10 : Int), v6.1, false⟩ : ApiCodeEntry)], v6.2.L, v6.2.I, (10 : Int), end_) sub h
      ·replace h := ite_f hc4 h
       refine sr (lr2 rfl (nn ?_))
       refine WC.cond rfl (fun hc5 => ?_) (fun hc5 => ?_)
       ·replace h := ite_t hc5 h
        refine WC.region (lr2 rfl (WL.nil (WQ.blockNormal ?_)))
        refine WQ.rowNil 8 1008 54 5 rfl rfl ?_
        exact WQ.cut [] ([], v5.2.L, v5.2.I, (0 : Int), (12 : Int)) sub h
       ·replace h := ite_f hc5 h
        refine WC.skip (WQ.blockNormal ?_)
        refine WQ.rowNil 8 1008 54 5 rfl rfl ?_
        exact WQ.cut [] ([], v5.2.L, v5.2.I, (0 : Int), end_) sub h
     ·replace h := ite_f hc3 h
      refine WC.skip ?_
      refine WQ.rowNil 8 1008 54 5 rfl rfl ?_
      exact WQ.cut [] ([], v.2.L, v.2.I, (0 : Int), end_) sub h
    ·rintro ⟨out, c0_02, c0_12, c7_1, c7_2⟩ h
     replace h : srcEntryR_j3 code c7_32 c7_4 out c0_02 c0_12 c7_1 c7_2 = some _ := h
     unfold srcEntryR_j3 at h
     try dsimp only [slotsOf]
     refine sr (lr3 rfl ?_)
     obtain ⟨g1, h⟩ := grd h
     refine WL.append tbOk ((out ++ [(⟨code, c7_1, c7_2, c7_32, c7_4⟩ : ApiCodeEntry)]).map eApiCodeEntry) [59, 1008] ap25 rfl rfl rfl rfl (fun _ e => by cases e; rfl) (by exact trivial) (map_cells (f := eApiCodeEntry) (xs := [(⟨code, c7_1, c7_2, c7_32, c7_4⟩ : ApiCodeEntry)]) fun _ => rfl) (by have := g1; simp only [List.length_map, List.length_nil, List.length_cons] at this ⊢; omega) rfl rfl (by simp only [List.map_append]; try rfl) rfl ?_
     refine lr1 rfl (nn (WC.seq (sr (lr3 rfl (nn ?_)))))
     refine WC.cond rfl (fun hc1 => ?_) (fun hc1 => ?_)
     ·replace h := ite_t hc1 h
      refine sr (lr2 rfl (nr (WQ.thenRet ?_)))
      cases h
      exact WQ.rets tbOk hR [(500, 59)] (.inl rfl) rfl rfl (Le.refl _) (by exact eqs) rfl rfl rfl rfl
     ·replace h := ite_f hc1 h
      refine kn (WC.seq (sr (lr1 rfl ?_)))
      replace h := bnd h; obtain ⟨v2, hvv2, h⟩ := h
      refine WL.callO [(0, 0)] [(0, 0)] [0] fn46 rfl rfl rfl rfl (by exact trivial) (srcNext_con hw hvv2) rfl rfl (by exact eqs) rfl rfl rfl rfl rfl rfl ?_
      refine lr2 rfl (nn ?_)
      refine WC.thenCut (X := (List ApiCodeEntry) × (List Int) × Int) (fun gG => ⟨[(8, .r 1008), (0, .p 0 0)], [(1008, .row 54 5 (gG.1.map eApiCodeEntry)), (0, .blk 81 [.v (.sl 1 (gG.2.1.map eInt_i64)), .v (.int .i64 gG.2.2)])]⟩) (fun gG => srcEntryR_j4 gG.1 gG.2.1 gG.2.2 = some r) ?_ ?_
      ·refine WC.block ?_
       obtain ⟨eQ1, hl1, hk1⟩ := bnd h
       clear h
       refine WC.loop (σ := Int × (List ApiCodeEntry) × (List Int) × Int) (τ := ((List ApiCodeEntry) × (List Int) × Int)) (fun sS => ⟨[(11, .v (.int .i64 v2.1)), (10, .v (.int .i64 sS.1)), (8, .r 1008), (7, .p 7 0), (0, .p 0 0), (1, .v (.str code))], [(1008, .row 54 5 (sS.2.1.map eApiCodeEntry)), (0, .blk 81 [.v (.sl 1 (sS.2.2.1.map eInt_i64)), .v (.int .i64 sS.2.2.2)]), (7, .blk 54 [.v (.str code), .v (.int .i64 c7_1), .v (.int .i64 c7_2), .v (.sl 1 (c7_32.map eLStr)), .v (.bool c7_4)])]⟩) (srcEntryR_b1 code c7_32 c7_4 c7_1 c7_2 v2) [(1008, 59)] ((1 : Int), (out ++ [(⟨code, c7_1, c7_2, c7_32, c7_4⟩ : ApiCodeEntry)]), v2.2.L, v2.2.I) hl1 sub ?_
       rintro ⟨i, out3, c0_04, c0_14⟩ m hn1 he1 hx1
       obtain ⟨o1, hf1⟩ := some_of hx1
       have h := hf1
       unfold srcEntryR_b1 at h
       try dsimp only [slotsOf]
       refine WC.seq (sr (lr3 rfl (nn ?_)))
       refine WC.cond rfl (fun hc2 => ?_) (fun hc2 => ?_)
       ·replace h := ite_t hc2 h
        refine kn (sb (WC.region ?_))
        obtain ⟨g2, h⟩ := grd h
        refine lr 8 rfl (by repeat' (first | exact trivial | assumption | intro _ | exact g2 (by assumption) | apply And.intro | exact sideT | (refine and_i ?_ ?_))) ?_
        refine WL.q [] rfl rfl rfl (q_b2s tbOk (xs := [(IntKind.u8.wrap (IntKind.i64.wrap ((48 : Int) + i)))]) by23 rfl (by exact trivial)) ?_
        obtain ⟨g3, h⟩ := grd h
        refine lr 3 rfl (by repeat' (first | exact trivial | assumption | intro _ | exact g3 (by assumption) | apply And.intro | exact sideT | (refine and_i ?_ ?_))) ?_
        replace h := bnd h; obtain ⟨v4, hvv4, h⟩ := h
        refine WL.callO [(0, 0)] [(0, 0)] [0] fn48 rfl rfl rfl rfl (by exact trivial) (srcEntry_con hw hvv4) rfl rfl (by exact eqs) rfl rfl rfl rfl rfl rfl ?_
        obtain ⟨g4, h⟩ := grd h
        refine WL.append tbOk ((out3 ++ v4.1).map eApiCodeEntry) [84, 1008] ap25 rfl rfl rfl rfl (fun _ e => by cases e; rfl) (by exact trivial) (map_cells (f := eApiCodeEntry) (xs := v4.1) fun _ => rfl) (by have := g4; simp only [List.length_map, List.length_nil, List.length_cons] at this ⊢; omega) rfl rfl (by simp only [List.map_append]; try rfl) rfl ?_
        refine lr1 rfl (WL.nil (bn (WC.region (lr3 rfl (WL.nil ?_)))))
        cases h
        exact WQ.next [(1008, 84)] ((IntKind.i64.wrap (i + (1 : Int))), (out3 ++ v4.1), v4.2.L, v4.2.I) sub (hn1 _ hf1)
       ·replace h := ite_f hc2 h
        refine WC.exit (WQ.thenExit ?_)
        cases h
        have he := he1 _ hf1
        subst he
        replace h := hk1
        try dsimp only at h
        refine eb ?_
        exact WQ.cut [] (out3, c0_04, c0_14) sub h
      ·rintro ⟨out2, c0_03, c0_13⟩ h
       replace h : srcEntryR_j4 out2 c0_03 c0_13 = some _ := h
       unfold srcEntryR_j4 at h
       try dsimp only [slotsOf]
       refine sr (lr2 rfl (nr ?_))
       cases h
       exact WQ.rets tbOk hR [(500, 1008)] (.inl rfl) rfl rfl (Le.refl _) (by exact eqs) rfl rfl rfl rfl
  ·replace h := ifn hk1 h
   refine WC.region (lr4 rfl ?_)
   refine WL.skipg (.v (.raw (.nilIface))) rfl rfl rfl rfl (Bool.eq_false_iff.2 hk1) ?_
   refine WL.skipg (.v (.raw (.nilIface))) rfl rfl rfl rfl (Bool.eq_false_iff.2 hk1) ?_
   refine WL.skipg (.v (.bool false)) rfl rfl rfl rfl (Bool.eq_false_iff.2 hk1) ?_
   refine lr 1 rfl (by repeat' (first | exact trivial | assumption | intro _ | (exact absurd (by assumption) hk1) | (exfalso; simp_all; done) | apply And.intro | exact sideT | (refine and_i ?_ ?_))) ?_
   refine nn ?_
   refine WC.thenCut (X := (List (List Str)) × Bool) (fun gG => ⟨[(8, .v (.raw (.slice none 0 0))), (7, .p 7 0), (0, .p 0 0), (1, .v (.str code)), (2, .v (.int .i64 end_))], [(0, .blk 81 [.v (.sl 1 (c0_0.map eInt_i64)), .v (.int .i64 c0_1)]), (7, .blk 54 [.v (.str code), .v (.int .i64 (0 : Int)), .v (.int .i64 end_), .v (.sl 1 (gG.1.map eLStr)), .v (.bool gG.2)])]⟩) (fun gG => srcEntryR_j5 code end_ c0_0 c0_1 gG.1 gG.2 = some r) ?_ ?_
   ·refine WC.cond rfl (fun hc12 => ?_) (fun hc12 => ?_)
    ·replace h := ite_t hc12 h
     refine WC.region (lr4 rfl (WL.nil ?_))
     refine WQ.weakenO 7 (.blk 54 [.v (.str code), .v (.int .i64 (0 : Int)), .v (.int .i64 end_), .v (.sl 1 ([].map eLStr)), .v (.bool true)]) rfl (LeO.blk (.cons (Le.refl _) (.cons (Le.refl _) (.cons (Le.refl _) (.cons (Le.nil 1) (.cons (Le.refl _) .nil)))))) rfl ?_
     exact WQ.cut [] ([], true) sub h
    ·replace h := ite_f hc12 h
     refine WC.skip ?_
     exact WQ.cut [] (c7_3, false) sub h
   ·rintro ⟨c7_33, c7_42⟩ h
    replace h : srcEntryR_j5 code end_ c0_0 c0_1 c7_33 c7_42 = some _ := h
    unfold srcEntryR_j5 at h
    try dsimp only [slotsOf]
    refine WC.seq (sr ?_)
    refine lr 7 rfl (by exact sideR) ?_
    refine nn ?_
    refine WC.thenCut (X := (List ApiCodeEntry) × (List Int) × Int × Int × Int) (fun gG => ⟨[(8, .r 1008), (7, .p 7 0), (0, .p 0 0), (1, .v (.str code))], [(1008, .row 54 5 (gG.1.map eApiCodeEntry)), (0, .blk 81 [.v (.sl 1 (gG.2.1.map eInt_i64)), .v (.int .i64 gG.2.2.1)]), (7, .blk 54 [.v (.str code), .v (.int .i64 gG.2.2.2.1), .v (.int .i64 gG.2.2.2.2), .v (.sl 1 (c7_33.map eLStr)), .v (.bool c7_42)])]⟩) (fun gG => srcEntryR_j6 code c7_33 c7_42 gG.1 gG.2.1 gG.2.2.1 gG.2.2.2.1 gG.2.2.2.2 = some r) ?_ ?_
    ·refine WC.cond rfl (fun hc9 => ?_) (fun hc9 => ?_)
     ·replace h := ite_t hc9 h
      refine sr (lr1 rfl ?_)
      replace h := bnd h; obtain ⟨v10, hvv10, h⟩ := h
      refine WL.callO [(0, 0)] [(0, 0)] [0] fn46 rfl rfl rfl rfl (by exact trivial) (srcNext_con hw hvv10) rfl rfl (by exact eqs) rfl rfl rfl rfl rfl rfl ?_
      refine nn (WC.block (sr (lr2 rfl (nn ?_))))
      refine WC.cond rfl (fun hc10 => ?_) (fun hc10 => ?_)
      ·replace h := ite_t hc10 h
       refine sr (lr3 rfl (ns (lr4 rfl (ns (lr1 rfl ?_)))))
       replace h := bnd h; obtain ⟨v11, hvv11, h⟩ := h
       refine WL.callO [(0, 0)] [(0, 0)] [0] fn99 rfl rfl rfl rfl (by exact trivial) (srcTerms_con hw hvv11) rfl rfl (by exact eqs) rfl rfl rfl rfl rfl rfl ?_
       refine lr2 rfl (ns (lr2 rfl (nn (WC.region (lr3 rfl ?_)))))
       obtain ⟨g10, h⟩ := grd h
       refine WL.append tbOk ([(⟨code, (0 : Int), (10 : Int), v11.1, false⟩ : ApiCodeEntry)].map eApiCodeEntry) [52] ap25 rfl rfl rfl rfl (fun _ e => by cases e) (by exact trivial) (map_cells (f := eApiCodeEntry) (xs := [(⟨code, (0 : Int), (10 : Int), v11.1, false⟩ : ApiCodeEntry)]) fun _ => rfl) (by have := g10; simp only [List.length_map, List.length_nil, List.length_cons] at this ⊢; omega) rfl rfl rfl rfl ?_
       refine lr1 rfl (WL.nil (WQ.blockNormal ?_))
       exact WQ.cut [(1008, 52)] ([(⟨code, (0 : Int), (10 : Int), v11.1, false⟩ : ApiCodeEntry)], v11.2.L, v11.2.I, (10 : Int), end_) sub h
      ·replace h := ite_f hc10 h
       refine sr (lr2 rfl (nn ?_))
       refine WC.cond rfl (fun hc11 => ?_) (fun hc11 => ?_)
       ·replace h := ite_t hc11 h
        refine WC.region (lr2 rfl (WL.nil (WQ.blockNormal ?_)))
        refine WQ.rowNil 8 1008 54 5 rfl rfl ?_
        exact WQ.cut [] ([], v10.2.L, v10.2.I, (0 : Int), (12 : Int)) sub h
       ·replace h := ite_f hc11 h
        refine WC.skip (WQ.blockNormal ?_)
        refine WQ.rowNil 8 1008 54 5 rfl rfl ?_
        exact WQ.cut [] ([], v10.2.L, v10.2.I, (0 : Int), end_) sub h
     ·replace h := ite_f hc9 h
      refine WC.skip ?_
      refine WQ.rowNil 8 1008 54 5 rfl rfl ?_
      exact WQ.cut [] ([], c0_0, c0_1, (0 : Int), end_) sub h
    ·rintro ⟨out6, c0_07, c0_17, c7_12, c7_22⟩ h
     replace h : srcEntryR_j6 code c7_33 c7_42 out6 c0_07 c0_17 c7_12 c7_22 = some _ := h
     unfold srcEntryR_j6 at h
     try dsimp only [slotsOf]
     refine sr (lr3 rfl ?_)
     obtain ⟨g6, h⟩ := grd h
     refine WL.append tbOk ((out6 ++ [(⟨code, c7_12, c7_22, c7_33, c7_42⟩ : ApiCodeEntry)]).map eApiCodeEntry) [59, 1008] ap25 rfl rfl rfl rfl (fun _ e => by cases e; rfl) (by exact trivial) (map_cells (f := eApiCodeEntry) (xs := [(⟨code, c7_12, c7_22, c7_33, c7_42⟩ : ApiCodeEntry)]) fun _ => rfl) (by have := g6; simp only [List.length_map, List.length_nil, List.length_cons] at this ⊢; omega) rfl rfl (by simp only [List.map_append]; try rfl) rfl ?_
     refine lr1 rfl (nn (WC.seq (sr (lr3 rfl (nn ?_)))))
     refine WC.cond rfl (fun hc7 => ?_) (fun hc7 => ?_)
     ·replace h := ite_t hc7 h
      refine sr (lr2 rfl (nr (WQ.thenRet ?_)))
      cases h
      exact WQ.rets tbOk hR [(500, 59)] (.inl rfl) rfl rfl (Le.refl _) (by exact eqs) rfl rfl rfl rfl
     ·replace h := ite_f hc7 h
      refine kn (WC.seq (sr (lr1 rfl ?_)))
      replace h := bnd h; obtain ⟨v7, hvv7, h⟩ := h
      refine WL.callO [(0, 0)] [(0, 0)] [0] fn46 rfl rfl rfl rfl (by exact trivial) (srcNext_con hw hvv7) rfl rfl (by exact eqs) rfl rfl rfl rfl rfl rfl ?_
      refine lr2 rfl (nn ?_)
      refine WC.thenCut (X := (List ApiCodeEntry) × (List Int) × Int) (fun gG => ⟨[(8, .r 1008), (0, .p 0 0)], [(1008, .row 54 5 (gG.1.map eApiCodeEntry)), (0, .blk 81 [.v (.sl 1 (gG.2.1.map eInt_i64)), .v (.int .i64 gG.2.2)])]⟩) (fun gG => srcEntryR_j7 gG.1 gG.2.1 gG.2.2 = some r) ?_ ?_
      ·refine WC.block ?_
       obtain ⟨eQ2, hl2, hk2⟩ := bnd h
       clear h
       refine WC.loop (σ := Int × (List ApiCodeEntry) × (List Int) × Int) (τ := ((List ApiCodeEntry) × (List Int) × Int)) (fun sS => ⟨[(11, .v (.int .i64 v7.1)), (10, .v (.int .i64 sS.1)), (8, .r 1008), (7, .p 7 0), (0, .p 0 0), (1, .v (.str code))], [(1008, .row 54 5 (sS.2.1.map eApiCodeEntry)), (0, .blk 81 [.v (.sl 1 (sS.2.2.1.map eInt_i64)), .v (.int .i64 sS.2.2.2)]), (7, .blk 54 [.v (.str code), .v (.int .i64 c7_12), .v (.int .i64 c7_22), .v (.sl 1 (c7_33.map eLStr)), .v (.bool c7_42)])]⟩) (srcEntryR_b2 code c7_33 c7_42 c7_12 c7_22 v7) [(1008, 59)] ((1 : Int), (out6 ++ [(⟨code, c7_12, c7_22, c7_33, c7_42⟩ : ApiCodeEntry)]), v7.2.L, v7.2.I) hl2 sub ?_
       rintro ⟨i3, out8, c0_09, c0_19⟩ m hn2 he2 hx2
       obtain ⟨o2, hf2⟩ := some_of hx2
       have h := hf2
       unfold srcEntryR_b2 at h
       try dsimp only [slotsOf]
       refine WC.seq (sr (lr3 rfl (nn ?_)))
       refine WC.cond rfl (fun hc8 => ?_) (fun hc8 => ?_)
       ·replace h := ite_t hc8 h
        refine kn (sb (WC.region ?_))
        obtain ⟨g7, h⟩ := grd h
        refine lr 8 rfl (by repeat' (first | exact trivial | assumption | intro _ | exact g7 (by assumption) | apply And.intro | exact sideT | (refine and_i ?_ ?_))) ?_
        refine WL.q [] rfl rfl rfl (q_b2s tbOk (xs := [(IntKind.u8.wrap (IntKind.i64.wrap ((48 : Int) + i3)))]) by23 rfl (by exact trivial)) ?_
        obtain ⟨g8, h⟩ := grd h
        refine lr 3 rfl (by repeat' (first | exact trivial | assumption | intro _ | exact g8 (by assumption) | apply And.intro | exact sideT | (refine and_i ?_ ?_))) ?_
        replace h := bnd h; obtain ⟨v9, hvv9, h⟩ := h
        refine WL.callO [(0, 0)] [(0, 0)] [0] fn48 rfl rfl rfl rfl (by exact trivial) (srcEntry_con hw hvv9) rfl rfl (by exact eqs) rfl rfl rfl rfl rfl rfl ?_
        obtain ⟨g9, h⟩ := grd h
        refine WL.append tbOk ((out8 ++ v9.1).map eApiCodeEntry) [84, 1008] ap25 rfl rfl rfl rfl (fun _ e => by cases e; rfl) (by exact trivial) (map_cells (f := eApiCodeEntry) (xs := v9.1) fun _ => rfl) (by have := g9; simp only [List.length_map, List.length_nil, List.length_cons] at this ⊢; omega) rfl rfl (by simp only [List.map_append]; try rfl) rfl ?_
        refine lr1 rfl (WL.nil (bn (WC.region (lr3 rfl (WL.nil ?_)))))
        cases h
        exact WQ.next [(1008, 84)] ((IntKind.i64.wrap (i3 + (1 : Int))), (out8 ++ v9.1), v9.2.L, v9.2.I) sub (hn2 _ hf2)
       ·replace h := ite_f hc8 h
        refine WC.exit (WQ.thenExit ?_)
        cases h
        have he := he2 _ hf2
        subst he
        replace h := hk2
        try dsimp only at h
        refine eb ?_
        exact WQ.cut [] (out8, c0_09, c0_19) sub h
      ·rintro ⟨out7, c0_08, c0_18⟩ h
       replace h : srcEntryR_j7 out7 c0_08 c0_18 = some _ := h
       unfold srcEntryR_j7 at h
       try dsimp only [slotsOf]
       refine sr (lr2 rfl (nr ?_))
       cases h
       exact WQ.rets tbOk hR [(500, 1008)] (.inl rfl) rfl rfl (Le.refl _) (by exact eqs) rfl rfl rfl rfl
theorem madeNom_con {wg : World} (hw : WG wg) {l : (List Int)} {r : ApiNomenclature} (h : madeNom l = some r) : Con Tryz.prog wg gl 13 [.v (.sl 1 (l.map eInt_i64))] [] (.v (.agg [.sl 5 (r.Entries.map eApiCodeEntry), .sl 3 (r.Notes.map eApiCodeNote)])) [] := by
 unfold madeNom at h
 refine con_of_WC (S := slotsOf 0 _) Tryz.func13 rfl Tryz.ntmps13 rfl (fun t x hx => (slotsOf_get hx).2) ?_
 intro F L w ρ0 R hR
 try dsimp only [slotsOf]
 refine sr (lr1 rfl (ns (lr1 rfl ?_)))
 replace h := bnd h; obtain ⟨v, hvv, h⟩ := h
 refine WL.call0 fn45 rfl rfl rfl rfl (by exact trivial) rfl (madeCut_con hw hvv) ?_
 refine lr3 rfl (ns (lr3 rfl (nn (WC.seq (sr (lr1 rfl ?_))))))
 replace h := bnd h; obtain ⟨v2, hvv2, h⟩ := h
 refine WL.callO [(0, 10)] [(0, 10)] [10] fn46 rfl rfl rfl rfl (by exact trivial) (srcNext_con hw hvv2) rfl rfl (by exact eqs) rfl rfl rfl rfl rfl rfl ?_
 refine lr1 rfl (nn ?_)
 refine WC.thenCut (X := (List Int) × Int × (List ApiCodeNote)) (fun gG => ⟨[(4, .p 4 0), (3, .p 10 0), (2, .p 2 0)], [(10, .blk 81 [.v (.sl 1 (gG.1.map eInt_i64)), .v (.int .i64 gG.2.1)]), (2, .blk 28 [.v (.raw (.slice none 0 0)), .v (.raw (.slice none 0 0))]), (2201, .row 77 3 (gG.2.2.map eApiCodeNote)), (4, .blk 28 [.v (.raw (.slice none 0 0)), .r 2201])]⟩) (fun gG => madeNom_j1 gG.1 gG.2.1 gG.2.2 = some r) ?_ ?_
 ·refine WC.block ?_
  obtain ⟨eQ1, hl1, hk1⟩ := bnd h
  clear h
  refine WC.rowNilB 4 1 2201 77 3 rfl rfl rfl (cs2 := [.v (.raw (.slice none 0 0)), .r 2201]) rfl ?_
  refine WC.loop (σ := Int × (List Int) × Int × (List ApiCodeNote)) (τ := ((List Int) × Int × (List ApiCodeNote))) (fun sS => ⟨[(5, .v (.int .i64 sS.1)), (4, .p 4 0), (3, .p 10 0), (2, .p 2 0)], [(10, .blk 81 [.v (.sl 1 (sS.2.1.map eInt_i64)), .v (.int .i64 sS.2.2.1)]), (2, .blk 28 [.v (.raw (.slice none 0 0)), .v (.raw (.slice none 0 0))]), (2201, .row 77 3 (sS.2.2.2.map eApiCodeNote)), (4, .blk 28 [.v (.raw (.slice none 0 0)), .r 2201])]⟩) (madeNom_b1) [] (v2.1, v2.2.L, v2.2.I, []) hl1 sub ?_
  rintro ⟨n12, c10_04, c10_14, c4_12⟩ m hn1 he1 hx1
  obtain ⟨o1, hf1⟩ := some_of hx1
  have h := hf1
  unfold madeNom_b1 at h
  try dsimp only [slotsOf]
  refine WC.seq (sr (lr2 rfl (nn ?_)))
  refine WC.cond rfl (fun hc1 => ?_) (fun hc1 => ?_)
  ·replace h := ite_t hc1 h
   refine kn (sb (WC.seq (WC.order mixed ?_)))
   refine wr 2 rfl trivial ?_
   replace h := bnd h; obtain ⟨v13, hvv13, h⟩ := h
   refine WR.callO [(0, 10)] [(0, 10)] [10] fn46 rfl rfl rfl rfl (by exact trivial) (srcNext_con hw hvv13) rfl rfl (by exact eqs) rfl rfl rfl rfl rfl rfl ?_
   obtain ⟨g2, h⟩ := grd h
   replace h := bnd h; obtain ⟨x5, hxx5, h⟩ := h
   refine WR.q [] rfl rfl rfl (q_idx tbOk rfl (by exact trivial) g2 (map_get (f := eStr) hxx5)) ?_
   refine wr 2 rfl trivial ?_
   replace h := bnd h; obtain ⟨v14, hvv14, h⟩ := h
   refine WR.callO [(0, 10)] [(0, 10)] [10] fn47 rfl rfl rfl rfl (by exact trivial) (srcWords_con hw hvv14) rfl rfl (by exact eqs) rfl rfl rfl rfl rfl rfl ?_
   refine wr 3 rfl trivial ?_
   refine WR.nil (by kernel_rfl) (WQ.thenNormal (WC.seq (sr (lr1 rfl ?_))))
   replace h := bnd h; obtain ⟨v15, hvv15, h⟩ := h
   refine WL.callO [(0, 10)] [(0, 10)] [10] fn46 rfl rfl rfl rfl (by exact trivial) (srcNext_con hw hvv15) rfl rfl (by exact eqs) rfl rfl rfl rfl rfl rfl ?_
   refine lr1 rfl (nn ?_)
   refine WC.thenCut (X := (List Int) × Int × (List ApiCodeNote) × Str) (fun gG => ⟨[(6, .p 6 0), (5, .v (.int .i64 n12)), (4, .p 4 0), (3, .p 10 0), (2, .p 2 0)], [(10, .blk 81 [.v (.sl 1 (gG.1.map eInt_i64)), .v (.int .i64 gG.2.1)]), (2, .blk 28 [.v (.raw (.slice none 0 0)), .v (.raw (.slice none 0 0))]), (2201, .row 77 3 (gG.2.2.1.map eApiCodeNote)), (4, .blk 28 [.v (.raw (.slice none 0 0)), .r 2201]), (6, .blk 77 [.v (.str x5), .v (.sl 1 (v14.1.map eStr)), .v (.str gG.2.2.2)])]⟩) (fun gG => madeNom_j2 n12 x5 v14 gG.1 gG.2.1 gG.2.2.1 gG.2.2.2 = some o1) ?_ ?_
   ·refine WC.cond rfl (fun hc2 => ?_) (fun hc2 => ?_)
    ·replace h := ite_t hc2 h
     refine WC.region (lr2 rfl ?_)
     replace h := bnd h; obtain ⟨v16, hvv16, h⟩ := h
     refine WL.callO [(0, 10)] [(0, 10)] [10] fn46 rfl rfl rfl rfl (by exact trivial) (srcNext_con hw hvv16) rfl rfl (by exact eqs) rfl rfl rfl rfl rfl rfl ?_
     obtain ⟨g4, h⟩ := grd h
     replace h := bnd h; obtain ⟨x6, hxx6, h⟩ := h
     refine WL.q [] rfl rfl rfl (q_idx tbOk rfl (by exact trivial) g4 (map_get (f := eStr) hxx6)) ?_
     refine lr3 rfl (WL.nil ?_)
     exact WQ.cut [] (v16.2.L, v16.2.I, c4_12, x6) sub h
    ·replace h := ite_f hc2 h
     refine WC.skip ?_
     exact WQ.cut [] (v15.2.L, v15.2.I, c4_12, []) sub h
   ·rintro ⟨c10_07, c10_17, c4_15, c6_23⟩ h
    replace h : madeNom_j2 n12 x5 v14 c10_07 c10_17 c4_15 c6_23 = some _ := h
    unfold madeNom_j2 at h
    try dsimp only [slotsOf]
    refine WC.region (lr4 rfl ?_)
    obtain ⟨g3, h⟩ := grd h
    refine WL.append tbOk ((c4_15 ++ [(⟨x5, v14.1, c6_23⟩ : ApiCodeNote)]).map eApiCodeNote) [39, 2201] ap26 rfl rfl rfl rfl (fun _ e => by cases e; rfl) (by exact trivial) (map_cells (f := eApiCodeNote) (xs := [(⟨x5, v14.1, c6_23⟩ : ApiCodeNote)]) fun _ => rfl) (by have := g3; simp only [List.length_map, List.length_nil, List.length_cons] at this ⊢; omega) rfl rfl (by simp only [List.map_append]; try rfl) rfl ?_
    refine lr2 rfl (WL.nil (bn (WC.region (lr3 rfl (WL.nil ?_)))))
    cases h
    exact WQ.next [(2201, 39)] ((IntKind.i64.wrap (n12 - (1 : Int))), c10_07, c10_17, (c4_15 ++ [(⟨x5, v14.1, c6_23⟩ : ApiCodeNote)])) sub (hn1 _ hf1)
  ·replace h := ite_f hc1 h
   refine WC.exit (WQ.thenExit ?_)
   cases h
   have he := he1 _ hf1
   subst he
   replace h := hk1
   try dsimp only at h
   refine eb ?_
   exact WQ.cut [] (c10_04, c10_14, c4_12) sub h
 ·rintro ⟨c10_0, c10_1, c4_1⟩ h
  replace h : madeNom_j1 c10_0 c10_1 c4_1 = some _ := h
  unfold madeNom_j1 at h
  try dsimp only [slotsOf]
  refine sr (lr1 rfl ?_)
  replace h := bnd h; obtain ⟨v3, hvv3, h⟩ := h
  refine WL.callO [(0, 10)] [(0, 10), (500, 42)] [10, 42] fn48 rfl rfl rfl rfl (by exact trivial) (srcEntryR_con hw hvv3) rfl rfl (by exact eqs) rfl rfl rfl rfl rfl rfl ?_
  refine lr1 rfl ?_
  replace h := bnd h; obtain ⟨v4, hvv4, h⟩ := h
  refine WL.callO [(0, 10)] [(0, 10)] [10] fn48 rfl rfl rfl rfl (by exact trivial) (srcEntry_con hw hvv4) rfl rfl (by exact eqs) rfl rfl rfl rfl rfl rfl ?_
  obtain ⟨g1, h⟩ := grd h
  refine WL.append tbOk ((v3.1 ++ v4.1).map eApiCodeEntry) [45, 42] ap25 rfl rfl rfl rfl (fun _ e => by cases e; rfl) (by exact trivial) (map_cells (f := eApiCodeEntry) (xs := v4.1) fun _ => rfl) (by have := g1; simp only [List.length_map, List.length_nil, List.length_cons] at this ⊢; omega) rfl rfl (by simp only [List.map_append]; try rfl) rfl ?_
  refine lr2 rfl (nn (WC.seq ?_))
  refine WC.publish 45 rfl rfl ?_
  refine WC.publish 2201 rfl rfl ?_
  refine WC.region (lr2 rfl (nr ?_))
  cases h
  exact rt tbOk hR
end Go.Proofs.YtfkefolbabniaaaGreatDoor
end

section
set_option linter.unusedVariables false
set_option linter.unusedSimpArgs false
set_option maxHeartbeats 4000000
set_option maxRecDepth 20000
namespace Go.Proofs.YtfkefolbabniaaaGreatDoor
open Go.V Go.C
theorem isWord_con {wg : World} (hw : WG wg) {s : Str} {r : Bool} (h : isWord s = some r) : Con Tryz.prog wg gl 154 [.v (.str s)] [] (.v (.bool r)) [] := by
 unfold isWord at h
 refine con_of_WC (S := slotsOf 0 _) Tryz.func154 rfl Tryz.ntmps154 rfl (fun t x hx => (slotsOf_get hx).2) ?_
 intro F L w ρ0 R hR
 try dsimp only [slotsOf]
 refine sr (lr1 rfl (nn (WC.seq (sr ?_))))
 refine lr 8 rfl (by exact sideR) ?_
 refine nn ?_
 refine WC.cond rfl (fun hc1 => ?_) (fun hc1 => ?_)
 ·replace h := ite_t hc1 h
  refine sr (lr1 rfl (nr (WQ.thenRet ?_)))
  cases h
  exact rt tbOk hR
 ·replace h := ite_f hc1 h
  refine kn (WC.seq (sr (lr1 rfl ?_)))
  refine WL.range tbOk rfl rfl rfl rfl (by exact trivial) rfl ?_
  refine nn ?_
  refine WC.thenCut (X := Unit) (fun gG => ⟨[], []⟩) (fun gG => isWord_j1  = some r) ?_ ?_
  ·refine WC.block ?_
   obtain ⟨eQ1, hl1, hk1⟩ := bnd h
   clear h
   refine WC.loop (σ := Nat) (τ := ((Bool) ⊕ (Unit))) (fun sS => ⟨[(14, .r 14)], [(14, .it s sS)]⟩) (isWord_b1 s) [] 0 hl1 sub ?_
   intro pos m hn1 he1 hx1
   obtain ⟨o1, hf1⟩ := some_of hx1
   have h := hf1
   unfold isWord_b1 at h
   try dsimp only [slotsOf]
   refine sr ?_
   refine WL.next rfl rfl rfl rfl (by exact sideR) rfl (fun hx1 => ?_) (fun hx1 => ?_)
   ·replace h := ifp hx1 h
    refine lr1 rfl (nn (WC.seq ?_))
    refine WC.cond (b := true) rfl (fun hc2 => ?_) (fun hc2 => by cases hc2)
    refine kn (WC.block (sr (lr2 rfl (ns ?_))))
    refine lr 6 rfl (by exact sideR) ?_
    refine nn ?_
    refine WC.cond rfl (fun hc3 => ?_) (fun hc3 => ?_)
    ·replace h := ite_t hc3 h
     refine sr (lr1 rfl (nr (WQ.blockRet ?_)))
     cases h
     have he := he1 _ hf1
     subst he
     have h : some false = some _ := hk1
     refine WQ.thenRet (rb ?_)
     cases h
     exact rt tbOk hR
    ·replace h := ite_f hc3 h
     refine WC.skip (WQ.blockNormal ?_)
     cases h
     exact WQ.next [] (pos + runeW s pos) sub (hn1 _ hf1)
   ·replace h := ifn hx1 h
    refine lr1 rfl (nn (WC.seq ?_))
    refine WC.cond (b := false) rfl (fun hc4 => by cases hc4) (fun hc4 => ?_)
    refine WC.exit (WQ.thenExit ?_)
    cases h
    have he := he1 _ hf1
    subst he
    replace h := hk1
    try dsimp only at h
    refine eb ?_
    exact WQ.cut [] () sub h
  ·intro _ h
   replace h : isWord_j1 = some _ := h
   unfold isWord_j1 at h
   try dsimp only [slotsOf]
   refine sr (lr1 rfl (nr ?_))
   cases h
   exact rt tbOk hR
theorem validWords_con {wg : World} (hw : WG wg) {l : (List Str)} {r : Bool} (h : validWords l = some r) : Con Tryz.prog wg gl 107 [.v (.sl 1 (l.map eStr))] [] (.v (.bool r)) [] := by
 unfold validWords at h
 refine con_of_WC (S := slotsOf 0 _) Tryz.func107 rfl Tryz.ntmps107 rfl (fun t x hx => (slotsOf_get hx).2) ?_
 intro F L w ρ0 R hR
 try dsimp only [slotsOf]
 refine sr (lr1 rfl (nn (WC.seq (sr (lr1 rfl ?_)))))
 refine WL.q [] rfl rfl rfl (q_ev tbOk (.v (.int .i64 (l.length : Int))) rfl (by exact trivial) (by exact lenT)) ?_
 refine lr1 rfl (nn ?_)
 refine WC.cond rfl (fun hc1 => ?_) (fun hc1 => ?_)
 ·replace h := ite_t hc1 h
  refine sr (lr1 rfl (nr (WQ.thenRet ?_)))
  cases h
  exact rt tbOk hR
 ·replace h := ite_f hc1 h
  refine kn (WC.seq (sr (lr1 rfl ?_)))
  refine WL.q [] rfl rfl rfl (q_ev tbOk (.v (.int .i64 (l.length : Int))) rfl (by exact trivial) (by exact lenT)) ?_
  refine lr1 rfl (nn ?_)
  refine WC.thenCut (X := Unit) (fun gG => ⟨[], []⟩) (fun gG => validWords_j1  = some r) ?_ ?_
  ·refine WC.block ?_
   obtain ⟨eQ1, hl1, hk1⟩ := bnd h
   clear h
   refine WC.loop (σ := Int) (τ := ((Bool) ⊕ (Unit))) (fun sS => ⟨[(10, .v (.int .i64 sS)), (9, .v (.int .i64 (l.length : Int))), (8, .v (.sl 1 (l.map eStr))), (0, .v (.sl 1 (l.map eStr)))], []⟩) (validWords_b1 l) [] (0 : Int) hl1 sub ?_
   intro t10 m hn1 he1 hx1
   obtain ⟨o1, hf1⟩ := some_of hx1
   have h := hf1
   unfold validWords_b1 at h
   try dsimp only [slotsOf]
   refine sr (lr1 rfl (nn (WC.seq ?_)))
   refine WC.cond rfl (fun hc2 => ?_) (fun hc2 => ?_)
   ·replace h := ite_t hc2 h
    refine kn (sb (sr (lr1 rfl ?_)))
    obtain ⟨g1, h⟩ := grd h
    replace h := bnd h; obtain ⟨x2, hxx2, h⟩ := h
    refine WL.q [] rfl rfl rfl (q_idx tbOk rfl (by exact trivial) g1 (map_get (f := eStr) hxx2)) ?_
    refine lr3 rfl (ns (lr1 rfl ?_))
    replace h := bnd h; obtain ⟨v2, hvv2, h⟩ := h
    refine WL.call0 fn154 rfl rfl rfl rfl (by exact trivial) rfl (isWord_con hw hvv2) ?_
    refine lr 9 rfl (by exact sideR) ?_
    obtain ⟨g2, h⟩ := grd h
    refine WL.gq [] rfl rfl rfl rfl (fun hg => q_idx tbOk rfl (by exact sideR) (g2 hg).1 (map_getD (f := eStr) (g2 hg).2 (g2 hg).1)) ?_
    refine lr 4 rfl (by exact sideR) ?_
    refine nn ?_
    refine WC.cond rfl (fun hc3 => ?_) (fun hc3 => ?_)
    ·replace h := ite_t hc3 h
     refine sr (lr1 rfl (nr (rb ?_)))
     cases h
     have he := he1 _ hf1
     subst he
     have h : some false = some _ := hk1
     refine WQ.thenRet (rb ?_)
     cases h
     exact rt tbOk hR
    ·replace h := ite_f hc3 h
     refine WC.skip (bn (WC.region (lr2 rfl (WL.nil ?_))))
     cases h
     exact WQ.next [] (IntKind.i64.wrap (t10 + (1 : Int))) sub (hn1 _ hf1)
   ·replace h := ite_f hc2 h
    refine WC.exit (WQ.thenExit ?_)
    cases h
    have he := he1 _ hf1
    subst he
    replace h := hk1
    try dsimp only at h
    refine eb ?_
    exact WQ.cut [] () sub h
  ·intro _ h
   replace h : validWords_j1 = some _ := h
   unfold validWords_j1 at h
   try dsimp only [slotsOf]
   refine sr (lr1 rfl (nr ?_))
   cases h
   exact rt tbOk hR
theorem isNaNS_con {wg : World} (hw : WG wg) {x : Str} {r : Bool} (h : isNaNS x = some r) : Con Tryz.prog wg gl 185 [.v (.str x)] [] (.v (.bool r)) [] := by
 unfold isNaNS at h
 refine con_of_WC (S := slotsOf 0 _) Tryz.func185 rfl Tryz.ntmps185 rfl (fun t x hx => (slotsOf_get hx).2) ?_
 intro F L w ρ0 R hR
 try dsimp only [slotsOf]
 refine sr (lr1 rfl (ns (lr4 rfl (nr ?_))))
 cases h
 exact rt tbOk hR
theorem cmpStr_con {wg : World} (hw : WG wg) {x : Str} {y : Str} {r : Int} (h : cmpStr x y = some r) : Con Tryz.prog wg gl 165 [.v (.str x), .v (.str y)] [] (.v (.int .i64 r)) [] := by
 unfold cmpStr at h
 refine con_of_WC (S := slotsOf 0 _) Tryz.func165 rfl Tryz.ntmps165 rfl (fun t x hx => (slotsOf_get hx).2) ?_
 intro F L w ρ0 R hR
 try dsimp only [slotsOf]
 refine sr (lr1 rfl (ns (lr1 rfl ?_)))
 replace h := bnd h; obtain ⟨v, hvv, h⟩ := h
 refine WL.call0 fn185 rfl rfl rfl rfl (by exact trivial) rfl (isNaNS_con hw hvv) ?_
 refine lr1 rfl (ns (lr1 rfl ?_))
 replace h := bnd h; obtain ⟨v2, hvv2, h⟩ := h
 refine WL.call0 fn185 rfl rfl rfl rfl (by exact trivial) rfl (isNaNS_con hw hvv2) ?_
 refine lr1 rfl (nn (WC.seq (sr (lr1 rfl (nn ?_)))))
 refine WC.cond rfl (fun hc1 => ?_) (fun hc1 => ?_)
 ·replace h := ite_t hc1 h
  refine WC.seq (sr (lr1 rfl (nn ?_)))
  refine WC.cond rfl (fun hc2 => ?_) (fun hc2 => ?_)
  ·replace h := ite_t hc2 h
   refine sr (lr1 rfl (nr (WQ.thenRet (WQ.thenRet ?_))))
   cases h
   exact rt tbOk hR
  ·replace h := ite_f hc2 h
   refine kn (sr (lr1 rfl (nr (WQ.thenRet ?_))))
   cases h
   exact rt tbOk hR
 ·replace h := ite_f hc1 h
  refine kn (WC.seq (sr (lr1 rfl (nn ?_))))
  refine WC.cond rfl (fun hc3 => ?_) (fun hc3 => ?_)
  ·replace h := ite_t hc3 h
   refine sr (lr1 rfl (nr (WQ.thenRet ?_)))
   cases h
   exact rt tbOk hR
  ·replace h := ite_f hc3 h
   refine kn (WC.seq (sr (lr3 rfl (nn ?_))))
   refine WC.cond rfl (fun hc4 => ?_) (fun hc4 => ?_)
   ·replace h := ite_t hc4 h
    refine sr (lr1 rfl (nr (WQ.thenRet ?_)))
    cases h
    exact rt tbOk hR
   ·replace h := ite_f hc4 h
    refine kn (WC.seq (sr (lr3 rfl (nn ?_))))
    refine WC.cond rfl (fun hc5 => ?_) (fun hc5 => ?_)
    ·replace h := ite_t hc5 h
     refine sr (lr1 rfl (nr (WQ.thenRet ?_)))
     cases h
     exact rt tbOk hR
    ·replace h := ite_f hc5 h
     refine kn (sr (lr1 rfl (nr ?_)))
     cases h
     exact rt tbOk hR
theorem isNaN_con {wg : World} (hw : WG wg) {x : Int} {r : Bool} (h : isNaN x = some r) : Con Tryz.prog wg gl 162 [.v (.int .i64 x)] [] (.v (.bool r)) [] := by
 unfold isNaN at h
 refine con_of_WC (S := slotsOf 0 _) Tryz.func162 rfl Tryz.ntmps162 rfl (fun t x hx => (slotsOf_get hx).2) ?_
 intro F L w ρ0 R hR
 try dsimp only [slotsOf]
 refine sr (lr1 rfl (ns (lr4 rfl (nr ?_))))
 cases h
 exact rt tbOk hR
theorem cmpInt_con {wg : World} (hw : WG wg) {x : Int} {y : Int} {r : Int} (h : cmpInt x y = some r) : Con Tryz.prog wg gl 128 [.v (.int .i64 x), .v (.int .i64 y)] [] (.v (.int .i64 r)) [] := by
 unfold cmpInt at h
 refine con_of_WC (S := slotsOf 0 _) Tryz.func128 rfl Tryz.ntmps128 rfl (fun t x hx => (slotsOf_get hx).2) ?_
 intro F L w ρ0 R hR
 try dsimp only [slotsOf]
 refine sr (lr1 rfl (ns (lr1 rfl ?_)))
 replace h := bnd h; obtain ⟨v, hvv, h⟩ := h
 refine WL.call0 fn162 rfl rfl rfl rfl (by exact trivial) rfl (isNaN_con hw hvv) ?_
 refine lr1 rfl (ns (lr1 rfl ?_))
 replace h := bnd h; obtain ⟨v2, hvv2, h⟩ := h
 refine WL.call0 fn162 rfl rfl rfl rfl (by exact trivial) rfl (isNaN_con hw hvv2) ?_
 refine lr1 rfl (nn (WC.seq (sr (lr1 rfl (nn ?_)))))
 refine WC.cond rfl (fun hc1 => ?_) (fun hc1 => ?_)
 ·replace h := ite_t hc1 h
  refine WC.seq (sr (lr1 rfl (nn ?_)))
  refine WC.cond rfl (fun hc2 => ?_) (fun hc2 => ?_)
  ·replace h := ite_t hc2 h
   refine sr (lr1 rfl (nr (WQ.thenRet (WQ.thenRet ?_))))
   cases h
   exact rt tbOk hR
  ·replace h := ite_f hc2 h
   refine kn (sr (lr1 rfl (nr (WQ.thenRet ?_))))
   cases h
   exact rt tbOk hR
 ·replace h := ite_f hc1 h
  refine kn (WC.seq (sr (lr1 rfl (nn ?_))))
  refine WC.cond rfl (fun hc3 => ?_) (fun hc3 => ?_)
  ·replace h := ite_t hc3 h
   refine sr (lr1 rfl (nr (WQ.thenRet ?_)))
   cases h
   exact rt tbOk hR
  ·replace h := ite_f hc3 h
   refine kn (WC.seq (sr (lr3 rfl (nn ?_))))
   refine WC.cond rfl (fun hc4 => ?_) (fun hc4 => ?_)
   ·replace h := ite_t hc4 h
    refine sr (lr1 rfl (nr (WQ.thenRet ?_)))
    cases h
    exact rt tbOk hR
   ·replace h := ite_f hc4 h
    refine kn (WC.seq (sr (lr3 rfl (nn ?_))))
    refine WC.cond rfl (fun hc5 => ?_) (fun hc5 => ?_)
    ·replace h := ite_t hc5 h
     refine sr (lr1 rfl (nr (WQ.thenRet ?_)))
     cases h
     exact rt tbOk hR
    ·replace h := ite_f hc5 h
     refine kn (sr (lr1 rfl (nr ?_)))
     cases h
     exact rt tbOk hR
theorem versionOf_con {wg : World} (hw : WG wg) {e1 : ApiCodeEntry} {r : NomenclatureVersion} (h : versionOf e1 = some r) : Con Tryz.prog wg gl 138 [.v (.agg [.str e1.Code, .int .i64 e1.From, .int .i64 e1.To, .sl 1 (e1.Terms.map eLStr), .bool e1.Other])] [] (.v (.agg [.str r.code, .int .i64 r.from_])) [] := by
 unfold versionOf at h
 refine con_of_WC (S := slotsOf 0 _) Tryz.func138 rfl Tryz.ntmps138 rfl (fun t x hx => (slotsOf_get hx).2) ?_
 intro F L w ρ0 R hR
 try dsimp only [slotsOf]
 refine sr (lr2 rfl (ns (lr6 rfl (nr ?_))))
 cases h
 exact rt tbOk hR
theorem versionCmp_con {wg : World} (hw : WG wg) {v : NomenclatureVersion} {w1 : NomenclatureVersion} {r : Int} (h : versionCmp v w1 = some r) : Con Tryz.prog wg gl 139 [.v (.agg [.str v.code, .int .i64 v.from_]), .v (.agg [.str w1.code, .int .i64 w1.from_])] [] (.v (.int .i64 r)) [] := by
 unfold versionCmp at h
 refine con_of_WC (S := slotsOf 0 _) Tryz.func139 rfl Tryz.ntmps139 rfl (fun t x hx => (slotsOf_get hx).2) ?_
 intro F L w ρ0 R hR
 try dsimp only [slotsOf]
 refine sr (lr3 rfl (nn (WC.seq (sr (lr2 rfl ?_)))))
 refine WL.q [] rfl rfl rfl (q_eq rfl (by exact trivial) eg158 eqT158) ?_
 refine nn ?_
 refine WC.cond rfl (fun hc1 => ?_) (fun hc1 => ?_)
 ·replace h := ite_t hc1 h
  refine sr (lr1 rfl (nr (WQ.thenRet ?_)))
  cases h
  exact rt tbOk hR
 ·replace h := ite_f hc1 h
  refine kn (WC.seq (sr (lr5 rfl (nn ?_))))
  refine WC.cond rfl (fun hc2 => ?_) (fun hc2 => ?_)
  ·replace h := ite_t hc2 h
   refine sr (lr4 rfl ?_)
   replace h := bnd h; obtain ⟨v2, hvv2, h⟩ := h
   refine WL.call0 fn165 rfl rfl rfl rfl (by exact trivial) rfl (cmpStr_con hw hvv2) ?_
   refine lr1 rfl (nr (WQ.thenRet ?_))
   cases h
   exact rt tbOk hR
  ·replace h := ite_f hc2 h
   refine kn (sr (lr4 rfl ?_))
   replace h := bnd h; obtain ⟨v3, hvv3, h⟩ := h
   refine WL.call0 fn128 rfl rfl rfl rfl (by exact trivial) rfl (cmpInt_con hw hvv3) ?_
   refine lr1 rfl (nr ?_)
   cases h
   exact rt tbOk hR
theorem nomLevel_con {wg : World} (hw : WG wg) {code : Str} {r : Int} (h : nomLevel code = some r) : Con Tryz.prog wg gl 55 [.v (.str code)] [] (.v (.int .i64 r)) [] := by
 unfold nomLevel at h
 refine con_of_WC (S := slotsOf 0 _) Tryz.func55 rfl Tryz.ntmps55 rfl (fun t x hx => (slotsOf_get hx).2) ?_
 intro F L w ρ0 R hR
 try dsimp only [slotsOf]
 refine sr (lr1 rfl (nn (WC.seq (sr (lr2 rfl (nn ?_))))))
 refine WC.thenCut (X := Unit) (fun gG => ⟨[], []⟩) (fun gG => nomLevel_j1  = some r) ?_ ?_
 ·refine WC.block ?_
  refine WC.rounds 5 ?_
  refine sr (lr1 rfl (nn (WC.seq ?_)))
  refine WC.cond (b := true) rfl (fun hc1 => ?_) (fun hc1 => by cases hc1)
  refine kn (sb (sr ?_))
  refine WL.q [] rfl rfl rfl (q_aidx tbOk Tryz.underlying141 rfl rfl rfl rfl (by exact sideR) (by decide) rfl) ?_
  refine lr1 rfl (ns ?_)
  refine lr 6 rfl (by exact sideR) ?_
  replace h := bnd h; obtain ⟨v, hvv, h⟩ := h
  refine WL.gcall0 fn105 rfl rfl rfl rfl rfl (fun _ => (by exact sideR)) rfl (fun hg => (trimS_con hw (ite_t hg hvv))) ?_
  refine lr 2 rfl (by exact sideR) ?_
  refine nn ?_
  refine WC.cond rfl (fun hc2 => ?_) (fun hc2 => ?_)
  ·replace h := ite_t hc2 h
   refine sr (lr2 rfl (nr (rb (WQ.thenRet (rb ?_)))))
   cases h
   exact rt tbOk hR
  ·replace h := ite_f hc2 h
   refine WC.skip (bn (WC.region (lr2 rfl (WL.nil ?_))))
   refine WQ.round ?_
   refine sr (lr1 rfl (nn (WC.seq ?_)))
   refine WC.cond (b := true) rfl (fun hc3 => ?_) (fun hc3 => by cases hc3)
   refine kn (sb (sr ?_))
   refine WL.q [] rfl rfl rfl (q_aidx tbOk Tryz.underlying141 rfl rfl rfl rfl (by exact sideR) (by decide) rfl) ?_
   refine lr1 rfl (ns ?_)
   refine lr 6 rfl (by exact sideR) ?_
   replace h := bnd h; obtain ⟨v2, hvv2, h⟩ := h
   refine WL.gcall0 fn105 rfl rfl rfl rfl rfl (fun _ => (by exact sideR)) rfl (fun hg => (trimS_con hw (ite_t hg hvv2))) ?_
   refine lr 2 rfl (by exact sideR) ?_
   refine nn ?_
   refine WC.cond rfl (fun hc4 => ?_) (fun hc4 => ?_)
   ·replace h := ite_t hc4 h
    refine sr (lr2 rfl (nr (rb (WQ.thenRet (rb ?_)))))
    cases h
    exact rt tbOk hR
   ·replace h := ite_f hc4 h
    refine WC.skip (bn (WC.region (lr2 rfl (WL.nil ?_))))
    refine WQ.round ?_
    refine sr (lr1 rfl (nn (WC.seq ?_)))
    refine WC.cond (b := true) rfl (fun hc5 => ?_) (fun hc5 => by cases hc5)
    refine kn (sb (sr ?_))
    refine WL.q [] rfl rfl rfl (q_aidx tbOk Tryz.underlying141 rfl rfl rfl rfl (by exact sideR) (by decide) rfl) ?_
    refine lr1 rfl (ns ?_)
    refine lr 6 rfl (by exact sideR) ?_
    replace h := bnd h; obtain ⟨v3, hvv3, h⟩ := h
    refine WL.gcall0 fn105 rfl rfl rfl rfl rfl (fun _ => (by exact sideR)) rfl (fun hg => (trimS_con hw (ite_t hg hvv3))) ?_
    refine lr 2 rfl (by exact sideR) ?_
    refine nn ?_
    refine WC.cond rfl (fun hc6 => ?_) (fun hc6 => ?_)
    ·replace h := ite_t hc6 h
     refine sr (lr2 rfl (nr (rb (WQ.thenRet (rb ?_)))))
     cases h
     exact rt tbOk hR
    ·replace h := ite_f hc6 h
     refine WC.skip (bn (WC.region (lr2 rfl (WL.nil ?_))))
     refine WQ.round ?_
     refine sr (lr1 rfl (nn (WC.seq ?_)))
     refine WC.cond (b := true) rfl (fun hc7 => ?_) (fun hc7 => by cases hc7)
     refine kn (sb (sr ?_))
     refine WL.q [] rfl rfl rfl (q_aidx tbOk Tryz.underlying141 rfl rfl rfl rfl (by exact sideR) (by decide) rfl) ?_
     refine lr1 rfl (ns ?_)
     refine lr 6 rfl (by exact sideR) ?_
     replace h := bnd h; obtain ⟨v4, hvv4, h⟩ := h
     refine WL.gcall0 fn105 rfl rfl rfl rfl rfl (fun _ => (by exact sideR)) rfl (fun hg => (trimS_con hw (ite_t hg hvv4))) ?_
     refine lr 2 rfl (by exact sideR) ?_
     refine nn ?_
     refine WC.cond rfl (fun hc8 => ?_) (fun hc8 => ?_)
     ·replace h := ite_t hc8 h
      refine sr (lr2 rfl (nr (rb (WQ.thenRet (rb ?_)))))
      cases h
      exact rt tbOk hR
     ·replace h := ite_f hc8 h
      refine WC.skip (bn (WC.region (lr2 rfl (WL.nil ?_))))
      refine WQ.round ?_
      refine sr (lr1 rfl (nn (WC.seq ?_)))
      refine WC.cond (b := false) rfl (fun hc9 => by cases hc9) (fun hc9 => ?_)
      refine WC.exit (WQ.thenExit (eb ?_))
      exact WQ.cut [] () sub h
 ·intro _ h
  replace h : nomLevel_j1 = some _ := h
  unfold nomLevel_j1 at h
  try dsimp only [slotsOf]
  refine sr (lr1 rfl (nr ?_))
  cases h
  exact rt tbOk hR
theorem nomDescribed_con {wg : World} (hw : WG wg) {l : (List Str)} {r : Bool} (h : nomDescribed l = some r) : Con Tryz.prog wg gl 137 [.v (.sl 1 (l.map eStr))] [] (.v (.bool r)) [] := by
 unfold nomDescribed at h
 refine con_of_WC (S := slotsOf 0 _) Tryz.func137 rfl Tryz.ntmps137 rfl (fun t x hx => (slotsOf_get hx).2) ?_
 intro F L w ρ0 R hR
 try dsimp only [slotsOf]
 refine sr (lr1 rfl (ns (lr1 rfl ?_)))
 refine WL.q [] rfl rfl rfl (q_ev tbOk (.v (.int .i64 (l.length : Int))) rfl (by exact trivial) (by exact lenT)) ?_
 refine lr 3 rfl (by exact sideR) ?_
 replace h := bnd h; obtain ⟨v, hvv, h⟩ := h
 refine WL.gcall0 fn107 rfl rfl rfl rfl rfl (fun _ => (by exact sideR)) rfl (fun hg => (validWords_con hw (ite_t hg hvv))) ?_
 refine lr 2 rfl (by exact sideR) ?_
 refine nr ?_
 cases h
 exact rt tbOk hR
theorem validateEntry_con {wg : World} (hw : WG wg) {e1 : ApiCodeEntry} {r : Int} (h : validateEntry e1 = some r) : Con Tryz.prog wg gl 87 [.v (.agg [.str e1.Code, .int .i64 e1.From, .int .i64 e1.To, .sl 1 (e1.Terms.map eLStr), .bool e1.Other])] [] (.v (.int .i64 r)) [] := by
 unfold validateEntry at h
 refine con_of_WC (S := slotsOf 0 _) Tryz.func87 rfl Tryz.ntmps87 rfl (fun t x hx => (slotsOf_get hx).2) ?_
 intro F L w ρ0 R hR
 try dsimp only [slotsOf]
 refine sr (lr2 rfl (ns (lr2 rfl ?_)))
 replace h := bnd h; obtain ⟨v, hvv, h⟩ := h
 refine WL.call0 fn55 rfl rfl rfl rfl (by exact trivial) rfl (nomLevel_con hw hvv) ?_
 refine lr1 rfl (nn (sb (sr (lr3 rfl (nn ?_)))))
 refine WC.cond rfl (fun hc1 => ?_) (fun hc1 => ?_)
 ·replace h := ite_t hc1 h
  refine sr (lr1 rfl (nr (rb ?_)))
  cases h
  exact rt tbOk hR
 ·replace h := ite_f hc1 h
  refine sr ?_
  refine lr 16 rfl (by exact sideR) ?_
  refine nn ?_
  refine WC.cond rfl (fun hc2 => ?_) (fun hc2 => ?_)
  ·replace h := ite_t hc2 h
   refine sr (lr1 rfl (nr (rb ?_)))
   cases h
   exact rt tbOk hR
  ·replace h := ite_f hc2 h
   refine sr (lr2 rfl ?_)
   refine WL.q [] rfl rfl rfl (q_ev tbOk (.v (.int .i64 (e1.Terms.length : Int))) rfl (by exact trivial) (by exact lenT)) ?_
   refine lr2 rfl (nn ?_)
   refine WC.cond rfl (fun hc3 => ?_) (fun hc3 => ?_)
   ·replace h := ite_t hc3 h
    refine sr (lr1 rfl (nr (rb ?_)))
    cases h
    exact rt tbOk hR
   ·replace h := ite_f hc3 h
    refine WC.skip (bn (WC.seq (sr (lr2 rfl ?_))))
    refine WL.q [] rfl rfl rfl (q_ev tbOk (.v (.int .i64 (e1.Terms.length : Int))) rfl (by exact trivial) (by exact lenT)) ?_
    refine lr1 rfl (nn ?_)
    refine WC.thenCut (X := Unit) (fun gG => ⟨[(3, .v (.int .i64 v)), (1, .p 1 0)], [(1, .blk 54 [.v (.str e1.Code), .v (.int .i64 e1.From), .v (.int .i64 e1.To), .v (.sl 1 (e1.Terms.map eLStr)), .v (.bool e1.Other)])]⟩) (fun gG => validateEntry_j1 e1 v = some r) ?_ ?_
    ·refine WC.block ?_
     obtain ⟨eQ1, hl1, hk1⟩ := bnd h
     clear h
     refine WC.loop (σ := Int) (τ := ((Int) ⊕ (Unit))) (fun sS => ⟨[(38, .v (.int .i64 sS)), (37, .v (.int .i64 (e1.Terms.length : Int))), (36, .v (.sl 1 (e1.Terms.map eLStr))), (3, .v (.int .i64 v)), (1, .p 1 0)], [(1, .blk 54 [.v (.str e1.Code), .v (.int .i64 e1.From), .v (.int .i64 e1.To), .v (.sl 1 (e1.Terms.map eLStr)), .v (.bool e1.Other)])]⟩) (validateEntry_b1 e1 v) [] (0 : Int) hl1 sub ?_
     intro t38 m hn1 he1 hx1
     obtain ⟨o1, hf1⟩ := some_of hx1
     have h := hf1
     unfold validateEntry_b1 at h
     try dsimp only [slotsOf]
     refine sr (lr1 rfl (nn (WC.seq ?_)))
     refine WC.cond rfl (fun hc7 => ?_) (fun hc7 => ?_)
     ·replace h := ite_t hc7 h
      refine kn (sb (sr ?_))
      obtain ⟨g1, h⟩ := grd h
      replace h := bnd h; obtain ⟨x2, hxx2, h⟩ := h
      refine WL.q [] rfl rfl rfl (q_idx tbOk rfl (by exact trivial) g1 (map_get (f := eLStr) hxx2)) ?_
      refine lr2 rfl (ns (lr1 rfl ?_))
      replace h := bnd h; obtain ⟨v3, hvv3, h⟩ := h
      refine WL.call0 fn137 rfl rfl rfl rfl (by exact trivial) rfl (nomDescribed_con hw hvv3) ?_
      refine lr1 rfl (nn ?_)
      refine WC.cond rfl (fun hc8 => ?_) (fun hc8 => ?_)
      ·replace h := ite_t hc8 h
       refine sr (lr1 rfl (nr (rb ?_)))
       cases h
       have he := he1 _ hf1
       subst he
       have h : some (1 : Int) = some _ := hk1
       refine WQ.thenRet (rb ?_)
       cases h
       exact rt tbOk hR
      ·replace h := ite_f hc8 h
       refine WC.skip (bn (WC.region (lr2 rfl (WL.nil ?_))))
       cases h
       exact WQ.next [] (IntKind.i64.wrap (t38 + (1 : Int))) sub (hn1 _ hf1)
     ·replace h := ite_f hc7 h
      refine WC.exit (WQ.thenExit ?_)
      cases h
      have he := he1 _ hf1
      subst he
      replace h := hk1
      try dsimp only at h
      refine eb ?_
      exact WQ.cut [] () sub h
    ·intro _ h
     replace h : validateEntry_j1 e1 v = some _ := h
     unfold validateEntry_j1 at h
     try dsimp only [slotsOf]
     refine sr (lr2 rfl ?_)
     refine WL.q [] rfl rfl rfl (q_ev tbOk (.v (.int .i64 (e1.Terms.length : Int))) rfl (by exact trivial) (by exact lenT)) ?_
     refine lr2 rfl (ns (lr5 rfl (nn (WC.seq (sr (lr1 rfl (nn ?_)))))))
     refine WC.thenCut (X := Bool) (fun gG => ⟨[(7, .v (.bool gG))], []⟩) (fun gG => validateEntry_j2 gG = some r) ?_ ?_
     ·refine WC.block (sr (lr2 rfl (nn ?_)))
      refine WC.cond rfl (fun hc5 => ?_) (fun hc5 => ?_)
      ·replace h := ite_t hc5 h
       refine WC.region ?_
       refine lr 6 rfl (by exact sideR) ?_
       refine WL.nil (WQ.blockNormal ?_)
       exact WQ.cut [] (bif (decide ((0 : Int) < (e1.Terms.length : Int))) then true else e1.Other) sub h
      ·replace h := ite_f hc5 h
       refine sr (lr2 rfl (nn ?_))
       refine WC.cond rfl (fun hc6 => ?_) (fun hc6 => ?_)
       ·replace h := ite_t hc6 h
        refine WC.region ?_
        refine lr 7 rfl (by exact sideR) ?_
        refine WL.nil (WQ.blockNormal ?_)
        exact WQ.cut [] (bif (!(decide ((0 : Int) < (e1.Terms.length : Int)))) then true else e1.Other) sub h
       ·replace h := ite_f hc6 h
        refine WC.skip (WQ.blockNormal ?_)
        exact WQ.cut [] ((decide ((0 : Int) < (e1.Terms.length : Int))) == e1.Other) sub h
     ·intro wrong h
      replace h : validateEntry_j2 wrong = some _ := h
      unfold validateEntry_j2 at h
      try dsimp only [slotsOf]
      refine WC.seq (sr (lr1 rfl (nn ?_)))
      refine WC.cond rfl (fun hc4 => ?_) (fun hc4 => ?_)
      ·replace h := ite_t hc4 h
       refine sr (lr1 rfl (nr (WQ.thenRet ?_)))
       cases h
       exact rt tbOk hR
      ·replace h := ite_f hc4 h
       refine kn (sr (lr1 rfl (nr ?_)))
       cases h
       exact rt tbOk hR
theorem validateNote_con {wg : World} (hw : WG wg) {n1 : ApiCodeNote} {r : Int} (h : validateNote n1 = some r) : Con Tryz.prog wg gl 90 [.v (.agg [.str n1.Scope, .sl 1 (n1.Words.map eStr), .str n1.Target])] [] (.v (.int .i64 r)) [] := by
 unfold validateNote at h
 refine con_of_WC (S := slotsOf 0 _) Tryz.func90 rfl Tryz.ntmps90 rfl (fun t x hx => (slotsOf_get hx).2) ?_
 intro F L w ρ0 R hR
 try dsimp only [slotsOf]
 refine sr (lr2 rfl (nn (WC.seq (sr (lr2 rfl ?_)))))
 replace h := bnd h; obtain ⟨v, hvv, h⟩ := h
 refine WL.call0 fn55 rfl rfl rfl rfl (by exact trivial) rfl (nomLevel_con hw hvv) ?_
 refine lr 4 rfl (by exact sideR) ?_
 replace h := bnd h; obtain ⟨v2, hvv2, h⟩ := h
 refine WL.gcall0 fn137 rfl rfl rfl rfl rfl (fun _ => (by exact sideR)) rfl (fun hg => (nomDescribed_con hw (ite_t hg hvv2))) ?_
 refine lr 2 rfl (by exact sideR) ?_
 refine nn ?_
 refine WC.cond rfl (fun hc1 => ?_) (fun hc1 => ?_)
 ·replace h := ite_t hc1 h
  refine sr (lr1 rfl (nr (WQ.thenRet ?_)))
  cases h
  exact rt tbOk hR
 ·replace h := ite_f hc1 h
  refine kn (WC.seq (sr ?_))
  refine lr 6 rfl (by exact sideR) ?_
  replace h := bnd h; obtain ⟨v3, hvv3, h⟩ := h
  refine WL.gcall0 fn55 rfl rfl rfl rfl rfl (fun _ => (by exact sideR)) rfl (fun hg => (nomLevel_con hw (ite_t hg hvv3))) ?_
  refine lr 2 rfl (by exact sideR) ?_
  refine nn ?_
  refine WC.cond rfl (fun hc2 => ?_) (fun hc2 => ?_)
  ·replace h := ite_t hc2 h
   refine sr (lr1 rfl (nr (WQ.thenRet ?_)))
   cases h
   exact rt tbOk hR
  ·replace h := ite_f hc2 h
   refine kn (sr (lr1 rfl (nr ?_)))
   cases h
   exact rt tbOk hR
theorem validateOrder_con {wg : World} (hw : WG wg) {before : ApiCodeEntry} {e1 : ApiCodeEntry} {r : Int} (h : validateOrder before e1 = some r) : Con Tryz.prog wg gl 88 [.v (.agg [.str before.Code, .int .i64 before.From, .int .i64 before.To, .sl 1 (before.Terms.map eLStr), .bool before.Other]), .v (.agg [.str e1.Code, .int .i64 e1.From, .int .i64 e1.To, .sl 1 (e1.Terms.map eLStr), .bool e1.Other])] [] (.v (.int .i64 r)) [] := by
 unfold validateOrder at h
 refine con_of_WC (S := slotsOf 0 _) Tryz.func88 rfl Tryz.ntmps88 rfl (fun t x hx => (slotsOf_get hx).2) ?_
 intro F L w ρ0 R hR
 try dsimp only [slotsOf]
 refine sr (lr3 rfl (nn (WC.seq (WC.seq (WC.order mixed ?_)))))
 refine wr 1 rfl trivial ?_
 replace h := bnd h; obtain ⟨v, hvv, h⟩ := h
 refine WR.call0 fn138 rfl rfl rfl rfl (by exact trivial) rfl (versionOf_con hw hvv) ?_
 refine wr 1 rfl trivial ?_
 replace h := bnd h; obtain ⟨v2, hvv2, h⟩ := h
 refine WR.call0 fn138 rfl rfl rfl rfl (by exact trivial) rfl (versionOf_con hw hvv2) ?_
 replace h := bnd h; obtain ⟨v3, hvv3, h⟩ := h
 refine WR.call0 fn139 rfl rfl rfl rfl (by exact trivial) rfl (versionCmp_con hw hvv3) ?_
 refine wr 1 rfl trivial ?_
 refine WR.nil (by kernel_rfl) (WQ.thenNormal ?_)
 refine WC.cond rfl (fun hc1 => ?_) (fun hc1 => ?_)
 ·replace h := ite_t hc1 h
  refine sr (lr1 rfl (nr (WQ.thenRet ?_)))
  cases h
  exact rt tbOk hR
 ·replace h := ite_f hc1 h
  refine kn (WC.seq (sr ?_))
  refine lr 12 rfl (by exact sideR) ?_
  refine nn ?_
  refine WC.cond rfl (fun hc2 => ?_) (fun hc2 => ?_)
  ·replace h := ite_t hc2 h
   refine sr (lr1 rfl (nr (WQ.thenRet ?_)))
   cases h
   exact rt tbOk hR
  ·replace h := ite_f hc2 h
   refine kn (sr (lr1 rfl (nr ?_)))
   cases h
   exact rt tbOk hR
theorem hasParent_con {wg : World} (hw : WG wg) {b : ApiNomenclature} {e1 : ApiCodeEntry} {r : Bool} (h : hasParent b e1 = some r) : Con Tryz.prog wg gl 89 [.v (.agg [.sl 5 (b.Entries.map eApiCodeEntry), .sl 3 (b.Notes.map eApiCodeNote)]), .v (.agg [.str e1.Code, .int .i64 e1.From, .int .i64 e1.To, .sl 1 (e1.Terms.map eLStr), .bool e1.Other])] [] (.v (.bool r)) [] := by
 unfold hasParent at h
 refine con_of_WC (S := slotsOf 0 _) Tryz.func89 rfl Tryz.ntmps89 rfl (fun t x hx => (slotsOf_get hx).2) ?_
 intro F L w ρ0 R hR
 try dsimp only [slotsOf]
 refine sr (lr3 rfl (nn (WC.seq (sr (lr4 rfl (nn ?_))))))
 refine WC.cond rfl (fun hc1 => ?_) (fun hc1 => ?_)
 ·replace h := ite_t hc1 h
  refine sr (lr1 rfl (nr (WQ.thenRet ?_)))
  cases h
  exact rt tbOk hR
 ·replace h := ite_f hc1 h
  refine kn (sr ?_)
  obtain ⟨g1, h⟩ := grd h
  refine lr 8 rfl (by repeat' (first | exact trivial | assumption | intro _ | exact g1 (by assumption) | apply And.intro | exact sideT | (refine and_i ?_ ?_))) ?_
  refine ns (lr3 rfl (nn (WC.seq (sr (lr2 rfl ?_)))))
  refine WL.q [] rfl rfl rfl (q_ev tbOk (.v (.int .i64 (b.Entries.length : Int))) rfl (by exact trivial) (by exact lenT)) ?_
  refine lr1 rfl (nn ?_)
  refine WC.thenCut (X := Int) (fun gG => ⟨[(6, .v (.int .i64 gG)), (3, .p 3 0)], [(3, .blk 54 [.v (.str e1.Code), .v (.int .i64 e1.From), .v (.int .i64 e1.To), .v (.sl 1 (e1.Terms.map eLStr)), .v (.bool e1.Other)])]⟩) (fun gG => hasParent_j1 e1 gG = some r) ?_ ?_
  ·refine WC.block ?_
   obtain ⟨eQ1, hl1, hk1⟩ := bnd h
   clear h
   refine WC.loop (σ := Int × Int) (τ := (Int)) (fun sS => ⟨[(25, .v (.int .i64 sS.1)), (24, .v (.int .i64 (b.Entries.length : Int))), (23, .v (.sl 5 (b.Entries.map eApiCodeEntry))), (6, .v (.int .i64 sS.2)), (5, .v (.str ((e1.Code.take (IntKind.i64.wrap ((e1.Code.length : Int) - (2 : Int))).toNat).drop (0 : Int).toNat))), (3, .p 3 0)], [(3, .blk 54 [.v (.str e1.Code), .v (.int .i64 e1.From), .v (.int .i64 e1.To), .v (.sl 1 (e1.Terms.map eLStr)), .v (.bool e1.Other)])]⟩) (hasParent_b1 b e1) [] ((0 : Int), e1.From) hl1 sub ?_
   rintro ⟨t25, day2⟩ m hn1 he1 hx1
   obtain ⟨o1, hf1⟩ := some_of hx1
   have h := hf1
   unfold hasParent_b1 at h
   try dsimp only [slotsOf]
   refine sr (lr1 rfl (nn (WC.seq ?_)))
   refine WC.cond rfl (fun hc2 => ?_) (fun hc2 => ?_)
   ·replace h := ite_t hc2 h
    refine kn (WC.seq ?_)
    refine WC.thenCut (X := Int) (fun gG => ⟨[(6, .v (.int .i64 gG)), (25, .v (.int .i64 t25)), (24, .v (.int .i64 (b.Entries.length : Int))), (23, .v (.sl 5 (b.Entries.map eApiCodeEntry))), (5, .v (.str ((e1.Code.take (IntKind.i64.wrap ((e1.Code.length : Int) - (2 : Int))).toNat).drop (0 : Int).toNat))), (3, .p 3 0)], [(3, .blk 54 [.v (.str e1.Code), .v (.int .i64 e1.From), .v (.int .i64 e1.To), .v (.sl 1 (e1.Terms.map eLStr)), .v (.bool e1.Other)])]⟩) (fun gG => hasParent_j2 b e1 t25 gG = some o1) ?_ ?_
    ·refine WC.block (sr ?_)
     obtain ⟨g2, h⟩ := grd h
     replace h := bnd h; obtain ⟨x2, hxx2, h⟩ := h
     refine WL.q [] rfl rfl rfl (q_idx tbOk rfl (by exact trivial) g2 (map_get (f := eApiCodeEntry) hxx2)) ?_
     refine lr3 rfl (ns ?_)
     refine lr 16 rfl (by exact sideR) ?_
     refine nn ?_
     refine WC.cond rfl (fun hc3 => ?_) (fun hc3 => ?_)
     ·replace h := ite_t hc3 h
      refine WC.region (lr3 rfl (WL.nil (WQ.blockNormal ?_)))
      exact WQ.cut [] x2.To sub h
     ·replace h := ite_f hc3 h
      refine WC.skip (WQ.blockNormal ?_)
      exact WQ.cut [] day2 sub h
    ·intro day6 h
     replace h : hasParent_j2 b e1 t25 day6 = some _ := h
     unfold hasParent_j2 at h
     try dsimp only [slotsOf]
     refine WC.region (lr2 rfl (WL.nil ?_))
     cases h
     exact WQ.next [] ((IntKind.i64.wrap (t25 + (1 : Int))), day6) sub (hn1 _ hf1)
   ·replace h := ite_f hc2 h
    refine WC.exit (WQ.thenExit ?_)
    cases h
    have he := he1 _ hf1
    subst he
    replace h := hk1
    try dsimp only at h
    refine eb ?_
    exact WQ.cut [] day2 sub h
  ·intro day h
   replace h : hasParent_j1 e1 day = some _ := h
   unfold hasParent_j1 at h
   try dsimp only [slotsOf]
   refine sr (lr5 rfl (nr ?_))
   cases h
   exact rt tbOk hR
theorem nomValidate_con {wg : World} (hw : WG wg) {b : ApiNomenclature} {r : Int} (h : nomValidate b = some r) : Con Tryz.prog wg gl 36 [.v (.agg [.sl 5 (b.Entries.map eApiCodeEntry), .sl 3 (b.Notes.map eApiCodeNote)])] [] (.v (.int .i64 r)) [] := by
 unfold nomValidate at h
 refine con_of_WC (S := slotsOf 0 _) Tryz.func36 rfl Tryz.ntmps36 rfl (fun t x hx => (slotsOf_get hx).2) ?_
 intro F L w ρ0 R hR
 try dsimp only [slotsOf]
 refine sr (lr2 rfl (nn (WC.seq (sr (lr2 rfl ?_)))))
 refine WL.q [] rfl rfl rfl (q_ev tbOk (.v (.int .i64 (b.Entries.length : Int))) rfl (by exact trivial) (by exact lenT)) ?_
 refine lr 4 rfl (by exact sideR) ?_
 refine WL.gq [] rfl rfl rfl rfl (fun hg => q_ev tbOk (.v (.int .i64 (b.Notes.length : Int))) rfl (by exact sideR) (by exact lenT)) ?_
 refine lr 2 rfl (by exact sideR) ?_
 refine nn ?_
 refine WC.cond rfl (fun hc1 => ?_) (fun hc1 => ?_)
 ·replace h := ite_t hc1 h
  refine sr (lr1 rfl (nr (WQ.thenRet ?_)))
  cases h
  exact rt tbOk hR
 ·replace h := ite_f hc1 h
  refine kn (WC.seq (sr (lr2 rfl ?_)))
  refine WL.q [] rfl rfl rfl (q_ev tbOk (.v (.int .i64 (b.Entries.length : Int))) rfl (by exact trivial) (by exact lenT)) ?_
  refine lr1 rfl (nn ?_)
  refine WC.thenCut (X := Unit) (fun gG => ⟨[(1, .p 1 0)], [(1, .blk 28 [.v (.sl 5 (b.Entries.map eApiCodeEntry)), .v (.sl 3 (b.Notes.map eApiCodeNote))])]⟩) (fun gG => nomValidate_j1 b = some r) ?_ ?_
  ·refine WC.block ?_
   obtain ⟨eQ3, hl3, hk3⟩ := bnd h
   clear h
   refine WC.loop (σ := Int) (τ := ((Int) ⊕ (Unit))) (fun sS => ⟨[(25, .v (.int .i64 sS)), (24, .v (.int .i64 (b.Entries.length : Int))), (23, .v (.sl 5 (b.Entries.map eApiCodeEntry))), (1, .p 1 0)], [(1, .blk 28 [.v (.sl 5 (b.Entries.map eApiCodeEntry)), .v (.sl 3 (b.Notes.map eApiCodeNote))])]⟩) (nomValidate_b3 b) [] (0 : Int) hl3 sub ?_
   intro t25 m hn3 he3 hx3
   obtain ⟨o3, hf3⟩ := some_of hx3
   have h := hf3
   unfold nomValidate_b3 at h
   try dsimp only [slotsOf]
   refine sr (lr1 rfl (nn (WC.seq ?_)))
   refine WC.cond rfl (fun hc6 => ?_) (fun hc6 => ?_)
   ·replace h := ite_t hc6 h
    refine kn (WC.seq ?_)
    refine WC.thenCut (X := Unit) (fun gG => ⟨[(25, .v (.int .i64 t25)), (24, .v (.int .i64 (b.Entries.length : Int))), (23, .v (.sl 5 (b.Entries.map eApiCodeEntry))), (1, .p 1 0)], [(1, .blk 28 [.v (.sl 5 (b.Entries.map eApiCodeEntry)), .v (.sl 3 (b.Notes.map eApiCodeNote))])]⟩) (fun gG => nomValidate_j4 b t25 = some o3) ?_ ?_
    ·refine WC.block (sr (lr1 rfl ?_))
     obtain ⟨g3, h⟩ := grd h
     replace h := bnd h; obtain ⟨x7, hxx7, h⟩ := h
     refine WL.q [] rfl rfl rfl (q_idx tbOk rfl (by exact trivial) g3 (map_get (f := eApiCodeEntry) hxx7)) ?_
     refine lr4 rfl (nn (WC.seq (sr (lr1 rfl ?_))))
     replace h := bnd h; obtain ⟨v7, hvv7, h⟩ := h
     refine WL.call0 fn87 rfl rfl rfl rfl (by exact trivial) rfl (validateEntry_con hw hvv7) ?_
     refine lr1 rfl (ns (lr2 rfl (nn ?_)))
     refine WC.cond rfl (fun hc7 => ?_) (fun hc7 => ?_)
     ·replace h := ite_t hc7 h
      refine sr (lr2 rfl (nr (WQ.thenRet (rb ?_))))
      cases h
      have he := he3 _ hf3
      subst he
      have h : some v7 = some _ := hk3
      refine WQ.thenRet (rb ?_)
      cases h
      exact rt tbOk hR
     ·replace h := ite_f hc7 h
      refine kn (WC.seq (sr (lr2 rfl (nn ?_))))
      refine WC.cond rfl (fun hc8 => ?_) (fun hc8 => ?_)
      ·replace h := ite_t hc8 h
       refine WC.exit (eb ?_)
       exact WQ.cut [] () sub h
      ·replace h := ite_f hc8 h
       refine kn (WC.seq (WC.order mixed ?_))
       refine wr 4 rfl trivial ?_
       obtain ⟨g4, h⟩ := grd h
       replace h := bnd h; obtain ⟨x8, hxx8, h⟩ := h
       refine WR.q [] rfl rfl rfl (q_idx tbOk rfl (by exact trivial) g4 (map_get (f := eApiCodeEntry) hxx8)) ?_
       refine wr 2 rfl trivial ?_
       replace h := bnd h; obtain ⟨v8, hvv8, h⟩ := h
       refine WR.call0 fn88 rfl rfl rfl rfl (by exact trivial) rfl (validateOrder_con hw hvv8) ?_
       refine wr 1 rfl trivial ?_
       refine WR.nil (by kernel_rfl) (WQ.thenNormal (sr (lr2 rfl (nn ?_))))
       refine WC.cond rfl (fun hc9 => ?_) (fun hc9 => ?_)
       ·replace h := ite_t hc9 h
        refine sr (lr2 rfl (nr (rb ?_)))
        cases h
        have he := he3 _ hf3
        subst he
        have h : some v8 = some _ := hk3
        refine WQ.thenRet (rb ?_)
        cases h
        exact rt tbOk hR
       ·replace h := ite_f hc9 h
        refine WC.skip (WQ.blockNormal ?_)
        exact WQ.cut [] () sub h
    ·intro _ h
     replace h : nomValidate_j4 b t25 = some _ := h
     unfold nomValidate_j4 at h
     try dsimp only [slotsOf]
     refine WC.region (lr2 rfl (WL.nil ?_))
     cases h
     exact WQ.next [] (IntKind.i64.wrap (t25 + (1 : Int))) sub (hn3 _ hf3)
   ·replace h := ite_f hc6 h
    refine WC.exit (WQ.thenExit ?_)
    cases h
    have he := he3 _ hf3
    subst he
    replace h := hk3
    try dsimp only at h
    refine eb ?_
    exact WQ.cut [] () sub h
  ·intro _ h
   replace h : nomValidate_j1 b = some _ := h
   unfold nomValidate_j1 at h
   try dsimp only [slotsOf]
   refine WC.seq (sr (lr2 rfl ?_))
   refine WL.q [] rfl rfl rfl (q_ev tbOk (.v (.int .i64 (b.Entries.length : Int))) rfl (by exact trivial) (by exact lenT)) ?_
   refine lr1 rfl (nn ?_)
   refine WC.thenCut (X := Unit) (fun gG => ⟨[(1, .p 1 0)], [(1, .blk 28 [.v (.sl 5 (b.Entries.map eApiCodeEntry)), .v (.sl 3 (b.Notes.map eApiCodeNote))])]⟩) (fun gG => nomValidate_j2 b = some r) ?_ ?_
   ·refine WC.block ?_
    obtain ⟨eQ2, hl2, hk2⟩ := bnd h
    clear h
    refine WC.loop (σ := Int) (τ := ((Int) ⊕ (Unit))) (fun sS => ⟨[(52, .v (.int .i64 sS)), (51, .v (.int .i64 (b.Entries.length : Int))), (50, .v (.sl 5 (b.Entries.map eApiCodeEntry))), (1, .p 1 0)], [(1, .blk 28 [.v (.sl 5 (b.Entries.map eApiCodeEntry)), .v (.sl 3 (b.Notes.map eApiCodeNote))])]⟩) (nomValidate_b2 b) [] (0 : Int) hl2 sub ?_
    intro t52 m hn2 he2 hx2
    obtain ⟨o2, hf2⟩ := some_of hx2
    have h := hf2
    unfold nomValidate_b2 at h
    try dsimp only [slotsOf]
    refine sr (lr1 rfl (nn (WC.seq ?_)))
    refine WC.cond rfl (fun hc4 => ?_) (fun hc4 => ?_)
    ·replace h := ite_t hc4 h
     refine kn (sb (sr ?_))
     obtain ⟨g2, h⟩ := grd h
     replace h := bnd h; obtain ⟨x4, hxx4, h⟩ := h
     refine WL.q [] rfl rfl rfl (q_idx tbOk rfl (by exact trivial) g2 (map_get (f := eApiCodeEntry) hxx4)) ?_
     refine lr3 rfl (ns (lr2 rfl ?_))
     replace h := bnd h; obtain ⟨v4, hvv4, h⟩ := h
     refine WL.call0 fn89 rfl rfl rfl rfl (by exact trivial) rfl (hasParent_con hw hvv4) ?_
     refine lr1 rfl (nn ?_)
     refine WC.cond rfl (fun hc5 => ?_) (fun hc5 => ?_)
     ·replace h := ite_t hc5 h
      refine sr (lr1 rfl (nr (rb ?_)))
      cases h
      have he := he2 _ hf2
      subst he
      have h : some (6 : Int) = some _ := hk2
      refine WQ.thenRet (rb ?_)
      cases h
      exact rt tbOk hR
     ·replace h := ite_f hc5 h
      refine WC.skip (bn (WC.region (lr2 rfl (WL.nil ?_))))
      cases h
      exact WQ.next [] (IntKind.i64.wrap (t52 + (1 : Int))) sub (hn2 _ hf2)
    ·replace h := ite_f hc4 h
     refine WC.exit (WQ.thenExit ?_)
     cases h
     have he := he2 _ hf2
     subst he
     replace h := hk2
     try dsimp only at h
     refine eb ?_
     exact WQ.cut [] () sub h
   ·intro _ h
    replace h : nomValidate_j2 b = some _ := h
    unfold nomValidate_j2 at h
    try dsimp only [slotsOf]
    refine WC.seq (sr (lr2 rfl ?_))
    refine WL.q [] rfl rfl rfl (q_ev tbOk (.v (.int .i64 (b.Notes.length : Int))) rfl (by exact trivial) (by exact lenT)) ?_
    refine lr1 rfl (nn ?_)
    refine WC.thenCut (X := Unit) (fun gG => ⟨[], []⟩) (fun gG => nomValidate_j3  = some r) ?_ ?_
    ·refine WC.block ?_
     obtain ⟨eQ1, hl1, hk1⟩ := bnd h
     clear h
     refine WC.loop (σ := Int) (τ := ((Int) ⊕ (Unit))) (fun sS => ⟨[(64, .v (.int .i64 sS)), (63, .v (.int .i64 (b.Notes.length : Int))), (62, .v (.sl 3 (b.Notes.map eApiCodeNote)))], []⟩) (nomValidate_b1 b) [] (0 : Int) hl1 sub ?_
     intro t64 m hn1 he1 hx1
     obtain ⟨o1, hf1⟩ := some_of hx1
     have h := hf1
     unfold nomValidate_b1 at h
     try dsimp only [slotsOf]
     refine sr (lr1 rfl (nn (WC.seq ?_)))
     refine WC.cond rfl (fun hc2 => ?_) (fun hc2 => ?_)
     ·replace h := ite_t hc2 h
      refine kn (sb (sr ?_))
      obtain ⟨g1, h⟩ := grd h
      replace h := bnd h; obtain ⟨x2, hxx2, h⟩ := h
      refine WL.q [] rfl rfl rfl (q_idx tbOk rfl (by exact trivial) g1 (map_get (f := eApiCodeNote) hxx2)) ?_
      refine lr3 rfl (ns (lr1 rfl ?_))
      replace h := bnd h; obtain ⟨v2, hvv2, h⟩ := h
      refine WL.call0 fn90 rfl rfl rfl rfl (by exact trivial) rfl (validateNote_con hw hvv2) ?_
      refine lr1 rfl (ns (lr2 rfl (nn ?_)))
      refine WC.cond rfl (fun hc3 => ?_) (fun hc3 => ?_)
      ·replace h := ite_t hc3 h
       refine sr (lr2 rfl (nr (rb ?_)))
       cases h
       have he := he1 _ hf1
       subst he
       have h : some v2 = some _ := hk1
       refine WQ.thenRet (rb ?_)
       cases h
       exact rt tbOk hR
      ·replace h := ite_f hc3 h
       refine WC.skip (bn (WC.region (lr2 rfl (WL.nil ?_))))
       cases h
       exact WQ.next [] (IntKind.i64.wrap (t64 + (1 : Int))) sub (hn1 _ hf1)
     ·replace h := ite_f hc2 h
      refine WC.exit (WQ.thenExit ?_)
      cases h
      have he := he1 _ hf1
      subst he
      replace h := hk1
      try dsimp only at h
      refine eb ?_
      exact WQ.cut [] () sub h
    ·intro _ h
     replace h : nomValidate_j3 = some _ := h
     unfold nomValidate_j3 at h
     try dsimp only [slotsOf]
     refine sr (lr1 rfl (nr ?_))
     cases h
     exact rt tbOk hR
end Go.Proofs.YtfkefolbabniaaaGreatDoor
end
