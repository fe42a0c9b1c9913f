/- Contracts: the program's functions compute the plain ones; by program (gen.py). -/
import Derived.Test.YtinickkcieecdaaGreatDoorLib
import Derived.Test.YtinickkcieecdaaGreatDoorPg
import Derived.Test.YtinickkcieecdaaGreatDoorCa
import Derived.Test.YtinickkcieecdaaGreatDoorCb
import Derived.Test.YtinickkcieecdaaGreatDoorCc
import Derived.Test.YtinickkcieecdaaGreatDoorCd
import Derived.Test.YtinickkcieecdaaGreatDoorCe
set_option linter.unusedVariables false
set_option linter.unusedSimpArgs false
set_option maxHeartbeats 4000000
set_option maxRecDepth 20000
namespace Go.Proofs.YtinickkcieecdaaGreatDoor
open Go.V Go.C

theorem awake18_con {wg : World} (hw : WG wg)  {r : Bool} (h : awake18  = some r) : Con Tryz.prog wg gl 14 [] [] (.v (.bool r)) [] := by
 unfold awake18 at h
 refine con_of_WC (S := slotsOf 0 _) Tryz.func14 rfl Tryz.ntmps14 rfl (fun t x hx => (slotsOf_get hx).2) ?_
 intro F L w ρ0 R hR
 show WC _ _ _ ⟨[], []⟩ _ _
 refine WC.seq (WC.region ?_)
 refine lr 1 rfl trivial ?_
 refine WL.nil (WQ.thenNormal (WC.seq (WC.region ?_)))
 replace h := bnd h; obtain ⟨v, hvv, h⟩ := h
 refine WL.call0 fn17 rfl rfl rfl rfl (by exact trivial) rfl (dutyParse_con hw hvv) ?_
 refine lr 6 rfl trivial ?_
 refine WL.nil (WQ.thenNormal (WC.seq (WC.region ?_)))
 refine lr 1 rfl trivial ?_
 replace h := bnd h; obtain ⟨v2, hvv2, h⟩ := h
 refine WL.call0 fn20 rfl rfl rfl rfl (by exact trivial) rfl (dutyEvaluate_con hw hvv2) ?_
 refine lr 5 rfl trivial ?_
 refine WL.nil (WQ.thenNormal (WC.seq (WC.region ?_)))
 refine lr 5 rfl (by exact sideR) ?_
 refine WL.gq [] rfl rfl rfl rfl (x := .v (.bool ((v.1.Rate == (50000 : Int)) && ((v.1.Amount == (320 : Int)) && ((v.1.Per == (100 : Int)) && ((v.1.HasMost == true) && ((v.1.Most == (100000 : Int)) && ((v.1.HasLeast == true) && (v.1.Least == (20000 : Int)))))))))) (fun hg => by refine q_eq (pos := true) rfl ?_ eg23 eqT23; exact (by exact sideR)) ?_
 refine lr 11 rfl (by exact sideR) ?_
 replace h := bnd h; obtain ⟨v3, hvv3, h⟩ := h
 refine WL.gcall0 fn15 rfl rfl rfl rfl rfl (fun _ => (by exact sideR)) rfl (fun hg => (dutyFormat_con hw (ite_t hg hvv3))) ?_
 refine lr 3 rfl (by exact sideR) ?_
 refine WL.nil (WQ.thenNormal (WC.ret ?_))
 cases h
 exact WQ.rets tbOk hR [] (.inl rfl) rfl rfl (Le.refl _) (by exact trivial) rfl rfl rfl rfl

theorem lawParse_con {wg : World} (hw : WG wg) {s : Str} {l : (List Int)} {at_ : (List Int)} {by_ : (List Int)} {from_ : Int} {piece : Int} {r : Bool} (h : lawParse s l at_ by_ from_ piece = some r) : Con Tryz.prog wg gl 5 [.v (.str s), .v (.sl 1 (l.map eInt_i64)), .v (.sl 1 (at_.map eInt_i64)), .v (.sl 1 (by_.map eInt_u8)), .v (.int .i64 from_), .v (.int .i64 piece)] [] (.v (.bool r)) [] := by
 unfold lawParse at h
 refine con_of_WC (S := slotsOf 0 _) Tryz.func5 rfl Tryz.ntmps5 rfl (fun t x hx => (slotsOf_get hx).2) ?_
 intro F L w ρ0 R hR
 show WC _ _ _ ⟨[(0, .v (.str s)), (1, .v (.sl 1 (l.map eInt_i64))), (2, .v (.sl 1 (at_.map eInt_i64))), (3, .v (.sl 1 (by_.map eInt_u8))), (4, .v (.int .i64 from_)), (5, .v (.int .i64 piece))], []⟩ _ _
 refine WC.seq (WC.region ?_)
 refine lr 1 rfl trivial ?_
 refine WL.nil (WQ.thenNormal (WC.seq (WC.seq (WC.region ?_))))
 refine lr 3 rfl trivial ?_
 refine WL.nil (WQ.thenNormal ?_)
 refine WC.thenCut (X := Str) (fun gG => ⟨[(0, .v (.str gG)), (1, .v (.sl 1 (l.map eInt_i64))), (2, .v (.sl 1 (at_.map eInt_i64))), (3, .v (.sl 1 (by_.map eInt_u8))), (4, .v (.int .i64 from_)), (5, .v (.int .i64 piece))], []⟩) (fun gG => lawParse_j1 l at_ by_ from_ piece gG = some r) ?_ ?_
 ·refine WC.cond rfl (fun hc3 => ?_) (fun hc3 => ?_)
  ·replace h := ite_t hc3 h
   refine WC.region ?_
   obtain ⟨g11, h⟩ := grd h
   refine lr 3 rfl (by repeat' (first | exact trivial | assumption | intro _ | exact g11 (by assumption) | apply And.intro | exact sideT | (refine and_i ?_ ?_))) ?_
   refine WL.nil ?_
   exact WQ.cut [] ((s.take (100 : Int).toNat).drop (0 : Int).toNat) ⟨(by exact ⟨rfl, rfl, rfl, rfl, rfl, rfl, trivial⟩), (by exact trivial), rfl, rfl, rfl, rfl⟩ h
  ·replace h := ite_f hc3 h
   refine WC.skip ?_
   exact WQ.cut [] s ⟨(by exact ⟨rfl, rfl, rfl, rfl, rfl, rfl, trivial⟩), (by exact trivial), rfl, rfl, rfl, rfl⟩ h
 ·intro s2 h
  replace h : lawParse_j1 l at_ by_ from_ piece s2 = some _ := h
  unfold lawParse_j1 at h
  show WC _ _ _ ⟨[(0, .v (.str s2)), (1, .v (.sl 1 (l.map eInt_i64))), (2, .v (.sl 1 (at_.map eInt_i64))), (3, .v (.sl 1 (by_.map eInt_u8))), (4, .v (.int .i64 from_)), (5, .v (.int .i64 piece))], []⟩ _ _
  refine WC.seq (WC.region ?_)
  refine lr 1 rfl trivial ?_
  replace h := bnd h; obtain ⟨v, hvv, h⟩ := h
  refine WL.call0 fn10 rfl rfl rfl rfl (by exact trivial) rfl (madeDuty_con hw hvv) ?_
  replace h := bnd h; obtain ⟨v2, hvv2, h⟩ := h
  refine WL.call0 fn16 rfl rfl rfl rfl (by exact trivial) rfl (refFormatDuty_con hw hvv2) ?_
  obtain ⟨g1, h⟩ := grd h
  refine WL.bytes tbOk ((intsB v2).map eInt_u8) ap36 Tryz.underlying5 rfl rfl rfl rfl (by exact trivial) g1 rfl (by simp only [intsB, List.map_map]; rfl) ?_
  refine lr 1 rfl trivial ?_
  refine WL.nil (WQ.thenNormal (WC.seq (WC.seq (WC.region ?_))))
  refine lr 1 rfl trivial ?_
  refine WL.nil (WQ.thenNormal ?_)
  refine WC.thenCut (X := (List Int)) (fun gG => ⟨[(13, .r 1013), (0, .v (.str s2)), (4, .v (.int .i64 from_)), (5, .v (.int .i64 piece))], [(1013, .row 5 1 (gG.map eInt_u8))]⟩) (fun gG => lawParse_j2 from_ piece s2 gG = some r) ?_ ?_
  ·refine WC.block ?_
   obtain ⟨eQ1, hl1, hk1⟩ := bnd h
   clear h
   refine WC.loop (σ := Int × (List Int)) (τ := ((List Int))) (fun sS => ⟨[(14, .v (.int .i64 sS.1)), (13, .r 1013), (0, .v (.str s2)), (2, .v (.sl 1 (at_.map eInt_i64))), (3, .v (.sl 1 (by_.map eInt_u8))), (4, .v (.int .i64 from_)), (5, .v (.int .i64 piece))], [(1013, .row 5 1 (sS.2.map eInt_u8))]⟩) (lawParse_b1 at_ by_ from_ piece s2) [(1013, 33)] ((0 : Int), (intsB v2)) hl1 ⟨(by exact ⟨rfl, rfl, rfl, rfl, rfl, rfl, rfl, trivial⟩), (by exact ⟨rfl, trivial⟩), rfl, rfl, rfl, rfl⟩ ?_
   rintro ⟨i, b3⟩ m hn1 he1 hx1
   obtain ⟨o1, hf1⟩ := some_of hx1
   have h := hf1
   unfold lawParse_b1 at h
   show WC _ _ _ ⟨[(14, .v (.int .i64 i)), (13, .r 1013), (0, .v (.str s2)), (2, .v (.sl 1 (at_.map eInt_i64))), (3, .v (.sl 1 (by_.map eInt_u8))), (4, .v (.int .i64 from_)), (5, .v (.int .i64 piece))], [(1013, .row 5 1 (b3.map eInt_u8))]⟩ _ _
   refine WC.seq (WC.seq (WC.region ?_))
   refine lr 2 rfl trivial ?_
   refine WL.q [] rfl rfl rfl (q_ev tbOk (.v (.int .i64 (at_.length : Int))) rfl (by exact trivial) (by exact lenT)) ?_
   refine lr 4 rfl (by exact sideR) ?_
   refine WL.gq [] rfl rfl rfl rfl (fun hg => q_ev tbOk (.v (.int .i64 (by_.length : Int))) rfl (by exact sideR) (by exact lenT)) ?_
   refine lr 6 rfl (by exact sideR) ?_
   refine WL.nil (WQ.thenNormal ?_)
   refine WC.cond rfl (fun hc2 => ?_) (fun hc2 => ?_)
   ·replace h := ite_t hc2 h
    refine WC.skip (WQ.thenNormal (WC.seq (WC.block (WC.order mixed ?_))))
    refine wr 3 rfl trivial ?_
    obtain ⟨g8, h⟩ := grd h
    replace h := bnd h; obtain ⟨x4, hxx4, h⟩ := h
    refine WR.q [] rfl rfl rfl (q_idx tbOk rfl (by exact trivial) g8 (map_get (f := eInt_i64) hxx4)) ?_
    refine wr 2 rfl trivial ?_
    refine WR.q [1013] rfl rfl rfl (q_ev tbOk (.v (.int .i64 (b3.length : Int))) rfl (by exact trivial) (by exact lenT)) ?_
    replace h := bnd h; obtain ⟨v12, hvv12, h⟩ := h
    refine WR.call0 fn13 rfl rfl rfl rfl (by exact trivial) rfl (within_con hw hvv12) ?_
    refine wr 2 rfl trivial ?_
    obtain ⟨g9, h⟩ := grd h
    replace h := bnd h; obtain ⟨x5, hxx5, h⟩ := h
    refine WR.q [] rfl rfl rfl (q_idx tbOk rfl (by exact trivial) g9 (map_get (f := eInt_u8) hxx5)) ?_
    refine wr 1 rfl trivial ?_
    obtain ⟨g10, h⟩ := grd h
    refine WR.q [1013] rfl rfl rfl (q_ridx tbOk rfl (by exact trivial) rfl (by simpa only [List.length_map] using g10)) ?_
    refine WR.rstore tbOk ((b3.set v12.toNat x5).map eInt_u8) rfl rfl rfl (by exact trivial) rfl (map_getD (f := eInt_u8) g10.2 g10.1) rfl (mapset (f := eInt_u8) (x := x5) (by rfl)) ?_
    refine WR.nil (by kernel_rfl) (WQ.blockNormal (WQ.thenNormal (WC.region ?_)))
    refine lr 3 rfl trivial ?_
    refine WL.nil ?_
    cases h
    exact WQ.next [] ((IntKind.i64.wrap (i + (1 : Int))), (b3.set v12.toNat x5)) ⟨(by exact ⟨rfl, rfl, rfl, rfl, rfl, rfl, rfl, trivial⟩), (by exact ⟨rfl, trivial⟩), rfl, rfl, rfl, rfl⟩ (hn1 _ hf1)
   ·replace h := ite_f hc2 h
    refine WC.exit (WQ.thenExit ?_)
    cases h
    have he := he1 _ hf1
    subst he
    replace h := hk1
    try dsimp only at h
    refine WQ.thenExit (WQ.blockExit ?_)
    exact WQ.cut [] b3 ⟨(by exact ⟨rfl, rfl, rfl, rfl, trivial⟩), (by exact ⟨rfl, trivial⟩), rfl, rfl, rfl, rfl⟩ h
  ·intro b h
   replace h : lawParse_j2 from_ piece s2 b = some _ := h
   unfold lawParse_j2 at h
   show WC _ _ _ ⟨[(13, .r 1013), (0, .v (.str s2)), (4, .v (.int .i64 from_)), (5, .v (.int .i64 piece))], [(1013, .row 5 1 (b.map eInt_u8))]⟩ _ _
   refine WC.seq (WC.seq (WC.region ?_))
   refine lr 2 rfl trivial ?_
   refine WL.q [1013] rfl rfl rfl (q_ev tbOk (.v (.int .i64 (b.length : Int))) rfl (by exact trivial) (by exact lenT)) ?_
   refine lr 1 rfl trivial ?_
   replace h := bnd h; obtain ⟨v3, hvv3, h⟩ := h
   refine WL.call0 fn13 rfl rfl rfl rfl (by exact trivial) rfl (within_con hw hvv3) ?_
   refine lr 1 rfl trivial ?_
   refine WL.nil (WQ.thenNormal (WC.seq (WC.region ?_)))
   refine lr 3 rfl trivial ?_
   refine WL.nil (WQ.thenNormal ?_)
   refine WC.thenCut (X := (List Int)) (fun gG => ⟨[(13, .r 1013), (0, .v (.str s2))], [(1013, .row 5 1 (gG.map eInt_u8))]⟩) (fun gG => lawParse_j3 s2 gG = some r) ?_ ?_
   ·refine WC.cond rfl (fun hc1 => ?_) (fun hc1 => ?_)
    ·replace h := ite_t hc1 h
     refine WC.seq (WC.region ?_)
     refine lr 2 rfl trivial ?_
     replace h := bnd h; obtain ⟨v10, hvv10, h⟩ := h
     refine WL.call0 fn13 rfl rfl rfl rfl (by exact trivial) rfl (within_con hw hvv10) ?_
     obtain ⟨g2, h⟩ := grd h
     replace h := bnd h; obtain ⟨x, hxx, h⟩ := h
     refine WL.q [] rfl rfl rfl (q_idx tbOk rfl (by exact trivial) g2 (map_get (f := eStr) hxx)) ?_
     refine lr 2 rfl trivial ?_
     refine WL.nil (WQ.thenNormal ?_)
     refine WC.publish 1013 rfl rfl ?_
     refine WC.order mixed ?_
     refine WR.buildRow tbOk (([] : (List Int)).map eInt_u8) rfl rfl rfl rfl (by exact trivial) rfl rfl ?_
     refine wr 2 rfl trivial ?_
     obtain ⟨g3, h⟩ := grd h
     refine WR.q [] rfl rfl rfl (q_ev tbOk (.v (.sl 1 (((b.take v3.toNat).drop (0 : Int).toNat).map eInt_u8))) rfl (by exact sideR) (by exact tdT)) ?_
     obtain ⟨g4, h⟩ := grd h
     refine WR.append tbOk (((b.take v3.toNat).drop (0 : Int).toNat).map eInt_u8) [80, 76] ap36 rfl rfl rfl rfl (fun _ e => by cases e; rfl) (by exact trivial) (map_cells (f := eInt_u8) (xs := ((b.take v3.toNat).drop (0 : Int).toNat)) fun _ => rfl) (by have := g4; simp only [List.length_map, List.length_nil, List.length_cons] at this ⊢; omega) rfl rfl rfl rfl rfl ?_
     refine wr 1 rfl trivial ?_
     obtain ⟨g5, h⟩ := grd h
     refine WR.appendS tbOk ((((b.take v3.toNat).drop (0 : Int).toNat) ++ (intsB x)).map eInt_u8) [82, 80] apB36 rfl rfl rfl rfl rfl (by exact trivial) (by have := g5; simp only [List.length_map, List.length_nil] at this ⊢; omega) rfl rfl (by simp only [intsB, List.map_append, List.map_map, List.map_nil, List.nil_append]; rfl) rfl rfl ?_
     refine wr 2 rfl trivial ?_
     obtain ⟨g6, h⟩ := grd h
     refine WR.q [] rfl rfl rfl (q_ev tbOk (.v (.sl 1 ((b.drop v3.toNat).map eInt_u8))) rfl (by exact sideR) (by exact tdT)) ?_
     obtain ⟨g7, h⟩ := grd h
     refine WR.append tbOk (((((b.take v3.toNat).drop (0 : Int).toNat) ++ (intsB x)) ++ (b.drop v3.toNat)).map eInt_u8) [86, 82] ap36 rfl rfl rfl rfl (fun _ e => by cases e; rfl) (by exact trivial) (map_cells (f := eInt_u8) (xs := (b.drop v3.toNat)) fun _ => rfl) (by have := g7; simp only [List.length_map, List.length_nil, List.length_cons] at this ⊢; omega) rfl rfl (by simp only [List.map_append]; try rfl) rfl rfl ?_
     refine wr 1 rfl trivial ?_
     refine WR.nil (by kernel_rfl) ?_
     exact WQ.cut [(1013, 86)] ((((b.take v3.toNat).drop (0 : Int).toNat) ++ (intsB x)) ++ (b.drop v3.toNat)) ⟨(by exact ⟨rfl, rfl, trivial⟩), (by exact ⟨rfl, trivial⟩), rfl, rfl, rfl, rfl⟩ h
    ·replace h := ite_f hc1 h
     refine WC.skip ?_
     exact WQ.cut [] b ⟨(by exact ⟨rfl, rfl, trivial⟩), (by exact ⟨rfl, trivial⟩), rfl, rfl, rfl, rfl⟩ h
   ·intro b2 h
    replace h : lawParse_j3 s2 b2 = some _ := h
    unfold lawParse_j3 at h
    show WC _ _ _ ⟨[(13, .r 1013), (0, .v (.str s2))], [(1013, .row 5 1 (b2.map eInt_u8))]⟩ _ _
    refine WC.seq ?_
    refine WC.publish 1013 rfl rfl ?_
    refine WC.region ?_
    refine lr 1 rfl trivial ?_
    refine WL.q [] rfl rfl rfl (q_b2s tbOk (xs := b2) by36 rfl (by exact trivial)) ?_
    replace h := bnd h; obtain ⟨v4, hvv4, h⟩ := h
    refine WL.call0 fn17 rfl rfl rfl rfl (by exact trivial) rfl (dutyParse_con hw hvv4) ?_
    refine lr 6 rfl trivial ?_
    refine WL.nil (WQ.thenNormal (WC.seq (WC.region ?_)))
    refine lr 1 rfl trivial ?_
    refine WL.q [] rfl rfl rfl (q_b2s tbOk (xs := b2) by36 rfl (by exact trivial)) ?_
    replace h := bnd h; obtain ⟨v5, hvv5, h⟩ := h
    refine WL.call0 fn18 rfl rfl rfl rfl (by exact trivial) rfl (refParseDuty_con hw hvv5) ?_
    refine lr 6 rfl trivial ?_
    refine WL.nil (WQ.thenNormal (WC.seq (WC.region ?_)))
    refine lr 1 rfl trivial ?_
    replace h := bnd h; obtain ⟨v6, hvv6, h⟩ := h
    refine WL.call0 fn17 rfl rfl rfl rfl (by exact trivial) rfl (dutyParse_con hw hvv6) ?_
    refine lr 6 rfl trivial ?_
    refine WL.nil (WQ.thenNormal (WC.seq (WC.region ?_)))
    refine lr 1 rfl trivial ?_
    replace h := bnd h; obtain ⟨v7, hvv7, h⟩ := h
    refine WL.call0 fn18 rfl rfl rfl rfl (by exact trivial) rfl (refParseDuty_con hw hvv7) ?_
    refine lr 6 rfl trivial ?_
    refine WL.nil (WQ.thenNormal (WC.seq (WC.order mixed ?_)))
    refine wr 2 rfl trivial ?_
    refine WR.q [] rfl rfl rfl (q_eq rfl (by exact trivial) eg23 eqT23) ?_
    refine wr 8 rfl (by exact sideR) ?_
    refine WR.gq [] rfl rfl rfl rfl (x := .v (.bool ((v6.1.Rate == v7.1.Rate) && ((v6.1.Amount == v7.1.Amount) && ((v6.1.Per == v7.1.Per) && ((v6.1.HasMost == v7.1.HasMost) && ((v6.1.Most == v7.1.Most) && ((v6.1.HasLeast == v7.1.HasLeast) && (v6.1.Least == v7.1.Least))))))))) (fun hg => by refine q_eq (pos := true) rfl ?_ eg23 eqT23; exact (by exact sideR)) ?_
    refine wr 11 rfl (by exact sideR) ?_
    replace h := bnd h; obtain ⟨v8, hvv8, h⟩ := h
    refine WR.gcall0 fn15 rfl rfl rfl rfl rfl (fun _ => (by exact sideR)) rfl (fun hg => (dutyFormat_con hw (ite_t hg hvv8))) ?_
    refine wr 1 rfl (by exact sideR) ?_
    refine WR.gq [] rfl rfl rfl rfl (x := .v (.str (bytesI b2))) (fun hg => q_b2s tbOk (xs := b2) by36 rfl (by exact sideR)) ?_
    refine wr 4 rfl (by exact sideR) ?_
    replace h := bnd h; obtain ⟨v9, hvv9, h⟩ := h
    refine WR.gcall0 fn14 rfl rfl rfl rfl rfl (fun _ => (by exact sideR)) rfl (fun hg => (awake18_con hw (ite_t hg hvv9))) ?_
    refine wr 2 rfl (by exact sideR) ?_
    refine WR.nil (by kernel_rfl) (WQ.thenNormal (WC.ret ?_))
    cases h
    exact WQ.rets tbOk hR [] (.inl rfl) rfl rfl (Le.refl _) (by exact trivial) rfl rfl rfl rfl

end Go.Proofs.YtinickkcieecdaaGreatDoor
