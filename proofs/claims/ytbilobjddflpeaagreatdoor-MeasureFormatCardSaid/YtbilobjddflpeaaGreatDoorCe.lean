/- Contracts: the program's functions compute the plain ones; by program (gen.py). -/
import Derived.Test.YtbilobjddflpeaaGreatDoorLib
import Derived.Test.YtbilobjddflpeaaGreatDoorPe
import Derived.Test.YtbilobjddflpeaaGreatDoorCa
import Derived.Test.YtbilobjddflpeaaGreatDoorCb
import Derived.Test.YtbilobjddflpeaaGreatDoorCc
import Derived.Test.YtbilobjddflpeaaGreatDoorCd
set_option linter.unusedVariables false
set_option linter.unusedSimpArgs false
set_option maxHeartbeats 4000000
set_option maxRecDepth 20000
namespace Go.Proofs.YtbilobjddflpeaaGreatDoor
open Go.V Go.C

theorem parseNumID_con {wg : World} (hw : WG wg) {apiMeasure : ApiMeasure} {s : Str} {r : Bool × ApiMeasure} (h : parseNumID apiMeasure s = some r) : Con Tryz.prog wg gl 67 [.p 0 0, .v (.str s)] [(0, .blk 34 [.v (.int .i64 apiMeasure.ID), .v (.int .i64 apiMeasure.Kind), .v (.str apiMeasure.Prefix), .v (.sl 1 (apiMeasure.Origins.map eStr)), .v (.int .i64 apiMeasure.Company), .v (.int .i64 apiMeasure.From), .v (.int .i64 apiMeasure.To), .v (.int .i64 apiMeasure.Registered), .v (.int .i64 apiMeasure.Duty.Rate), .v (.int .i64 apiMeasure.Duty.Amount), .v (.int .i64 apiMeasure.Duty.Per), .v (.bool apiMeasure.Duty.HasMost), .v (.int .i64 apiMeasure.Duty.Most), .v (.bool apiMeasure.Duty.HasLeast), .v (.int .i64 apiMeasure.Duty.Least)])] (.v (.bool r.1)) [(0, .blk 34 [.v (.int .i64 r.2.ID), .v (.int .i64 r.2.Kind), .v (.str r.2.Prefix), .v (.sl 1 (r.2.Origins.map eStr)), .v (.int .i64 r.2.Company), .v (.int .i64 r.2.From), .v (.int .i64 r.2.To), .v (.int .i64 r.2.Registered), .v (.int .i64 r.2.Duty.Rate), .v (.int .i64 r.2.Duty.Amount), .v (.int .i64 r.2.Duty.Per), .v (.bool r.2.Duty.HasMost), .v (.int .i64 r.2.Duty.Most), .v (.bool r.2.Duty.HasLeast), .v (.int .i64 r.2.Duty.Least)])] := by
 unfold parseNumID at h
 refine con_of_WC (S := slotsOf 0 _) Tryz.func67 rfl Tryz.ntmps67 rfl (fun t x hx => (slotsOf_get hx).2) ?_
 intro F L w ρ0 R hR
 show WC _ _ _ ⟨[(0, .p 0 0), (1, .v (.str s))], [(0, .blk 34 [.v (.int .i64 apiMeasure.ID), .v (.int .i64 apiMeasure.Kind), .v (.str apiMeasure.Prefix), .v (.sl 1 (apiMeasure.Origins.map eStr)), .v (.int .i64 apiMeasure.Company), .v (.int .i64 apiMeasure.From), .v (.int .i64 apiMeasure.To), .v (.int .i64 apiMeasure.Registered), .v (.int .i64 apiMeasure.Duty.Rate), .v (.int .i64 apiMeasure.Duty.Amount), .v (.int .i64 apiMeasure.Duty.Per), .v (.bool apiMeasure.Duty.HasMost), .v (.int .i64 apiMeasure.Duty.Most), .v (.bool apiMeasure.Duty.HasLeast), .v (.int .i64 apiMeasure.Duty.Least)])]⟩ _ _
 refine WC.seq (WC.region ?_)
 refine lr 1 rfl trivial ?_
 refine WL.nil (WQ.thenNormal (WC.seq (WC.region ?_)))
 refine lr 1 rfl trivial ?_
 replace h := bnd h; obtain ⟨v, hvv, h⟩ := h
 refine WL.call0 fn92 rfl rfl rfl rfl (by exact trivial) rfl (atoiS_con hw hvv) ?_
 refine lr 5 rfl trivial ?_
 refine WL.nil (WQ.thenNormal (WC.seq (WC.region ?_)))
 refine lr 4 rfl trivial ?_
 refine WL.nil (WQ.thenNormal (WC.seq (WC.region ?_)))
 refine lr 3 rfl trivial ?_
 refine WL.nil (WQ.thenNormal (WC.ret ?_))
 cases h
 exact WQ.rets tbOk hR [] (.inl rfl) rfl rfl (Le.refl _) (by exact ⟨rfl, trivial⟩) rfl rfl rfl rfl

theorem parseNumKind_con {wg : World} (hw : WG wg) {apiMeasure : ApiMeasure} {s : Str} {r : Bool × ApiMeasure} (h : parseNumKind apiMeasure s = some r) : Con Tryz.prog wg gl 67 [.p 0 1, .v (.str s)] [(0, .blk 34 [.v (.int .i64 apiMeasure.ID), .v (.int .i64 apiMeasure.Kind), .v (.str apiMeasure.Prefix), .v (.sl 1 (apiMeasure.Origins.map eStr)), .v (.int .i64 apiMeasure.Company), .v (.int .i64 apiMeasure.From), .v (.int .i64 apiMeasure.To), .v (.int .i64 apiMeasure.Registered), .v (.int .i64 apiMeasure.Duty.Rate), .v (.int .i64 apiMeasure.Duty.Amount), .v (.int .i64 apiMeasure.Duty.Per), .v (.bool apiMeasure.Duty.HasMost), .v (.int .i64 apiMeasure.Duty.Most), .v (.bool apiMeasure.Duty.HasLeast), .v (.int .i64 apiMeasure.Duty.Least)])] (.v (.bool r.1)) [(0, .blk 34 [.v (.int .i64 r.2.ID), .v (.int .i64 r.2.Kind), .v (.str r.2.Prefix), .v (.sl 1 (r.2.Origins.map eStr)), .v (.int .i64 r.2.Company), .v (.int .i64 r.2.From), .v (.int .i64 r.2.To), .v (.int .i64 r.2.Registered), .v (.int .i64 r.2.Duty.Rate), .v (.int .i64 r.2.Duty.Amount), .v (.int .i64 r.2.Duty.Per), .v (.bool r.2.Duty.HasMost), .v (.int .i64 r.2.Duty.Most), .v (.bool r.2.Duty.HasLeast), .v (.int .i64 r.2.Duty.Least)])] := by
 unfold parseNumKind at h
 refine con_of_WC (S := slotsOf 0 _) Tryz.func67 rfl Tryz.ntmps67 rfl (fun t x hx => (slotsOf_get hx).2) ?_
 intro F L w ρ0 R hR
 show WC _ _ _ ⟨[(0, .p 0 1), (1, .v (.str s))], [(0, .blk 34 [.v (.int .i64 apiMeasure.ID), .v (.int .i64 apiMeasure.Kind), .v (.str apiMeasure.Prefix), .v (.sl 1 (apiMeasure.Origins.map eStr)), .v (.int .i64 apiMeasure.Company), .v (.int .i64 apiMeasure.From), .v (.int .i64 apiMeasure.To), .v (.int .i64 apiMeasure.Registered), .v (.int .i64 apiMeasure.Duty.Rate), .v (.int .i64 apiMeasure.Duty.Amount), .v (.int .i64 apiMeasure.Duty.Per), .v (.bool apiMeasure.Duty.HasMost), .v (.int .i64 apiMeasure.Duty.Most), .v (.bool apiMeasure.Duty.HasLeast), .v (.int .i64 apiMeasure.Duty.Least)])]⟩ _ _
 refine WC.seq (WC.region ?_)
 refine lr 1 rfl trivial ?_
 refine WL.nil (WQ.thenNormal (WC.seq (WC.region ?_)))
 refine lr 1 rfl trivial ?_
 replace h := bnd h; obtain ⟨v, hvv, h⟩ := h
 refine WL.call0 fn92 rfl rfl rfl rfl (by exact trivial) rfl (atoiS_con hw hvv) ?_
 refine lr 5 rfl trivial ?_
 refine WL.nil (WQ.thenNormal (WC.seq (WC.region ?_)))
 refine lr 4 rfl trivial ?_
 refine WL.nil (WQ.thenNormal (WC.seq (WC.region ?_)))
 refine lr 3 rfl trivial ?_
 refine WL.nil (WQ.thenNormal (WC.ret ?_))
 cases h
 exact WQ.rets tbOk hR [] (.inl rfl) rfl rfl (Le.refl _) (by exact ⟨rfl, trivial⟩) rfl rfl rfl rfl

theorem parseNumCompany_con {wg : World} (hw : WG wg) {apiMeasure : ApiMeasure} {s : Str} {r : Bool × ApiMeasure} (h : parseNumCompany apiMeasure s = some r) : Con Tryz.prog wg gl 67 [.p 0 4, .v (.str s)] [(0, .blk 34 [.v (.int .i64 apiMeasure.ID), .v (.int .i64 apiMeasure.Kind), .v (.str apiMeasure.Prefix), .v (.sl 1 (apiMeasure.Origins.map eStr)), .v (.int .i64 apiMeasure.Company), .v (.int .i64 apiMeasure.From), .v (.int .i64 apiMeasure.To), .v (.int .i64 apiMeasure.Registered), .v (.int .i64 apiMeasure.Duty.Rate), .v (.int .i64 apiMeasure.Duty.Amount), .v (.int .i64 apiMeasure.Duty.Per), .v (.bool apiMeasure.Duty.HasMost), .v (.int .i64 apiMeasure.Duty.Most), .v (.bool apiMeasure.Duty.HasLeast), .v (.int .i64 apiMeasure.Duty.Least)])] (.v (.bool r.1)) [(0, .blk 34 [.v (.int .i64 r.2.ID), .v (.int .i64 r.2.Kind), .v (.str r.2.Prefix), .v (.sl 1 (r.2.Origins.map eStr)), .v (.int .i64 r.2.Company), .v (.int .i64 r.2.From), .v (.int .i64 r.2.To), .v (.int .i64 r.2.Registered), .v (.int .i64 r.2.Duty.Rate), .v (.int .i64 r.2.Duty.Amount), .v (.int .i64 r.2.Duty.Per), .v (.bool r.2.Duty.HasMost), .v (.int .i64 r.2.Duty.Most), .v (.bool r.2.Duty.HasLeast), .v (.int .i64 r.2.Duty.Least)])] := by
 unfold parseNumCompany at h
 refine con_of_WC (S := slotsOf 0 _) Tryz.func67 rfl Tryz.ntmps67 rfl (fun t x hx => (slotsOf_get hx).2) ?_
 intro F L w ρ0 R hR
 show WC _ _ _ ⟨[(0, .p 0 4), (1, .v (.str s))], [(0, .blk 34 [.v (.int .i64 apiMeasure.ID), .v (.int .i64 apiMeasure.Kind), .v (.str apiMeasure.Prefix), .v (.sl 1 (apiMeasure.Origins.map eStr)), .v (.int .i64 apiMeasure.Company), .v (.int .i64 apiMeasure.From), .v (.int .i64 apiMeasure.To), .v (.int .i64 apiMeasure.Registered), .v (.int .i64 apiMeasure.Duty.Rate), .v (.int .i64 apiMeasure.Duty.Amount), .v (.int .i64 apiMeasure.Duty.Per), .v (.bool apiMeasure.Duty.HasMost), .v (.int .i64 apiMeasure.Duty.Most), .v (.bool apiMeasure.Duty.HasLeast), .v (.int .i64 apiMeasure.Duty.Least)])]⟩ _ _
 refine WC.seq (WC.region ?_)
 refine lr 1 rfl trivial ?_
 refine WL.nil (WQ.thenNormal (WC.seq (WC.region ?_)))
 refine lr 1 rfl trivial ?_
 replace h := bnd h; obtain ⟨v, hvv, h⟩ := h
 refine WL.call0 fn92 rfl rfl rfl rfl (by exact trivial) rfl (atoiS_con hw hvv) ?_
 refine lr 5 rfl trivial ?_
 refine WL.nil (WQ.thenNormal (WC.seq (WC.region ?_)))
 refine lr 4 rfl trivial ?_
 refine WL.nil (WQ.thenNormal (WC.seq (WC.region ?_)))
 refine lr 3 rfl trivial ?_
 refine WL.nil (WQ.thenNormal (WC.ret ?_))
 cases h
 exact WQ.rets tbOk hR [] (.inl rfl) rfl rfl (Le.refl _) (by exact ⟨rfl, trivial⟩) rfl rfl rfl rfl

theorem parseNumFrom_con {wg : World} (hw : WG wg) {apiMeasure : ApiMeasure} {s : Str} {r : Bool × ApiMeasure} (h : parseNumFrom apiMeasure s = some r) : Con Tryz.prog wg gl 67 [.p 0 5, .v (.str s)] [(0, .blk 34 [.v (.int .i64 apiMeasure.ID), .v (.int .i64 apiMeasure.Kind), .v (.str apiMeasure.Prefix), .v (.sl 1 (apiMeasure.Origins.map eStr)), .v (.int .i64 apiMeasure.Company), .v (.int .i64 apiMeasure.From), .v (.int .i64 apiMeasure.To), .v (.int .i64 apiMeasure.Registered), .v (.int .i64 apiMeasure.Duty.Rate), .v (.int .i64 apiMeasure.Duty.Amount), .v (.int .i64 apiMeasure.Duty.Per), .v (.bool apiMeasure.Duty.HasMost), .v (.int .i64 apiMeasure.Duty.Most), .v (.bool apiMeasure.Duty.HasLeast), .v (.int .i64 apiMeasure.Duty.Least)])] (.v (.bool r.1)) [(0, .blk 34 [.v (.int .i64 r.2.ID), .v (.int .i64 r.2.Kind), .v (.str r.2.Prefix), .v (.sl 1 (r.2.Origins.map eStr)), .v (.int .i64 r.2.Company), .v (.int .i64 r.2.From), .v (.int .i64 r.2.To), .v (.int .i64 r.2.Registered), .v (.int .i64 r.2.Duty.Rate), .v (.int .i64 r.2.Duty.Amount), .v (.int .i64 r.2.Duty.Per), .v (.bool r.2.Duty.HasMost), .v (.int .i64 r.2.Duty.Most), .v (.bool r.2.Duty.HasLeast), .v (.int .i64 r.2.Duty.Least)])] := by
 unfold parseNumFrom at h
 refine con_of_WC (S := slotsOf 0 _) Tryz.func67 rfl Tryz.ntmps67 rfl (fun t x hx => (slotsOf_get hx).2) ?_
 intro F L w ρ0 R hR
 show WC _ _ _ ⟨[(0, .p 0 5), (1, .v (.str s))], [(0, .blk 34 [.v (.int .i64 apiMeasure.ID), .v (.int .i64 apiMeasure.Kind), .v (.str apiMeasure.Prefix), .v (.sl 1 (apiMeasure.Origins.map eStr)), .v (.int .i64 apiMeasure.Company), .v (.int .i64 apiMeasure.From), .v (.int .i64 apiMeasure.To), .v (.int .i64 apiMeasure.Registered), .v (.int .i64 apiMeasure.Duty.Rate), .v (.int .i64 apiMeasure.Duty.Amount), .v (.int .i64 apiMeasure.Duty.Per), .v (.bool apiMeasure.Duty.HasMost), .v (.int .i64 apiMeasure.Duty.Most), .v (.bool apiMeasure.Duty.HasLeast), .v (.int .i64 apiMeasure.Duty.Least)])]⟩ _ _
 refine WC.seq (WC.region ?_)
 refine lr 1 rfl trivial ?_
 refine WL.nil (WQ.thenNormal (WC.seq (WC.region ?_)))
 refine lr 1 rfl trivial ?_
 replace h := bnd h; obtain ⟨v, hvv, h⟩ := h
 refine WL.call0 fn92 rfl rfl rfl rfl (by exact trivial) rfl (atoiS_con hw hvv) ?_
 refine lr 5 rfl trivial ?_
 refine WL.nil (WQ.thenNormal (WC.seq (WC.region ?_)))
 refine lr 4 rfl trivial ?_
 refine WL.nil (WQ.thenNormal (WC.seq (WC.region ?_)))
 refine lr 3 rfl trivial ?_
 refine WL.nil (WQ.thenNormal (WC.ret ?_))
 cases h
 exact WQ.rets tbOk hR [] (.inl rfl) rfl rfl (Le.refl _) (by exact ⟨rfl, trivial⟩) rfl rfl rfl rfl

theorem parseNumTo_con {wg : World} (hw : WG wg) {apiMeasure : ApiMeasure} {s : Str} {r : Bool × ApiMeasure} (h : parseNumTo apiMeasure s = some r) : Con Tryz.prog wg gl 67 [.p 0 6, .v (.str s)] [(0, .blk 34 [.v (.int .i64 apiMeasure.ID), .v (.int .i64 apiMeasure.Kind), .v (.str apiMeasure.Prefix), .v (.sl 1 (apiMeasure.Origins.map eStr)), .v (.int .i64 apiMeasure.Company), .v (.int .i64 apiMeasure.From), .v (.int .i64 apiMeasure.To), .v (.int .i64 apiMeasure.Registered), .v (.int .i64 apiMeasure.Duty.Rate), .v (.int .i64 apiMeasure.Duty.Amount), .v (.int .i64 apiMeasure.Duty.Per), .v (.bool apiMeasure.Duty.HasMost), .v (.int .i64 apiMeasure.Duty.Most), .v (.bool apiMeasure.Duty.HasLeast), .v (.int .i64 apiMeasure.Duty.Least)])] (.v (.bool r.1)) [(0, .blk 34 [.v (.int .i64 r.2.ID), .v (.int .i64 r.2.Kind), .v (.str r.2.Prefix), .v (.sl 1 (r.2.Origins.map eStr)), .v (.int .i64 r.2.Company), .v (.int .i64 r.2.From), .v (.int .i64 r.2.To), .v (.int .i64 r.2.Registered), .v (.int .i64 r.2.Duty.Rate), .v (.int .i64 r.2.Duty.Amount), .v (.int .i64 r.2.Duty.Per), .v (.bool r.2.Duty.HasMost), .v (.int .i64 r.2.Duty.Most), .v (.bool r.2.Duty.HasLeast), .v (.int .i64 r.2.Duty.Least)])] := by
 unfold parseNumTo at h
 refine con_of_WC (S := slotsOf 0 _) Tryz.func67 rfl Tryz.ntmps67 rfl (fun t x hx => (slotsOf_get hx).2) ?_
 intro F L w ρ0 R hR
 show WC _ _ _ ⟨[(0, .p 0 6), (1, .v (.str s))], [(0, .blk 34 [.v (.int .i64 apiMeasure.ID), .v (.int .i64 apiMeasure.Kind), .v (.str apiMeasure.Prefix), .v (.sl 1 (apiMeasure.Origins.map eStr)), .v (.int .i64 apiMeasure.Company), .v (.int .i64 apiMeasure.From), .v (.int .i64 apiMeasure.To), .v (.int .i64 apiMeasure.Registered), .v (.int .i64 apiMeasure.Duty.Rate), .v (.int .i64 apiMeasure.Duty.Amount), .v (.int .i64 apiMeasure.Duty.Per), .v (.bool apiMeasure.Duty.HasMost), .v (.int .i64 apiMeasure.Duty.Most), .v (.bool apiMeasure.Duty.HasLeast), .v (.int .i64 apiMeasure.Duty.Least)])]⟩ _ _
 refine WC.seq (WC.region ?_)
 refine lr 1 rfl trivial ?_
 refine WL.nil (WQ.thenNormal (WC.seq (WC.region ?_)))
 refine lr 1 rfl trivial ?_
 replace h := bnd h; obtain ⟨v, hvv, h⟩ := h
 refine WL.call0 fn92 rfl rfl rfl rfl (by exact trivial) rfl (atoiS_con hw hvv) ?_
 refine lr 5 rfl trivial ?_
 refine WL.nil (WQ.thenNormal (WC.seq (WC.region ?_)))
 refine lr 4 rfl trivial ?_
 refine WL.nil (WQ.thenNormal (WC.seq (WC.region ?_)))
 refine lr 3 rfl trivial ?_
 refine WL.nil (WQ.thenNormal (WC.ret ?_))
 cases h
 exact WQ.rets tbOk hR [] (.inl rfl) rfl rfl (Le.refl _) (by exact ⟨rfl, trivial⟩) rfl rfl rfl rfl

theorem parseNumRegistered_con {wg : World} (hw : WG wg) {apiMeasure : ApiMeasure} {s : Str} {r : Bool × ApiMeasure} (h : parseNumRegistered apiMeasure s = some r) : Con Tryz.prog wg gl 67 [.p 0 7, .v (.str s)] [(0, .blk 34 [.v (.int .i64 apiMeasure.ID), .v (.int .i64 apiMeasure.Kind), .v (.str apiMeasure.Prefix), .v (.sl 1 (apiMeasure.Origins.map eStr)), .v (.int .i64 apiMeasure.Company), .v (.int .i64 apiMeasure.From), .v (.int .i64 apiMeasure.To), .v (.int .i64 apiMeasure.Registered), .v (.int .i64 apiMeasure.Duty.Rate), .v (.int .i64 apiMeasure.Duty.Amount), .v (.int .i64 apiMeasure.Duty.Per), .v (.bool apiMeasure.Duty.HasMost), .v (.int .i64 apiMeasure.Duty.Most), .v (.bool apiMeasure.Duty.HasLeast), .v (.int .i64 apiMeasure.Duty.Least)])] (.v (.bool r.1)) [(0, .blk 34 [.v (.int .i64 r.2.ID), .v (.int .i64 r.2.Kind), .v (.str r.2.Prefix), .v (.sl 1 (r.2.Origins.map eStr)), .v (.int .i64 r.2.Company), .v (.int .i64 r.2.From), .v (.int .i64 r.2.To), .v (.int .i64 r.2.Registered), .v (.int .i64 r.2.Duty.Rate), .v (.int .i64 r.2.Duty.Amount), .v (.int .i64 r.2.Duty.Per), .v (.bool r.2.Duty.HasMost), .v (.int .i64 r.2.Duty.Most), .v (.bool r.2.Duty.HasLeast), .v (.int .i64 r.2.Duty.Least)])] := by
 unfold parseNumRegistered at h
 refine con_of_WC (S := slotsOf 0 _) Tryz.func67 rfl Tryz.ntmps67 rfl (fun t x hx => (slotsOf_get hx).2) ?_
 intro F L w ρ0 R hR
 show WC _ _ _ ⟨[(0, .p 0 7), (1, .v (.str s))], [(0, .blk 34 [.v (.int .i64 apiMeasure.ID), .v (.int .i64 apiMeasure.Kind), .v (.str apiMeasure.Prefix), .v (.sl 1 (apiMeasure.Origins.map eStr)), .v (.int .i64 apiMeasure.Company), .v (.int .i64 apiMeasure.From), .v (.int .i64 apiMeasure.To), .v (.int .i64 apiMeasure.Registered), .v (.int .i64 apiMeasure.Duty.Rate), .v (.int .i64 apiMeasure.Duty.Amount), .v (.int .i64 apiMeasure.Duty.Per), .v (.bool apiMeasure.Duty.HasMost), .v (.int .i64 apiMeasure.Duty.Most), .v (.bool apiMeasure.Duty.HasLeast), .v (.int .i64 apiMeasure.Duty.Least)])]⟩ _ _
 refine WC.seq (WC.region ?_)
 refine lr 1 rfl trivial ?_
 refine WL.nil (WQ.thenNormal (WC.seq (WC.region ?_)))
 refine lr 1 rfl trivial ?_
 replace h := bnd h; obtain ⟨v, hvv, h⟩ := h
 refine WL.call0 fn92 rfl rfl rfl rfl (by exact trivial) rfl (atoiS_con hw hvv) ?_
 refine lr 5 rfl trivial ?_
 refine WL.nil (WQ.thenNormal (WC.seq (WC.region ?_)))
 refine lr 4 rfl trivial ?_
 refine WL.nil (WQ.thenNormal (WC.seq (WC.region ?_)))
 refine lr 3 rfl trivial ?_
 refine WL.nil (WQ.thenNormal (WC.ret ?_))
 cases h
 exact WQ.rets tbOk hR [] (.inl rfl) rfl rfl (Le.refl _) (by exact ⟨rfl, trivial⟩) rfl rfl rfl rfl

theorem formatMeasure_con {wg : World} (hw : WG wg) {m1 : ApiMeasure} {r : Str} (h : formatMeasure m1 = some r) : Con Tryz.prog wg gl 54 [.v (.agg [.int .i64 m1.ID, .int .i64 m1.Kind, .str m1.Prefix, .sl 1 (m1.Origins.map eStr), .int .i64 m1.Company, .int .i64 m1.From, .int .i64 m1.To, .int .i64 m1.Registered, .int .i64 m1.Duty.Rate, .int .i64 m1.Duty.Amount, .int .i64 m1.Duty.Per, .bool m1.Duty.HasMost, .int .i64 m1.Duty.Most, .bool m1.Duty.HasLeast, .int .i64 m1.Duty.Least])] [] (.v (.str r)) [] := by
 unfold formatMeasure at h
 refine con_of_WC (S := slotsOf 0 _) Tryz.func54 rfl Tryz.ntmps54 rfl (fun t x hx => (slotsOf_get hx).2) ?_
 intro F L w ρ0 R hR
 show WC _ _ _ ⟨[(0, .v (.agg [.int .i64 m1.ID, .int .i64 m1.Kind, .str m1.Prefix, .sl 1 (m1.Origins.map eStr), .int .i64 m1.Company, .int .i64 m1.From, .int .i64 m1.To, .int .i64 m1.Registered, .int .i64 m1.Duty.Rate, .int .i64 m1.Duty.Amount, .int .i64 m1.Duty.Per, .bool m1.Duty.HasMost, .int .i64 m1.Duty.Most, .bool m1.Duty.HasLeast, .int .i64 m1.Duty.Least]))], []⟩ _ _
 refine WC.seq (WC.region ?_)
 refine lr 2 rfl trivial ?_
 refine WL.nil (WQ.thenNormal (WC.seq (WC.region ?_)))
 refine lr 1 rfl trivial ?_
 refine WL.nil (WQ.thenNormal (WC.seq (WC.seq (WC.region ?_))))
 refine lr 2 rfl trivial ?_
 refine WL.q [] rfl rfl rfl (q_ev tbOk (.v (.int .i64 (m1.Origins.length : Int))) rfl (by exact trivial) (by exact lenT)) ?_
 refine lr 1 rfl trivial ?_
 refine WL.nil (WQ.thenNormal ?_)
 refine WC.thenCut (X := Str) (fun gG => ⟨[(3, .v (.str gG)), (1, .p 1 0)], [(1, .blk 34 [.v (.int .i64 m1.ID), .v (.int .i64 m1.Kind), .v (.str m1.Prefix), .v (.sl 1 (m1.Origins.map eStr)), .v (.int .i64 m1.Company), .v (.int .i64 m1.From), .v (.int .i64 m1.To), .v (.int .i64 m1.Registered), .v (.int .i64 m1.Duty.Rate), .v (.int .i64 m1.Duty.Amount), .v (.int .i64 m1.Duty.Per), .v (.bool m1.Duty.HasMost), .v (.int .i64 m1.Duty.Most), .v (.bool m1.Duty.HasLeast), .v (.int .i64 m1.Duty.Least)])]⟩) (fun gG => formatMeasure_j1 m1 gG = some r) ?_ ?_
 ·refine WC.cond rfl (fun hc2 => ?_) (fun hc2 => ?_)
  ·replace h := ite_t hc2 h
   refine WC.region ?_
   refine lr 2 rfl trivial ?_
   replace h := bnd h; obtain ⟨v9, hvv9, h⟩ := h
   refine WL.call0 fn75 rfl rfl rfl rfl (by exact trivial) rfl (joinS_con hw hvv9) ?_
   refine lr 1 rfl trivial ?_
   refine WL.nil ?_
   exact WQ.cut [] v9 ⟨(by exact ⟨rfl, rfl, trivial⟩), (by exact ⟨rfl, trivial⟩), rfl, rfl, rfl, rfl⟩ h
  ·replace h := ite_f hc2 h
   refine WC.skip ?_
   exact WQ.cut [] ([42] : Str) ⟨(by exact ⟨rfl, rfl, trivial⟩), (by exact ⟨rfl, trivial⟩), rfl, rfl, rfl, rfl⟩ h
 ·intro origins h
  replace h : formatMeasure_j1 m1 origins = some _ := h
  unfold formatMeasure_j1 at h
  show WC _ _ _ ⟨[(3, .v (.str origins)), (1, .p 1 0)], [(1, .blk 34 [.v (.int .i64 m1.ID), .v (.int .i64 m1.Kind), .v (.str m1.Prefix), .v (.sl 1 (m1.Origins.map eStr)), .v (.int .i64 m1.Company), .v (.int .i64 m1.From), .v (.int .i64 m1.To), .v (.int .i64 m1.Registered), .v (.int .i64 m1.Duty.Rate), .v (.int .i64 m1.Duty.Amount), .v (.int .i64 m1.Duty.Per), .v (.bool m1.Duty.HasMost), .v (.int .i64 m1.Duty.Most), .v (.bool m1.Duty.HasLeast), .v (.int .i64 m1.Duty.Least)])]⟩ _ _
  refine WC.seq (WC.region ?_)
  refine lr 1 rfl trivial ?_
  refine WL.nil (WQ.thenNormal (WC.seq (WC.seq (WC.region ?_))))
  refine lr 3 rfl trivial ?_
  refine WL.nil (WQ.thenNormal ?_)
  refine WC.thenCut (X := Str) (fun gG => ⟨[(4, .v (.str gG)), (3, .v (.str origins)), (1, .p 1 0)], [(1, .blk 34 [.v (.int .i64 m1.ID), .v (.int .i64 m1.Kind), .v (.str m1.Prefix), .v (.sl 1 (m1.Origins.map eStr)), .v (.int .i64 m1.Company), .v (.int .i64 m1.From), .v (.int .i64 m1.To), .v (.int .i64 m1.Registered), .v (.int .i64 m1.Duty.Rate), .v (.int .i64 m1.Duty.Amount), .v (.int .i64 m1.Duty.Per), .v (.bool m1.Duty.HasMost), .v (.int .i64 m1.Duty.Most), .v (.bool m1.Duty.HasLeast), .v (.int .i64 m1.Duty.Least)])]⟩) (fun gG => formatMeasure_j2 m1 origins gG = some r) ?_ ?_
  ·refine WC.cond rfl (fun hc1 => ?_) (fun hc1 => ?_)
   ·replace h := ite_t hc1 h
    refine WC.region ?_
    refine lr 2 rfl trivial ?_
    replace h := bnd h; obtain ⟨v8, hvv8, h⟩ := h
    refine WL.call0 fn76 rfl rfl rfl rfl (by exact trivial) rfl (itoa_con hw hvv8) ?_
    refine lr 1 rfl trivial ?_
    refine WL.nil ?_
    exact WQ.cut [] v8 ⟨(by exact ⟨rfl, rfl, rfl, trivial⟩), (by exact ⟨rfl, trivial⟩), rfl, rfl, rfl, rfl⟩ h
   ·replace h := ite_f hc1 h
    refine WC.skip ?_
    exact WQ.cut [] ([45] : Str) ⟨(by exact ⟨rfl, rfl, rfl, trivial⟩), (by exact ⟨rfl, trivial⟩), rfl, rfl, rfl, rfl⟩ h
  ·intro registered h
   replace h : formatMeasure_j2 m1 origins registered = some _ := h
   unfold formatMeasure_j2 at h
   show WC _ _ _ ⟨[(4, .v (.str registered)), (3, .v (.str origins)), (1, .p 1 0)], [(1, .blk 34 [.v (.int .i64 m1.ID), .v (.int .i64 m1.Kind), .v (.str m1.Prefix), .v (.sl 1 (m1.Origins.map eStr)), .v (.int .i64 m1.Company), .v (.int .i64 m1.From), .v (.int .i64 m1.To), .v (.int .i64 m1.Registered), .v (.int .i64 m1.Duty.Rate), .v (.int .i64 m1.Duty.Amount), .v (.int .i64 m1.Duty.Per), .v (.bool m1.Duty.HasMost), .v (.int .i64 m1.Duty.Most), .v (.bool m1.Duty.HasLeast), .v (.int .i64 m1.Duty.Least)])]⟩ _ _
   refine WC.seq (WC.order mixed ?_)
   refine wr 2 rfl trivial ?_
   replace h := bnd h; obtain ⟨v, hvv, h⟩ := h
   refine WR.call0 fn76 rfl rfl rfl rfl (by exact trivial) rfl (itoa_con hw hvv) ?_
   refine wr 2 rfl trivial ?_
   replace h := bnd h; obtain ⟨v2, hvv2, h⟩ := h
   refine WR.call0 fn76 rfl rfl rfl rfl (by exact trivial) rfl (itoa_con hw hvv2) ?_
   refine wr 5 rfl trivial ?_
   replace h := bnd h; obtain ⟨v3, hvv3, h⟩ := h
   refine WR.call0 fn76 rfl rfl rfl rfl (by exact trivial) rfl (itoa_con hw hvv3) ?_
   refine wr 2 rfl trivial ?_
   replace h := bnd h; obtain ⟨v4, hvv4, h⟩ := h
   refine WR.call0 fn76 rfl rfl rfl rfl (by exact trivial) rfl (itoa_con hw hvv4) ?_
   refine wr 2 rfl trivial ?_
   replace h := bnd h; obtain ⟨v5, hvv5, h⟩ := h
   refine WR.call0 fn76 rfl rfl rfl rfl (by exact trivial) rfl (itoa_con hw hvv5) ?_
   refine wr 3 rfl trivial ?_
   replace h := bnd h; obtain ⟨v6, hvv6, h⟩ := h
   refine WR.call0 fn77 rfl rfl rfl rfl (by exact trivial) rfl (dutyFormat_con hw hvv6) ?_
   refine wr 2 rfl trivial ?_
   refine WR.nil (by kernel_rfl) (WQ.thenNormal (WC.seq (WC.region ?_)))
   refine lr 1 rfl trivial ?_
   replace h := bnd h; obtain ⟨v7, hvv7, h⟩ := h
   refine WL.call0 fn75 rfl rfl rfl rfl (by exact trivial) rfl (joinS_con hw hvv7) ?_
   refine lr 1 rfl trivial ?_
   refine WL.nil (WQ.thenNormal (WC.ret ?_))
   cases h
   exact WQ.rets tbOk hR [] (.inl rfl) rfl rfl (Le.refl _) (by exact trivial) rfl rfl rfl rfl

theorem parseMeasure_con {wg : World} (hw : WG wg) {line : Str} {r : ApiMeasure × Bool} (h : parseMeasure line = some r) : Con Tryz.prog wg gl 42 [.v (.str line)] [] (.tup [.v (.agg [.int .i64 r.1.ID, .int .i64 r.1.Kind, .str r.1.Prefix, .sl 1 (r.1.Origins.map eStr), .int .i64 r.1.Company, .int .i64 r.1.From, .int .i64 r.1.To, .int .i64 r.1.Registered, .int .i64 r.1.Duty.Rate, .int .i64 r.1.Duty.Amount, .int .i64 r.1.Duty.Per, .bool r.1.Duty.HasMost, .int .i64 r.1.Duty.Most, .bool r.1.Duty.HasLeast, .int .i64 r.1.Duty.Least]), .v (.bool r.2)]) [] := by
 unfold parseMeasure at h
 refine con_of_WC (S := slotsOf 0 _) Tryz.func42 rfl Tryz.ntmps42 rfl (fun t x hx => (slotsOf_get hx).2) ?_
 intro F L w ρ0 R hR
 show WC _ _ _ ⟨[(0, .v (.str line))], []⟩ _ _
 refine WC.seq (WC.region ?_)
 refine lr 2 rfl trivial ?_
 refine WL.nil (WQ.thenNormal (WC.seq (WC.region ?_)))
 refine lr 1 rfl trivial ?_
 replace h := bnd h; obtain ⟨v, hvv, h⟩ := h
 refine WL.call0 fn66 rfl rfl rfl rfl (by exact trivial) rfl (splitNS_con hw hvv) ?_
 refine lr 1 rfl trivial ?_
 refine WL.nil (WQ.thenNormal (WC.seq (WC.seq (WC.region ?_))))
 refine lr 1 rfl trivial ?_
 refine WL.q [] rfl rfl rfl (q_ev tbOk (.v (.int .i64 (v.length : Int))) rfl (by exact trivial) (by exact lenT)) ?_
 refine lr 1 rfl trivial ?_
 refine WL.nil (WQ.thenNormal ?_)
 refine WC.cond rfl (fun hc1 => ?_) (fun hc1 => ?_)
 ·replace h := ite_t hc1 h
  refine WC.seq (WC.region ?_)
  refine lr 3 rfl trivial ?_
  refine WL.nil (WQ.thenNormal (WC.ret (WQ.thenRet ?_)))
  cases h
  exact WQ.rets tbOk (r := .tup [.v (.agg [.int .i64 ((⟨0, 0, [], [], 0, 0, 0, 0, (⟨0, 0, 0, false, 0, false, 0⟩ : ApiDuty)⟩ : ApiMeasure).ID), .int .i64 ((⟨0, 0, [], [], 0, 0, 0, 0, (⟨0, 0, 0, false, 0, false, 0⟩ : ApiDuty)⟩ : ApiMeasure).Kind), .str ((⟨0, 0, [], [], 0, 0, 0, 0, (⟨0, 0, 0, false, 0, false, 0⟩ : ApiDuty)⟩ : ApiMeasure).Prefix), .sl 1 (((⟨0, 0, [], [], 0, 0, 0, 0, (⟨0, 0, 0, false, 0, false, 0⟩ : ApiDuty)⟩ : ApiMeasure).Origins).map eStr), .int .i64 ((⟨0, 0, [], [], 0, 0, 0, 0, (⟨0, 0, 0, false, 0, false, 0⟩ : ApiDuty)⟩ : ApiMeasure).Company), .int .i64 ((⟨0, 0, [], [], 0, 0, 0, 0, (⟨0, 0, 0, false, 0, false, 0⟩ : ApiDuty)⟩ : ApiMeasure).From), .int .i64 ((⟨0, 0, [], [], 0, 0, 0, 0, (⟨0, 0, 0, false, 0, false, 0⟩ : ApiDuty)⟩ : ApiMeasure).To), .int .i64 ((⟨0, 0, [], [], 0, 0, 0, 0, (⟨0, 0, 0, false, 0, false, 0⟩ : ApiDuty)⟩ : ApiMeasure).Registered), .int .i64 (((⟨0, 0, [], [], 0, 0, 0, 0, (⟨0, 0, 0, false, 0, false, 0⟩ : ApiDuty)⟩ : ApiMeasure).Duty).Rate), .int .i64 (((⟨0, 0, [], [], 0, 0, 0, 0, (⟨0, 0, 0, false, 0, false, 0⟩ : ApiDuty)⟩ : ApiMeasure).Duty).Amount), .int .i64 (((⟨0, 0, [], [], 0, 0, 0, 0, (⟨0, 0, 0, false, 0, false, 0⟩ : ApiDuty)⟩ : ApiMeasure).Duty).Per), .bool (((⟨0, 0, [], [], 0, 0, 0, 0, (⟨0, 0, 0, false, 0, false, 0⟩ : ApiDuty)⟩ : ApiMeasure).Duty).HasMost), .int .i64 (((⟨0, 0, [], [], 0, 0, 0, 0, (⟨0, 0, 0, false, 0, false, 0⟩ : ApiDuty)⟩ : ApiMeasure).Duty).Most), .bool (((⟨0, 0, [], [], 0, 0, 0, 0, (⟨0, 0, 0, false, 0, false, 0⟩ : ApiDuty)⟩ : ApiMeasure).Duty).HasLeast), .int .i64 (((⟨0, 0, [], [], 0, 0, 0, 0, (⟨0, 0, 0, false, 0, false, 0⟩ : ApiDuty)⟩ : ApiMeasure).Duty).Least)]), .v (.bool false)]) hR [] (.inl rfl) rfl rfl (Le.tup (.cons (Le.agg (.same (.same (.same (.sl 1 (.same (.same (.same (.same (.same (.same (.same (.same (.same (.same (.same .nil)))))))))))))))) (.cons (Le.refl _) .nil))) (by exact trivial) rfl rfl rfl rfl
 ·replace h := ite_f hc1 h
  refine WC.skip (WQ.thenNormal (WC.seq (WC.region ?_)))
  refine lr 1 rfl trivial ?_
  replace h := bnd h; obtain ⟨x, hxx, h⟩ := h
  refine WL.q [] rfl rfl rfl (q_idx tbOk rfl (by exact trivial) (by decide) (map_get (f := eStr) hxx)) ?_
  refine lr 4 rfl trivial ?_
  refine WL.nil (WQ.thenNormal (WC.seq (WC.seq (WC.region ?_))))
  refine lr 1 rfl trivial ?_
  replace h := bnd h; obtain ⟨x2, hxx2, h⟩ := h
  refine WL.q [] rfl rfl rfl (q_idx tbOk rfl (by exact trivial) (by decide) (map_get (f := eStr) hxx2)) ?_
  refine lr 2 rfl trivial ?_
  refine WL.nil (WQ.thenNormal ?_)
  refine WC.thenCut (X := (List Str)) (fun gG => ⟨[(5, .p 5 0), (4, .v (.sl 1 (v.map eStr))), (2, .p 2 0), (0, .v (.str line))], [(2, .blk 34 [.v (.int .i64 0), .v (.int .i64 0), .v (.str []), .v (.raw (.slice none 0 0)), .v (.int .i64 0), .v (.int .i64 0), .v (.int .i64 0), .v (.int .i64 0), .v (.int .i64 0), .v (.int .i64 0), .v (.int .i64 0), .v (.bool false), .v (.int .i64 0), .v (.bool false), .v (.int .i64 0)]), (5, .blk 34 [.v (.int .i64 0), .v (.int .i64 0), .v (.str x), .v (.sl 1 (gG.map eStr)), .v (.int .i64 0), .v (.int .i64 0), .v (.int .i64 0), .v (.int .i64 (-1 : Int)), .v (.int .i64 0), .v (.int .i64 0), .v (.int .i64 0), .v (.bool false), .v (.int .i64 0), .v (.bool false), .v (.int .i64 0)])]⟩) (fun gG => parseMeasure_j1 line v x gG = some r) ?_ ?_
  ·refine WC.cond rfl (fun hc4 => ?_) (fun hc4 => ?_)
   ·replace h := ite_t hc4 h
    refine WC.region ?_
    refine lr 1 rfl trivial ?_
    replace h := bnd h; obtain ⟨x11, hxx11, h⟩ := h
    refine WL.q [] rfl rfl rfl (q_idx tbOk rfl (by exact trivial) (by decide) (map_get (f := eStr) hxx11)) ?_
    refine lr 1 rfl trivial ?_
    replace h := bnd h; obtain ⟨v11, hvv11, h⟩ := h
    refine WL.call0 fn41 rfl rfl rfl rfl (by exact trivial) rfl (splitS_con hw hvv11) ?_
    refine lr 2 rfl trivial ?_
    refine WL.nil ?_
    exact WQ.cut [] v11 ⟨(by exact ⟨rfl, rfl, rfl, rfl, trivial⟩), (by exact ⟨rfl, rfl, trivial⟩), rfl, rfl, rfl, rfl⟩ h
   ·replace h := ite_f hc4 h
    refine WC.skip ?_
    refine WQ.weakenO 5 (.blk 34 [.v (.int .i64 0), .v (.int .i64 0), .v (.str x), .v (.sl 1 ([].map eStr)), .v (.int .i64 0), .v (.int .i64 0), .v (.int .i64 0), .v (.int .i64 (-1 : Int)), .v (.int .i64 0), .v (.int .i64 0), .v (.int .i64 0), .v (.bool false), .v (.int .i64 0), .v (.bool false), .v (.int .i64 0)]) rfl (LeO.blk (.cons (Le.refl _) (.cons (Le.refl _) (.cons (Le.refl _) (.cons (Le.nil 1) (.cons (Le.refl _) (.cons (Le.refl _) (.cons (Le.refl _) (.cons (Le.refl _) (.cons (Le.refl _) (.cons (Le.refl _) (.cons (Le.refl _) (.cons (Le.refl _) (.cons (Le.refl _) (.cons (Le.refl _) (.cons (Le.refl _) .nil)))))))))))))))) rfl ?_
    exact WQ.cut [] [] ⟨(by exact ⟨rfl, rfl, rfl, rfl, trivial⟩), (by exact ⟨rfl, rfl, trivial⟩), rfl, rfl, rfl, rfl⟩ h
  ·intro c5_3 h
   replace h : parseMeasure_j1 line v x c5_3 = some _ := h
   unfold parseMeasure_j1 at h
   show WC _ _ _ ⟨[(5, .p 5 0), (4, .v (.sl 1 (v.map eStr))), (2, .p 2 0), (0, .v (.str line))], [(2, .blk 34 [.v (.int .i64 0), .v (.int .i64 0), .v (.str []), .v (.raw (.slice none 0 0)), .v (.int .i64 0), .v (.int .i64 0), .v (.int .i64 0), .v (.int .i64 0), .v (.int .i64 0), .v (.int .i64 0), .v (.int .i64 0), .v (.bool false), .v (.int .i64 0), .v (.bool false), .v (.int .i64 0)]), (5, .blk 34 [.v (.int .i64 0), .v (.int .i64 0), .v (.str x), .v (.sl 1 (c5_3.map eStr)), .v (.int .i64 0), .v (.int .i64 0), .v (.int .i64 0), .v (.int .i64 (-1 : Int)), .v (.int .i64 0), .v (.int .i64 0), .v (.int .i64 0), .v (.bool false), .v (.int .i64 0), .v (.bool false), .v (.int .i64 0)])]⟩ _ _
   refine WC.seq (WC.region ?_)
   refine lr 2 rfl trivial ?_
   replace h := bnd h; obtain ⟨x3, hxx3, h⟩ := h
   refine WL.q [] rfl rfl rfl (q_idx tbOk rfl (by exact trivial) (by decide) (map_get (f := eStr) hxx3)) ?_
   refine lr 1 rfl trivial ?_
   replace h := bnd h; obtain ⟨v2, hvv2, h⟩ := h
   refine WL.callO [(0, 5)] [(0, 5)] [5] fn67 rfl rfl rfl rfl (by exact trivial) (parseNumID_con hw hvv2) rfl rfl (by exact ⟨rfl, trivial⟩) rfl rfl rfl rfl rfl rfl ?_
   refine lr 1 rfl trivial ?_
   refine WL.nil (WQ.thenNormal (WC.seq (WC.region ?_)))
   refine lr 2 rfl trivial ?_
   replace h := bnd h; obtain ⟨x4, hxx4, h⟩ := h
   refine WL.q [] rfl rfl rfl (q_idx tbOk rfl (by exact trivial) (by decide) (map_get (f := eStr) hxx4)) ?_
   refine lr 1 rfl trivial ?_
   replace h := bnd h; obtain ⟨v3, hvv3, h⟩ := h
   refine WL.callO [(0, 5)] [(0, 5)] [5] fn67 rfl rfl rfl rfl (by exact trivial) (parseNumKind_con hw hvv3) rfl rfl (by exact ⟨rfl, trivial⟩) rfl rfl rfl rfl rfl rfl ?_
   refine lr 4 rfl (by exact sideR) ?_
   refine WL.nil (WQ.thenNormal (WC.seq (WC.region ?_)))
   refine lr 2 rfl trivial ?_
   replace h := bnd h; obtain ⟨x5, hxx5, h⟩ := h
   refine WL.q [] rfl rfl rfl (q_idx tbOk rfl (by exact trivial) (by decide) (map_get (f := eStr) hxx5)) ?_
   refine lr 1 rfl trivial ?_
   replace h := bnd h; obtain ⟨v4, hvv4, h⟩ := h
   refine WL.callO [(0, 5)] [(0, 5)] [5] fn67 rfl rfl rfl rfl (by exact trivial) (parseNumCompany_con hw hvv4) rfl rfl (by exact ⟨rfl, trivial⟩) rfl rfl rfl rfl rfl rfl ?_
   refine lr 4 rfl (by exact sideR) ?_
   refine WL.nil (WQ.thenNormal (WC.seq (WC.region ?_)))
   refine lr 2 rfl trivial ?_
   replace h := bnd h; obtain ⟨x6, hxx6, h⟩ := h
   refine WL.q [] rfl rfl rfl (q_idx tbOk rfl (by exact trivial) (by decide) (map_get (f := eStr) hxx6)) ?_
   refine lr 1 rfl trivial ?_
   replace h := bnd h; obtain ⟨v5, hvv5, h⟩ := h
   refine WL.callO [(0, 5)] [(0, 5)] [5] fn67 rfl rfl rfl rfl (by exact trivial) (parseNumFrom_con hw hvv5) rfl rfl (by exact ⟨rfl, trivial⟩) rfl rfl rfl rfl rfl rfl ?_
   refine lr 4 rfl (by exact sideR) ?_
   refine WL.nil (WQ.thenNormal (WC.seq (WC.region ?_)))
   refine lr 2 rfl trivial ?_
   replace h := bnd h; obtain ⟨x7, hxx7, h⟩ := h
   refine WL.q [] rfl rfl rfl (q_idx tbOk rfl (by exact trivial) (by decide) (map_get (f := eStr) hxx7)) ?_
   refine lr 1 rfl trivial ?_
   replace h := bnd h; obtain ⟨v6, hvv6, h⟩ := h
   refine WL.callO [(0, 5)] [(0, 5)] [5] fn67 rfl rfl rfl rfl (by exact trivial) (parseNumTo_con hw hvv6) rfl rfl (by exact ⟨rfl, trivial⟩) rfl rfl rfl rfl rfl rfl ?_
   refine lr 4 rfl (by exact sideR) ?_
   refine WL.nil (WQ.thenNormal (WC.seq (WC.seq (WC.region ?_))))
   refine lr 1 rfl trivial ?_
   replace h := bnd h; obtain ⟨x8, hxx8, h⟩ := h
   refine WL.q [] rfl rfl rfl (q_idx tbOk rfl (by exact trivial) (by decide) (map_get (f := eStr) hxx8)) ?_
   refine lr 2 rfl trivial ?_
   refine WL.nil (WQ.thenNormal ?_)
   refine WC.thenCut (X := Bool × Int × Int × Str × (List Str) × Int × Int × Int × Int × Int × Int × Int × Bool × Int × Bool × Int) (fun gG => ⟨[(6, .v (.bool gG.1)), (5, .p 5 0), (4, .v (.sl 1 (v.map eStr))), (2, .p 2 0), (0, .v (.str line))], [(2, .blk 34 [.v (.int .i64 0), .v (.int .i64 0), .v (.str []), .v (.raw (.slice none 0 0)), .v (.int .i64 0), .v (.int .i64 0), .v (.int .i64 0), .v (.int .i64 0), .v (.int .i64 0), .v (.int .i64 0), .v (.int .i64 0), .v (.bool false), .v (.int .i64 0), .v (.bool false), .v (.int .i64 0)]), (5, .blk 34 [.v (.int .i64 gG.2.1), .v (.int .i64 gG.2.2.1), .v (.str gG.2.2.2.1), .v (.sl 1 (gG.2.2.2.2.1.map eStr)), .v (.int .i64 gG.2.2.2.2.2.1), .v (.int .i64 gG.2.2.2.2.2.2.1), .v (.int .i64 gG.2.2.2.2.2.2.2.1), .v (.int .i64 gG.2.2.2.2.2.2.2.2.1), .v (.int .i64 gG.2.2.2.2.2.2.2.2.2.1), .v (.int .i64 gG.2.2.2.2.2.2.2.2.2.2.1), .v (.int .i64 gG.2.2.2.2.2.2.2.2.2.2.2.1), .v (.bool gG.2.2.2.2.2.2.2.2.2.2.2.2.1), .v (.int .i64 gG.2.2.2.2.2.2.2.2.2.2.2.2.2.1), .v (.bool gG.2.2.2.2.2.2.2.2.2.2.2.2.2.2.1), .v (.int .i64 gG.2.2.2.2.2.2.2.2.2.2.2.2.2.2.2)])]⟩) (fun gG => parseMeasure_j2 line v gG.1 gG.2.1 gG.2.2.1 gG.2.2.2.1 gG.2.2.2.2.1 gG.2.2.2.2.2.1 gG.2.2.2.2.2.2.1 gG.2.2.2.2.2.2.2.1 gG.2.2.2.2.2.2.2.2.1 gG.2.2.2.2.2.2.2.2.2.1 gG.2.2.2.2.2.2.2.2.2.2.1 gG.2.2.2.2.2.2.2.2.2.2.2.1 gG.2.2.2.2.2.2.2.2.2.2.2.2.1 gG.2.2.2.2.2.2.2.2.2.2.2.2.2.1 gG.2.2.2.2.2.2.2.2.2.2.2.2.2.2.1 gG.2.2.2.2.2.2.2.2.2.2.2.2.2.2.2 = some r) ?_ ?_
   ·refine WC.cond rfl (fun hc3 => ?_) (fun hc3 => ?_)
    ·replace h := ite_t hc3 h
     refine WC.region ?_
     refine lr 2 rfl trivial ?_
     replace h := bnd h; obtain ⟨x10, hxx10, h⟩ := h
     refine WL.q [] rfl rfl rfl (q_idx tbOk rfl (by exact trivial) (by decide) (map_get (f := eStr) hxx10)) ?_
     refine lr 1 rfl trivial ?_
     replace h := bnd h; obtain ⟨v10, hvv10, h⟩ := h
     refine WL.callO [(0, 5)] [(0, 5)] [5] fn67 rfl rfl rfl rfl (by exact trivial) (parseNumRegistered_con hw hvv10) rfl rfl (by exact ⟨rfl, trivial⟩) rfl rfl rfl rfl rfl rfl ?_
     refine lr 4 rfl (by exact sideR) ?_
     refine WL.nil ?_
     exact WQ.cut [] ((bif v10.1 then (bif v6.1 then (bif v5.1 then (bif v4.1 then (bif v3.1 then v2.1 else false) else false) else false) else false) else false), v10.2.ID, v10.2.Kind, v10.2.Prefix, v10.2.Origins, v10.2.Company, v10.2.From, v10.2.To, v10.2.Registered, v10.2.Duty.Rate, v10.2.Duty.Amount, v10.2.Duty.Per, v10.2.Duty.HasMost, v10.2.Duty.Most, v10.2.Duty.HasLeast, v10.2.Duty.Least) ⟨(by exact ⟨rfl, rfl, rfl, rfl, rfl, trivial⟩), (by exact ⟨rfl, rfl, trivial⟩), rfl, rfl, rfl, rfl⟩ h
    ·replace h := ite_f hc3 h
     refine WC.skip ?_
     exact WQ.cut [] ((bif v6.1 then (bif v5.1 then (bif v4.1 then (bif v3.1 then v2.1 else false) else false) else false) else false), v6.2.ID, v6.2.Kind, v6.2.Prefix, v6.2.Origins, v6.2.Company, v6.2.From, v6.2.To, v6.2.Registered, v6.2.Duty.Rate, v6.2.Duty.Amount, v6.2.Duty.Per, v6.2.Duty.HasMost, v6.2.Duty.Most, v6.2.Duty.HasLeast, v6.2.Duty.Least) ⟨(by exact ⟨rfl, rfl, rfl, rfl, rfl, trivial⟩), (by exact ⟨rfl, rfl, trivial⟩), rfl, rfl, rfl, rfl⟩ h
   ·rintro ⟨ok, c5_0, c5_1, c5_2, c5_32, c5_4, c5_5, c5_6, c5_7, c5_8, c5_9, c5_10, c5_11, c5_12, c5_13, c5_14⟩ h
    replace h : parseMeasure_j2 line v ok c5_0 c5_1 c5_2 c5_32 c5_4 c5_5 c5_6 c5_7 c5_8 c5_9 c5_10 c5_11 c5_12 c5_13 c5_14 = some _ := h
    unfold parseMeasure_j2 at h
    show WC _ _ _ ⟨[(6, .v (.bool ok)), (5, .p 5 0), (4, .v (.sl 1 (v.map eStr))), (2, .p 2 0), (0, .v (.str line))], [(2, .blk 34 [.v (.int .i64 0), .v (.int .i64 0), .v (.str []), .v (.raw (.slice none 0 0)), .v (.int .i64 0), .v (.int .i64 0), .v (.int .i64 0), .v (.int .i64 0), .v (.int .i64 0), .v (.int .i64 0), .v (.int .i64 0), .v (.bool false), .v (.int .i64 0), .v (.bool false), .v (.int .i64 0)]), (5, .blk 34 [.v (.int .i64 c5_0), .v (.int .i64 c5_1), .v (.str c5_2), .v (.sl 1 (c5_32.map eStr)), .v (.int .i64 c5_4), .v (.int .i64 c5_5), .v (.int .i64 c5_6), .v (.int .i64 c5_7), .v (.int .i64 c5_8), .v (.int .i64 c5_9), .v (.int .i64 c5_10), .v (.bool c5_11), .v (.int .i64 c5_12), .v (.bool c5_13), .v (.int .i64 c5_14)])]⟩ _ _
    refine WC.seq (WC.region ?_)
    refine lr 1 rfl trivial ?_
    replace h := bnd h; obtain ⟨x9, hxx9, h⟩ := h
    refine WL.q [] rfl rfl rfl (q_idx tbOk rfl (by exact trivial) (by decide) (map_get (f := eStr) hxx9)) ?_
    refine lr 1 rfl trivial ?_
    replace h := bnd h; obtain ⟨v7, hvv7, h⟩ := h
    refine WL.call0 fn68 rfl rfl rfl rfl (by exact trivial) rfl (dutyParse_con hw hvv7) ?_
    refine lr 6 rfl trivial ?_
    refine WL.nil (WQ.thenNormal (WC.seq (WC.region ?_)))
    refine lr 3 rfl trivial ?_
    refine WL.nil (WQ.thenNormal (WC.seq (WC.seq (WC.region ?_))))
    refine lr 8 rfl (by exact sideR) ?_
    refine WL.gmake tbOk (x := .v (.sl 15 ([(⟨c5_0, c5_1, c5_2, c5_32, c5_4, c5_5, c5_6, c5_7, v7.1⟩ : ApiMeasure)].map eApiMeasure))) rfl rfl rfl rfl rfl (fun _ => (by exact sideR)) ?_
    replace h := bnd h; obtain ⟨v8, hvv8, h⟩ := h
    refine WL.gcall0 fn12 rfl rfl rfl rfl rfl (fun _ => (by exact sideR)) rfl (fun hg => (meValidate_con hw (ite_t hg hvv8))) ?_
    refine lr 4 rfl (by exact sideR) ?_
    replace h := bnd h; obtain ⟨v9, hvv9, h⟩ := h
    refine WL.gcall0 fn54 rfl rfl rfl rfl rfl (fun _ => (by exact sideR)) rfl (fun hg => (formatMeasure_con hw (ite_t hg hvv9))) ?_
    refine lr 3 rfl (by exact sideR) ?_
    refine WL.nil (WQ.thenNormal ?_)
    refine WC.cond rfl (fun hc2 => ?_) (fun hc2 => ?_)
    ·replace h := ite_t hc2 h
     refine WC.seq (WC.region ?_)
     refine lr 3 rfl trivial ?_
     refine WL.nil (WQ.thenNormal (WC.ret (WQ.thenRet ?_)))
     cases h
     exact WQ.rets tbOk (r := .tup [.v (.agg [.int .i64 ((⟨0, 0, [], [], 0, 0, 0, 0, (⟨0, 0, 0, false, 0, false, 0⟩ : ApiDuty)⟩ : ApiMeasure).ID), .int .i64 ((⟨0, 0, [], [], 0, 0, 0, 0, (⟨0, 0, 0, false, 0, false, 0⟩ : ApiDuty)⟩ : ApiMeasure).Kind), .str ((⟨0, 0, [], [], 0, 0, 0, 0, (⟨0, 0, 0, false, 0, false, 0⟩ : ApiDuty)⟩ : ApiMeasure).Prefix), .sl 1 (((⟨0, 0, [], [], 0, 0, 0, 0, (⟨0, 0, 0, false, 0, false, 0⟩ : ApiDuty)⟩ : ApiMeasure).Origins).map eStr), .int .i64 ((⟨0, 0, [], [], 0, 0, 0, 0, (⟨0, 0, 0, false, 0, false, 0⟩ : ApiDuty)⟩ : ApiMeasure).Company), .int .i64 ((⟨0, 0, [], [], 0, 0, 0, 0, (⟨0, 0, 0, false, 0, false, 0⟩ : ApiDuty)⟩ : ApiMeasure).From), .int .i64 ((⟨0, 0, [], [], 0, 0, 0, 0, (⟨0, 0, 0, false, 0, false, 0⟩ : ApiDuty)⟩ : ApiMeasure).To), .int .i64 ((⟨0, 0, [], [], 0, 0, 0, 0, (⟨0, 0, 0, false, 0, false, 0⟩ : ApiDuty)⟩ : ApiMeasure).Registered), .int .i64 (((⟨0, 0, [], [], 0, 0, 0, 0, (⟨0, 0, 0, false, 0, false, 0⟩ : ApiDuty)⟩ : ApiMeasure).Duty).Rate), .int .i64 (((⟨0, 0, [], [], 0, 0, 0, 0, (⟨0, 0, 0, false, 0, false, 0⟩ : ApiDuty)⟩ : ApiMeasure).Duty).Amount), .int .i64 (((⟨0, 0, [], [], 0, 0, 0, 0, (⟨0, 0, 0, false, 0, false, 0⟩ : ApiDuty)⟩ : ApiMeasure).Duty).Per), .bool (((⟨0, 0, [], [], 0, 0, 0, 0, (⟨0, 0, 0, false, 0, false, 0⟩ : ApiDuty)⟩ : ApiMeasure).Duty).HasMost), .int .i64 (((⟨0, 0, [], [], 0, 0, 0, 0, (⟨0, 0, 0, false, 0, false, 0⟩ : ApiDuty)⟩ : ApiMeasure).Duty).Most), .bool (((⟨0, 0, [], [], 0, 0, 0, 0, (⟨0, 0, 0, false, 0, false, 0⟩ : ApiDuty)⟩ : ApiMeasure).Duty).HasLeast), .int .i64 (((⟨0, 0, [], [], 0, 0, 0, 0, (⟨0, 0, 0, false, 0, false, 0⟩ : ApiDuty)⟩ : ApiMeasure).Duty).Least)]), .v (.bool false)]) hR [] (.inl rfl) rfl rfl (Le.tup (.cons (Le.agg (.same (.same (.same (.sl 1 (.same (.same (.same (.same (.same (.same (.same (.same (.same (.same (.same .nil)))))))))))))))) (.cons (Le.refl _) .nil))) (by exact trivial) rfl rfl rfl rfl
    ·replace h := ite_f hc2 h
     refine WC.skip (WQ.thenNormal (WC.seq (WC.region ?_)))
     refine lr 3 rfl trivial ?_
     refine WL.nil (WQ.thenNormal (WC.ret ?_))
     cases h
     exact WQ.rets tbOk (r := .tup [.v (.agg [.int .i64 ((⟨c5_0, c5_1, c5_2, c5_32, c5_4, c5_5, c5_6, c5_7, v7.1⟩ : ApiMeasure).ID), .int .i64 ((⟨c5_0, c5_1, c5_2, c5_32, c5_4, c5_5, c5_6, c5_7, v7.1⟩ : ApiMeasure).Kind), .str ((⟨c5_0, c5_1, c5_2, c5_32, c5_4, c5_5, c5_6, c5_7, v7.1⟩ : ApiMeasure).Prefix), .sl 1 (((⟨c5_0, c5_1, c5_2, c5_32, c5_4, c5_5, c5_6, c5_7, v7.1⟩ : ApiMeasure).Origins).map eStr), .int .i64 ((⟨c5_0, c5_1, c5_2, c5_32, c5_4, c5_5, c5_6, c5_7, v7.1⟩ : ApiMeasure).Company), .int .i64 ((⟨c5_0, c5_1, c5_2, c5_32, c5_4, c5_5, c5_6, c5_7, v7.1⟩ : ApiMeasure).From), .int .i64 ((⟨c5_0, c5_1, c5_2, c5_32, c5_4, c5_5, c5_6, c5_7, v7.1⟩ : ApiMeasure).To), .int .i64 ((⟨c5_0, c5_1, c5_2, c5_32, c5_4, c5_5, c5_6, c5_7, v7.1⟩ : ApiMeasure).Registered), .int .i64 (((⟨c5_0, c5_1, c5_2, c5_32, c5_4, c5_5, c5_6, c5_7, v7.1⟩ : ApiMeasure).Duty).Rate), .int .i64 (((⟨c5_0, c5_1, c5_2, c5_32, c5_4, c5_5, c5_6, c5_7, v7.1⟩ : ApiMeasure).Duty).Amount), .int .i64 (((⟨c5_0, c5_1, c5_2, c5_32, c5_4, c5_5, c5_6, c5_7, v7.1⟩ : ApiMeasure).Duty).Per), .bool (((⟨c5_0, c5_1, c5_2, c5_32, c5_4, c5_5, c5_6, c5_7, v7.1⟩ : ApiMeasure).Duty).HasMost), .int .i64 (((⟨c5_0, c5_1, c5_2, c5_32, c5_4, c5_5, c5_6, c5_7, v7.1⟩ : ApiMeasure).Duty).Most), .bool (((⟨c5_0, c5_1, c5_2, c5_32, c5_4, c5_5, c5_6, c5_7, v7.1⟩ : ApiMeasure).Duty).HasLeast), .int .i64 (((⟨c5_0, c5_1, c5_2, c5_32, c5_4, c5_5, c5_6, c5_7, v7.1⟩ : ApiMeasure).Duty).Least)]), .v (.bool true)]) hR [] (.inl rfl) rfl rfl (Le.tup (.cons (Le.refl _) (.cons (Le.refl _) .nil))) (by exact trivial) rfl rfl rfl rfl

theorem meParse_con {wg : World} (hw : WG wg) {s : Str} {r : (List ApiMeasure) × Int × Int} (h : meParse s = some r) : Con Tryz.prog wg gl 20 [.v (.str s)] [] (.tup [.v (.sl 15 (r.1.map eApiMeasure)), .v (.int .i64 r.2.1), .v (.int .i64 r.2.2)]) [] := by
 unfold meParse at h
 refine con_of_WC (S := slotsOf 0 _) Tryz.func20 rfl Tryz.ntmps20 rfl (fun t x hx => (slotsOf_get hx).2) ?_
 intro F L w ρ0 R hR
 show WC _ _ _ ⟨[(0, .v (.str s))], []⟩ _ _
 refine WC.seq (WC.region ?_)
 refine lr 3 rfl trivial ?_
 refine WL.nil (WQ.thenNormal (WC.seq (WC.region ?_)))
 refine lr 1 rfl trivial ?_
 replace h := bnd h; obtain ⟨v, hvv, h⟩ := h
 refine WL.call0 fn41 rfl rfl rfl rfl (by exact trivial) rfl (splitS_con hw hvv) ?_
 refine lr 1 rfl trivial ?_
 refine WL.nil (WQ.thenNormal (WC.seq (WC.region ?_)))
 refine lr 1 rfl trivial ?_
 refine WL.q [] rfl rfl rfl (q_ev tbOk (.v (.int .i64 (v.length : Int))) rfl (by exact trivial) (by exact lenT)) ?_
 refine lr 2 rfl trivial ?_
 refine WL.nil (WQ.thenNormal (WC.seq (WC.region ?_)))
 refine lr 1 rfl trivial ?_
 refine WL.nil (WQ.thenNormal (WC.seq (WC.seq (WC.region ?_))))
 refine lr 3 rfl trivial ?_
 obtain ⟨g1, h⟩ := grd h
 refine WL.q [] rfl rfl rfl (x := .v (.sl 1 (((v.take (IntKind.i64.wrap ((v.length : Int) - (1 : Int))).toNat).drop (0 : Int).toNat).map eStr))) (q_slice3 tbOk rfl (by exact sideR) (by simpa only [List.length_map] using g1) (by first | (simp only [List.map_take, List.map_drop]; done) | (simp only [List.map_take, List.map_drop]; rfl))) ?_
 refine WL.q [] rfl rfl rfl (q_ev tbOk (.v (.int .i64 (((v.take (IntKind.i64.wrap ((v.length : Int) - (1 : Int))).toNat).drop (0 : Int).toNat).length : Int))) rfl (by exact trivial) (by exact lenT)) ?_
 refine lr 1 rfl trivial ?_
 refine WL.nil (WQ.thenNormal ?_)
 refine WC.thenCut (X := (List ApiMeasure)) (fun gG => ⟨[(7, .r 1007), (6, .v (.int .i64 (IntKind.i64.wrap ((v.length : Int) - (1 : Int))))), (5, .v (.sl 1 (v.map eStr)))], [(1007, .row 34 15 (gG.map eApiMeasure))]⟩) (fun gG => meParse_j1 v gG = some r) ?_ ?_
 ·refine WC.block ?_
  obtain ⟨eQ1, hl1, hk1⟩ := bnd h
  clear h
  refine WC.rowNil 7 1007 34 15 rfl rfl ?_
  refine WC.loop (σ := Int × (List ApiMeasure)) (τ := (((List ApiMeasure) × Int × Int) ⊕ ((List ApiMeasure)))) (fun sS => ⟨[(23, .v (.int .i64 sS.1)), (22, .v (.int .i64 (((v.take (IntKind.i64.wrap ((v.length : Int) - (1 : Int))).toNat).drop (0 : Int).toNat).length : Int))), (21, .v (.sl 1 (((v.take (IntKind.i64.wrap ((v.length : Int) - (1 : Int))).toNat).drop (0 : Int).toNat).map eStr))), (7, .r 1007), (6, .v (.int .i64 (IntKind.i64.wrap ((v.length : Int) - (1 : Int))))), (5, .v (.sl 1 (v.map eStr)))], [(1007, .row 34 15 (sS.2.map eApiMeasure))]⟩) (meParse_b1 v) [] ((0 : Int), []) hl1 ⟨(by exact ⟨rfl, rfl, rfl, rfl, rfl, rfl, trivial⟩), (by exact ⟨rfl, trivial⟩), rfl, rfl, rfl, rfl⟩ ?_
  rintro ⟨t232, l2⟩ m hn1 he1 hx1
  obtain ⟨o1, hf1⟩ := some_of hx1
  have h := hf1
  unfold meParse_b1 at h
  show WC _ _ _ ⟨[(23, .v (.int .i64 t232)), (22, .v (.int .i64 (((v.take (IntKind.i64.wrap ((v.length : Int) - (1 : Int))).toNat).drop (0 : Int).toNat).length : Int))), (21, .v (.sl 1 (((v.take (IntKind.i64.wrap ((v.length : Int) - (1 : Int))).toNat).drop (0 : Int).toNat).map eStr))), (7, .r 1007), (6, .v (.int .i64 (IntKind.i64.wrap ((v.length : Int) - (1 : Int))))), (5, .v (.sl 1 (v.map eStr)))], [(1007, .row 34 15 (l2.map eApiMeasure))]⟩ _ _
  refine WC.seq (WC.region ?_)
  refine lr 1 rfl trivial ?_
  refine WL.nil (WQ.thenNormal (WC.seq ?_))
  refine WC.cond rfl (fun hc3 => ?_) (fun hc3 => ?_)
  ·replace h := ite_t hc3 h
   refine WC.skip (WQ.thenNormal (WC.seq (WC.block (WC.seq (WC.region ?_)))))
   refine lr 1 rfl trivial ?_
   obtain ⟨g3, h⟩ := grd h
   replace h := bnd h; obtain ⟨x4, hxx4, h⟩ := h
   refine WL.q [] rfl rfl rfl (q_idx tbOk rfl (by exact trivial) g3 (map_get (f := eStr) hxx4)) ?_
   refine lr 3 rfl trivial ?_
   refine WL.nil (WQ.thenNormal (WC.seq (WC.region ?_)))
   refine lr 1 rfl trivial ?_
   replace h := bnd h; obtain ⟨v5, hvv5, h⟩ := h
   refine WL.call0 fn42 rfl rfl rfl rfl (by exact trivial) rfl (parseMeasure_con hw hvv5) ?_
   refine lr 6 rfl trivial ?_
   refine WL.nil (WQ.thenNormal (WC.seq (WC.seq (WC.region ?_))))
   refine lr 2 rfl trivial ?_
   refine WL.nil (WQ.thenNormal ?_)
   refine WC.cond rfl (fun hc4 => ?_) (fun hc4 => ?_)
   ·replace h := ite_t hc4 h
    refine WC.seq (WC.region ?_)
    refine lr 4 rfl trivial ?_
    refine WL.nil (WQ.thenNormal (WC.ret (WQ.thenRet (WQ.blockRet (WQ.thenRet ?_)))))
    cases h
    have he := he1 _ hf1
    subst he
    have h : some ([], t232, (4 : Int)) = some _ := hk1
    refine WQ.thenRet (WQ.blockRet (WQ.thenRet ?_))
    cases h
    exact WQ.rets tbOk (r := .tup [.v (.sl 15 ([].map eApiMeasure)), .v (.int .i64 t232), .v (.int .i64 (4 : Int))]) hR [] (.inl rfl) rfl rfl (Le.tup (.cons (Le.nil 15) (.cons (Le.refl _) (.cons (Le.refl _) .nil)))) (by exact trivial) rfl rfl rfl rfl
   ·replace h := ite_f hc4 h
    refine WC.skip (WQ.thenNormal (WC.region ?_))
    refine lr 3 rfl trivial ?_
    obtain ⟨g4, h⟩ := grd h
    refine WL.append tbOk ((l2 ++ [v5.1]).map eApiMeasure) [39, 1007] ap22 rfl rfl rfl rfl (fun _ e => by cases e; rfl) (by exact trivial) (map_cells (f := eApiMeasure) (xs := [v5.1]) fun _ => rfl) (by have := g4; simp only [List.length_map, List.length_nil, List.length_cons] at this ⊢; omega) rfl rfl (by simp only [List.map_append]; try rfl) rfl ?_
    refine lr 1 rfl trivial ?_
    refine WL.nil (WQ.blockNormal (WQ.thenNormal (WC.region ?_)))
    refine lr 2 rfl trivial ?_
    refine WL.nil ?_
    cases h
    exact WQ.next [(1007, 39)] ((IntKind.i64.wrap (t232 + (1 : Int))), (l2 ++ [v5.1])) ⟨(by exact ⟨rfl, rfl, rfl, rfl, rfl, rfl, trivial⟩), (by exact ⟨rfl, trivial⟩), rfl, rfl, rfl, rfl⟩ (hn1 _ hf1)
  ·replace h := ite_f hc3 h
   refine WC.exit (WQ.thenExit ?_)
   cases h
   have he := he1 _ hf1
   subst he
   replace h := hk1
   try dsimp only at h
   refine WQ.thenExit (WQ.blockExit ?_)
   exact WQ.cut [] l2 ⟨(by exact ⟨rfl, rfl, rfl, trivial⟩), (by exact ⟨rfl, trivial⟩), rfl, rfl, rfl, rfl⟩ h
 ·intro l h
  replace h : meParse_j1 v l = some _ := h
  unfold meParse_j1 at h
  show WC _ _ _ ⟨[(7, .r 1007), (6, .v (.int .i64 (IntKind.i64.wrap ((v.length : Int) - (1 : Int))))), (5, .v (.sl 1 (v.map eStr)))], [(1007, .row 34 15 (l.map eApiMeasure))]⟩ _ _
  refine WC.seq (WC.seq (WC.region ?_))
  refine lr 2 rfl trivial ?_
  obtain ⟨g2, h⟩ := grd h
  replace h := bnd h; obtain ⟨x, hxx, h⟩ := h
  refine WL.q [] rfl rfl rfl (q_idx tbOk rfl (by exact trivial) g2 (map_get (f := eStr) hxx)) ?_
  refine lr 2 rfl trivial ?_
  refine WL.nil (WQ.thenNormal ?_)
  refine WC.cond rfl (fun hc1 => ?_) (fun hc1 => ?_)
  ·replace h := ite_t hc1 h
   refine WC.seq (WC.region ?_)
   refine lr 4 rfl trivial ?_
   refine WL.nil (WQ.thenNormal (WC.ret (WQ.thenRet ?_)))
   cases h
   exact WQ.rets tbOk (r := .tup [.v (.sl 15 ([].map eApiMeasure)), .v (.int .i64 (IntKind.i64.wrap ((v.length : Int) - (1 : Int)))), .v (.int .i64 (4 : Int))]) hR [] (.inl rfl) rfl rfl (Le.tup (.cons (Le.nil 15) (.cons (Le.refl _) (.cons (Le.refl _) .nil)))) (by exact trivial) rfl rfl rfl rfl
  ·replace h := ite_f hc1 h
   refine WC.skip (WQ.thenNormal (WC.seq (WC.seq ?_)))
   refine WC.publish 1007 rfl rfl ?_
   refine WC.region ?_
   refine lr 1 rfl trivial ?_
   replace h := bnd h; obtain ⟨v2, hvv2, h⟩ := h
   refine WL.call0 fn12 rfl rfl rfl rfl (by exact trivial) rfl (meValidate_con hw hvv2) ?_
   refine lr 1 rfl trivial ?_
   refine WL.nil (WQ.thenNormal (WC.seq (WC.region ?_)))
   refine lr 2 rfl trivial ?_
   refine WL.nil (WQ.thenNormal ?_)
   refine WC.cond rfl (fun hc2 => ?_) (fun hc2 => ?_)
   ·replace h := ite_t hc2 h
    refine WC.seq (WC.region ?_)
    refine lr 4 rfl trivial ?_
    refine WL.nil (WQ.thenNormal (WC.ret (WQ.thenRet ?_)))
    cases h
    exact WQ.rets tbOk (r := .tup [.v (.sl 15 ([].map eApiMeasure)), .v (.int .i64 (0 : Int)), .v (.int .i64 v2)]) hR [] (.inl rfl) rfl rfl (Le.tup (.cons (Le.nil 15) (.cons (Le.refl _) (.cons (Le.refl _) .nil)))) (by exact trivial) rfl rfl rfl rfl
   ·replace h := ite_f hc2 h
    refine WC.skip (WQ.thenNormal (WC.seq (WC.region ?_)))
    refine lr 5 rfl trivial ?_
    refine WL.nil (WQ.thenNormal (WC.ret ?_))
    cases h
    exact WQ.rets tbOk (r := .tup [.v (.sl 15 (l.map eApiMeasure)), .v (.int .i64 (IntKind.i64.wrap ((v.length : Int) - (1 : Int)))), .v (.int .i64 (0 : Int))]) hR [] (.inl rfl) rfl rfl (Le.tup (.cons (Le.refl _) (.cons (Le.refl _) (.cons (Le.refl _) .nil)))) (by exact trivial) rfl rfl rfl rfl

end Go.Proofs.YtbilobjddflpeaaGreatDoor
