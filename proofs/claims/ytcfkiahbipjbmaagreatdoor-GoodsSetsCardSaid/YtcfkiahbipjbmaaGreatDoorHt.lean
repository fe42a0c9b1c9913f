/- goods.Common and goods.Subset, short or long. -/
import Derived.Test.YtcfkiahbipjbmaaGreatDoorCo
import Derived.Test.YtcfkiahbipjbmaaGreatDoorHs
set_option linter.unusedVariables false
set_option linter.unusedSimpArgs false
namespace Go.Proofs.YtcfkiahbipjbmaaGreatDoor
open Go.V Go.C Go.RowKit

theorem commonP_con {wg : World} (hw : WG wg) {a b : List Str} {r : Int} (h : commonP a b = some r) : Con Tryz.prog wg gl 11 [.v (.sl 1 (a.map eStr)), .v (.sl 1 (b.map eStr))] [] (.v (.int .i64 r)) [] := by
  unfold commonP at h
  split at h
  · exact commonS_con hw h
  · exact commonB_con hw h
theorem subsetP_con {wg : World} (hw : WG wg) {a b : List Str} {r : Bool} (h : subsetP a b = some r) : Con Tryz.prog wg gl 9 [.v (.sl 1 (a.map eStr)), .v (.sl 1 (b.map eStr))] [] (.v (.bool r)) [] := by
  unfold subsetP at h
  split at h
  · exact subset_con hw h
  · exact subsetB_con hw h

end Go.Proofs.YtcfkiahbipjbmaaGreatDoor
