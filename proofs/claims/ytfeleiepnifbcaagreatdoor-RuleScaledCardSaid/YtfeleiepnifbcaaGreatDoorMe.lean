/- The tests of a rule, by their methods: plain functions. No program in sight. -/
import Derived.Test.YtfeleiepnifbcaaGreatDoorPe
set_option linter.unusedVariables false
namespace Go.C
open Go.V

noncomputable def witI : Nat → RuleTest → ApiCase → Option ((List Int) × Bool)
  | 0, _, _ => none
  | _ + 1, .one s, c => singleW s c
  | n + 1, .all l, c => everyW (witI n) l c
  | n + 1, .any l, c => someW (witI n) l c
noncomputable def folI : Nat → RuleTest → ApiCase → List Int → Option ((List Int) × Bool)
  | 0, _, _, _ => none
  | _ + 1, .one s, c, p => singleF s c p
  | n + 1, .all l, c, p => everyF (folI n) l c p
  | n + 1, .any l, c, p => someF (folI n) l c p

end Go.C
