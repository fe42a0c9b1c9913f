/- Plain functions of Go's library. No program in sight. -/
import Derived.Test.YtfeleiepnifbcaaGreatDoorDat
import Derived.Lib.Split
import Derived.Lib.ItoaNum
import Derived.Lib.Join
import Derived.Lib.TrimByte
import Derived.Lib.IndexMore
import Derived.Lib.Strings
import Derived.Lib.AtoiAll
import Derived.Lib.BitFns
import Derived.Lib.SlTrimSet
set_option linter.unusedVariables false
namespace Go.C
open Go.V

abbrev i64 (n : Int) : Prop := okI_i64 n

def itoa (n : Int) : Option Str := if i64 n then some (Lib.itoa n) else none
def joinS (l : List Str) (sep : Str) : Option Str := if l.length ≤ 140737488355328 ∧ (Lib.join l sep).length ≤ 140737488355328 then some (Lib.join l sep) else none
def splitS (s sep : Str) : Option (List Str) := if s.length < 4294967281 ∧ 1 ≤ sep.length then some (Lib.split s sep) else none
def splitNS (s sep : Str) (n : Int) : Option (List Str) := if s.length < 4294967281 ∧ 1 ≤ sep.length ∧ 1 ≤ n ∧ n ≤ 9223372036854775807 then some (Lib.splitN s sep n.toNat) else none
def trimRightS (s c : Str) : Option Str := match c with | [x] => if x.toNat < 128 ∧ s.length ≤ 9223372036854775807 then some (Lib.trimRightB s x) else none | _ => none
def hasPrefixS (s p : Str) : Option Bool := some (Lib.hasPrefix s p)
def trimS (s c : Str) : Option Str := if s.length ≤ 9223372036854775807 ∧ c.length < 4294967281 ∧ (c.all fun b => decide (b.toNat < 128)) = true then some (Lib.trimS s c) else none
def cutS (s sep : Str) : Option (Str × Str × Bool) := if s.length < 4294967281 then some (Lib.cut s sep) else none
def cutSuffixS (s p : Str) : Option (Str × Bool) := if s.length ≤ 9223372036854775807 then some (Lib.trimSuffix s p, Lib.hasSuffix s p) else none
def cutPrefixS (s p : Str) : Option (Str × Bool) := some (Lib.trimPrefix s p, Lib.hasPrefix s p)
def cloneS (l : List Str) : Option (List Str) := if l.length * 16 ≤ 140737488355328 then some l else none
def atoiS (s : Str) : Option (Int × Bool) :=
  if s.length ≤ 281474976710656 then match Lib.atoiAll s with | .ok v => some (v, true) | .range => some (Lib.atoiSat s, false) | _ => some (0, false) else none
def len64 (x : Int) : Option Int := if 0 ≤ x ∧ x ≤ 18446744073709551615 then some (Lib.bitLen x.toNat : Int) else none
def mul64 (x y : Int) : Option (Int × Int) := if 0 ≤ x ∧ x < 18446744073709551616 ∧ 0 ≤ y ∧ y < 18446744073709551616 then some (x * y / 18446744073709551616, x * y % 18446744073709551616) else none
def add64 (x y c : Int) : Option (Int × Int) := if 0 ≤ x ∧ 0 ≤ y ∧ 0 ≤ c ∧ c ≤ 1 then some ((x + y + c) % 18446744073709551616, (x + y + c) / 18446744073709551616) else none

end Go.C
