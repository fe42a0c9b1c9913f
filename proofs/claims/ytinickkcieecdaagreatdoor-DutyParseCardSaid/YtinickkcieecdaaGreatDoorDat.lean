/- Plain data of the program, and how they lie in cells; by program (gen.py). -/
import Derived.Test.YtinickkcieecdaaGreatDoorVn
namespace Go.C
open Go.V

abbrev Str := List UInt8

def eInt_i64 (x : Int) : List D := [.int .i64 x]
def eInt_i32 (x : Int) : List D := [.int .i32 x]
def eInt_u8 (x : Int) : List D := [.int .u8 x]
def eInt_u64 (x : Int) : List D := [.int .u64 x]
def eInt_u32 (x : Int) : List D := [.int .u32 x]
def eBool (x : Bool) : List D := [.bool x]
def eStr (x : Str) : List D := [.str x]

def okI_i64 (n : Int) : Prop := -9223372036854775808 ≤ n ∧ n ≤ 9223372036854775807
instance (n : Int) : Decidable (okI_i64 n) := inferInstanceAs (Decidable (_ ∧ _))
def okI_i32 (n : Int) : Prop := -2147483648 ≤ n ∧ n ≤ 2147483647
instance (n : Int) : Decidable (okI_i32 n) := inferInstanceAs (Decidable (_ ∧ _))
def okI_u8 (n : Int) : Prop := 0 ≤ n ∧ n ≤ 255
instance (n : Int) : Decidable (okI_u8 n) := inferInstanceAs (Decidable (_ ∧ _))
def okI_u64 (n : Int) : Prop := 0 ≤ n ∧ n ≤ 18446744073709551615
instance (n : Int) : Decidable (okI_u64 n) := inferInstanceAs (Decidable (_ ∧ _))
def okI_u32 (n : Int) : Prop := 0 ≤ n ∧ n ≤ 4294967295
instance (n : Int) : Decidable (okI_u32 n) := inferInstanceAs (Decidable (_ ∧ _))

structure ApiDuty where
  Rate : Int
  Amount : Int
  Per : Int
  HasMost : Bool
  Most : Int
  HasLeast : Bool
  Least : Int
deriving Inhabited
def eApiDuty (x : ApiDuty) : List D := [.int .i64 x.Rate, .int .i64 x.Amount, .int .i64 x.Per, .bool x.HasMost, .int .i64 x.Most, .bool x.HasLeast, .int .i64 x.Least]
def okApiDuty (a : ApiDuty) : Prop := okI_i64 a.Rate ∧ okI_i64 a.Amount ∧ okI_i64 a.Per ∧ okI_i64 a.Most ∧ okI_i64 a.Least

structure CustomsmadeSource where
  L : (List Int)
  I : Int
deriving Inhabited
def eCustomsmadeSource (x : CustomsmadeSource) : List D := [.sl 1 (x.L.map eInt_i64), .int .i64 x.I]
def okCustomsmadeSource (a : CustomsmadeSource) : Prop := (a.L.length ≤ 9223372036854775807 ∧ ∀ x, x ∈ a.L → okI_i64 x) ∧ okI_i64 a.I

structure ExactWide where
  Hi : Int
  Lo : Int
deriving Inhabited
def eExactWide (x : ExactWide) : List D := [.int .u64 x.Hi, .int .u64 x.Lo]
def okExactWide (a : ExactWide) : Prop := okI_u64 a.Hi ∧ okI_u64 a.Lo

structure Customsref01Wide where
  Hi : Int
  Lo : Int
deriving Inhabited
def eCustomsref01Wide (x : Customsref01Wide) : List D := [.int .u64 x.Hi, .int .u64 x.Lo]
def okCustomsref01Wide (a : Customsref01Wide) : Prop := okI_u64 a.Hi ∧ okI_u64 a.Lo

end Go.C
