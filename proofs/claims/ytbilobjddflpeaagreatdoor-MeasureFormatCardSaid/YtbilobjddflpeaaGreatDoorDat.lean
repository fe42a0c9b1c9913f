/- Plain data of the program, and how they lie in cells; by program (gen.py). -/
import Derived.Test.YtbilobjddflpeaaGreatDoorVn
namespace Go.C
open Go.V

abbrev Str := List UInt8

def eInt_i64 (x : Int) : List D := [.int .i64 x]
def eInt_i32 (x : Int) : List D := [.int .i32 x]
def eInt_u8 (x : Int) : List D := [.int .u8 x]
def eInt_u64 (x : Int) : List D := [.int .u64 x]
def eInt_u32 (x : Int) : List D := [.int .u32 x]
def eBool (x : Bool) : List D := [.bool x]
def eStr (x : Str) : List D := [.str x]

def okI_i64 (n : Int) : Prop := -9223372036854775808 ≤ n ∧ n ≤ 9223372036854775807
instance (n : Int) : Decidable (okI_i64 n) := inferInstanceAs (Decidable (_ ∧ _))
def okI_i32 (n : Int) : Prop := -2147483648 ≤ n ∧ n ≤ 2147483647
instance (n : Int) : Decidable (okI_i32 n) := inferInstanceAs (Decidable (_ ∧ _))
def okI_u8 (n : Int) : Prop := 0 ≤ n ∧ n ≤ 255
instance (n : Int) : Decidable (okI_u8 n) := inferInstanceAs (Decidable (_ ∧ _))
def okI_u64 (n : Int) : Prop := 0 ≤ n ∧ n ≤ 18446744073709551615
instance (n : Int) : Decidable (okI_u64 n) := inferInstanceAs (Decidable (_ ∧ _))
def okI_u32 (n : Int) : Prop := 0 ≤ n ∧ n ≤ 4294967295
instance (n : Int) : Decidable (okI_u32 n) := inferInstanceAs (Decidable (_ ∧ _))

structure ApiDuty where
  Rate : Int
  Amount : Int
  Per : Int
  HasMost : Bool
  Most : Int
  HasLeast : Bool
  Least : Int
deriving Inhabited
def eApiDuty (x : ApiDuty) : List D := [.int .i64 x.Rate, .int .i64 x.Amount, .int .i64 x.Per, .bool x.HasMost, .int .i64 x.Most, .bool x.HasLeast, .int .i64 x.Least]
def okApiDuty (a : ApiDuty) : Prop := okI_i64 a.Rate ∧ okI_i64 a.Amount ∧ okI_i64 a.Per ∧ okI_i64 a.Most ∧ okI_i64 a.Least

structure ApiMeasure where
  ID : Int
  Kind : Int
  Prefix : Str
  Origins : (List Str)
  Company : Int
  From : Int
  To : Int
  Registered : Int
  Duty : ApiDuty
deriving Inhabited
def eApiMeasure (x : ApiMeasure) : List D := [.int .i64 x.ID, .int .i64 x.Kind, .str x.Prefix, .sl 1 (x.Origins.map eStr), .int .i64 x.Company, .int .i64 x.From, .int .i64 x.To, .int .i64 x.Registered, .int .i64 x.Duty.Rate, .int .i64 x.Duty.Amount, .int .i64 x.Duty.Per, .bool x.Duty.HasMost, .int .i64 x.Duty.Most, .bool x.Duty.HasLeast, .int .i64 x.Duty.Least]
def okApiMeasure (a : ApiMeasure) : Prop := okI_i64 a.ID ∧ okI_i64 a.Kind ∧ a.Prefix.length ≤ 9223372036854775807 ∧ (a.Origins.length ≤ 9223372036854775807 ∧ ∀ x, x ∈ a.Origins → x.length ≤ 9223372036854775807) ∧ okI_i64 a.Company ∧ okI_i64 a.From ∧ okI_i64 a.To ∧ okI_i64 a.Registered ∧ okApiDuty a.Duty

structure ApiItem where
  Code : Str
  Origin : Str
  Proof : Bool
  Company : Int
  Day : Int
  Quantity : Int
  Value : Int
  Granted : Int
deriving Inhabited
def eApiItem (x : ApiItem) : List D := [.str x.Code, .str x.Origin, .bool x.Proof, .int .i64 x.Company, .int .i64 x.Day, .int .i64 x.Quantity, .int .i64 x.Value, .int .i64 x.Granted]
def okApiItem (a : ApiItem) : Prop := a.Code.length ≤ 9223372036854775807 ∧ a.Origin.length ≤ 9223372036854775807 ∧ okI_i64 a.Company ∧ okI_i64 a.Day ∧ okI_i64 a.Quantity ∧ okI_i64 a.Value ∧ okI_i64 a.Granted

structure CustomsmadeSource where
  L : (List Int)
  I : Int
deriving Inhabited
def eCustomsmadeSource (x : CustomsmadeSource) : List D := [.sl 1 (x.L.map eInt_i64), .int .i64 x.I]
def okCustomsmadeSource (a : CustomsmadeSource) : Prop := (a.L.length ≤ 9223372036854775807 ∧ ∀ x, x ∈ a.L → okI_i64 x) ∧ okI_i64 a.I

structure StringsBuilder where
  addr : Unit
  buf : (List Int)
deriving Inhabited

end Go.C
