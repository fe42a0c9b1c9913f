/- Plain data of the program, and how they lie in cells; by program (gen.py). -/
import Derived.Test.YtcfkiahbipjbmaaGreatDoorVz
namespace Go.C
open Go.V

abbrev Str := List UInt8

def eInt_i64 (x : Int) : List D := [.int .i64 x]
def eInt_i32 (x : Int) : List D := [.int .i32 x]
def eInt_u8 (x : Int) : List D := [.int .u8 x]
def eInt_u64 (x : Int) : List D := [.int .u64 x]
def eInt_u32 (x : Int) : List D := [.int .u32 x]
def eBool (x : Bool) : List D := [.bool x]
def eStr (x : Str) : List D := [.str x]

def okI_i64 (n : Int) : Prop := -9223372036854775808 ≤ n ∧ n ≤ 9223372036854775807
instance (n : Int) : Decidable (okI_i64 n) := inferInstanceAs (Decidable (_ ∧ _))
def okI_i32 (n : Int) : Prop := -2147483648 ≤ n ∧ n ≤ 2147483647
instance (n : Int) : Decidable (okI_i32 n) := inferInstanceAs (Decidable (_ ∧ _))
def okI_u8 (n : Int) : Prop := 0 ≤ n ∧ n ≤ 255
instance (n : Int) : Decidable (okI_u8 n) := inferInstanceAs (Decidable (_ ∧ _))
def okI_u64 (n : Int) : Prop := 0 ≤ n ∧ n ≤ 18446744073709551615
instance (n : Int) : Decidable (okI_u64 n) := inferInstanceAs (Decidable (_ ∧ _))
def okI_u32 (n : Int) : Prop := 0 ≤ n ∧ n ≤ 4294967295
instance (n : Int) : Decidable (okI_u32 n) := inferInstanceAs (Decidable (_ ∧ _))

structure ApiMaterial where
  Name : Str
  Share : Int
deriving Inhabited
def eApiMaterial (x : ApiMaterial) : List D := [.str x.Name, .int .i64 x.Share]
def okApiMaterial (a : ApiMaterial) : Prop := a.Name.length ≤ 9223372036854775807 ∧ okI_i64 a.Share

structure ApiComponent where
  Words : (List Str)
  Share : Int
deriving Inhabited
def eApiComponent (x : ApiComponent) : List D := [.sl 1 (x.Words.map eStr), .int .i64 x.Share]
def okApiComponent (a : ApiComponent) : Prop := (a.Words.length ≤ 9223372036854775807 ∧ ∀ x, x ∈ a.Words → x.length ≤ 9223372036854775807) ∧ okI_i64 a.Share

structure ApiGood where
  Words : (List Str)
  Materials : (List ApiMaterial)
  Parts : (List ApiComponent)
  Incomplete : Bool
deriving Inhabited
def eApiGood (x : ApiGood) : List D := [.sl 1 (x.Words.map eStr), .sl 2 (x.Materials.map eApiMaterial), .sl 2 (x.Parts.map eApiComponent), .bool x.Incomplete]
def okApiGood (a : ApiGood) : Prop := (a.Words.length ≤ 9223372036854775807 ∧ ∀ x, x ∈ a.Words → x.length ≤ 9223372036854775807) ∧ (a.Materials.length ≤ 9223372036854775807 ∧ ∀ x, x ∈ a.Materials → okApiMaterial x) ∧ (a.Parts.length ≤ 9223372036854775807 ∧ ∀ x, x ∈ a.Parts → okApiComponent x)

structure CustomsmadeSource where
  L : (List Int)
  I : Int
deriving Inhabited
def eCustomsmadeSource (x : CustomsmadeSource) : List D := [.sl 1 (x.L.map eInt_i64), .int .i64 x.I]
def okCustomsmadeSource (a : CustomsmadeSource) : Prop := (a.L.length ≤ 9223372036854775807 ∧ ∀ x, x ∈ a.L → okI_i64 x) ∧ okI_i64 a.I

def eLStr (x : (List Str)) : List D := [.sl 1 (x.map eStr)]
def eLInt_i64 (x : (List Int)) : List D := [.sl 1 (x.map eInt_i64)]
end Go.C
