/- Plain data of the program, and how they lie in cells; by program (gen.py). -/
import Derived.Test.YtfeleiepnifbcaaGreatDoorVw
namespace Go.C
open Go.V

abbrev Str := List UInt8

def eInt_i64 (x : Int) : List D := [.int .i64 x]
def eInt_i32 (x : Int) : List D := [.int .i32 x]
def eInt_u8 (x : Int) : List D := [.int .u8 x]
def eInt_u64 (x : Int) : List D := [.int .u64 x]
def eInt_u32 (x : Int) : List D := [.int .u32 x]
def eBool (x : Bool) : List D := [.bool x]
def eStr (x : Str) : List D := [.str x]

def okI_i64 (n : Int) : Prop := -9223372036854775808 ≤ n ∧ n ≤ 9223372036854775807
instance (n : Int) : Decidable (okI_i64 n) := inferInstanceAs (Decidable (_ ∧ _))
def okI_i32 (n : Int) : Prop := -2147483648 ≤ n ∧ n ≤ 2147483647
instance (n : Int) : Decidable (okI_i32 n) := inferInstanceAs (Decidable (_ ∧ _))
def okI_u8 (n : Int) : Prop := 0 ≤ n ∧ n ≤ 255
instance (n : Int) : Decidable (okI_u8 n) := inferInstanceAs (Decidable (_ ∧ _))
def okI_u64 (n : Int) : Prop := 0 ≤ n ∧ n ≤ 18446744073709551615
instance (n : Int) : Decidable (okI_u64 n) := inferInstanceAs (Decidable (_ ∧ _))
def okI_u32 (n : Int) : Prop := 0 ≤ n ∧ n ≤ 4294967295
instance (n : Int) : Decidable (okI_u32 n) := inferInstanceAs (Decidable (_ ∧ _))

structure ApiInput where
  Code : Str
  Value : Int
  Originating : Bool
deriving Inhabited
def eApiInput (x : ApiInput) : List D := [.str x.Code, .int .i64 x.Value, .bool x.Originating]
def okApiInput (a : ApiInput) : Prop := a.Code.length ≤ 9223372036854775807 ∧ okI_i64 a.Value

structure ApiCase where
  Code : Str
  Price : Int
  Obtained : Bool
  Processes : (List Str)
  Inputs : (List ApiInput)
deriving Inhabited
def eApiCase (x : ApiCase) : List D := [.str x.Code, .int .i64 x.Price, .bool x.Obtained, .sl 1 (x.Processes.map eStr), .sl 3 (x.Inputs.map eApiInput)]
def okApiCase (a : ApiCase) : Prop := a.Code.length ≤ 9223372036854775807 ∧ okI_i64 a.Price ∧ (a.Processes.length ≤ 9223372036854775807 ∧ ∀ x, x ∈ a.Processes → x.length ≤ 9223372036854775807) ∧ (a.Inputs.length ≤ 9223372036854775807 ∧ ∀ x, x ∈ a.Inputs → okApiInput x)

structure ApiRule where
  Kind : Int
  Digits : Int
  Except : (List Str)
  Tolerance : Int
  Limit : Int
  Name : Str
  Args : (List ApiRule)
deriving Inhabited
def okApiRule (_ : ApiRule) : Prop := True
mutual
def eApiRule : ApiRule → List D
  | ⟨a0, a1, a2, a3, a4, a5, a6⟩ => [.int .i64 a0, .int .i64 a1, .sl 1 (a2.map eStr), .int .i64 a3, .int .i64 a4, .str a5, .sl 7 (eApiRules a6)]
def eApiRules : List ApiRule → List (List D)
  | [] => []
  | x :: r => eApiRule x :: eApiRules r
end
theorem eApiRules_eq : ∀ l, eApiRules l = l.map eApiRule
  | [] => rfl
  | x :: r => by rw [eApiRules, eApiRules_eq r]; rfl
theorem eApiRule_eq (x : ApiRule) : eApiRule x = [.int .i64 x.Kind, .int .i64 x.Digits, .sl 1 (x.Except.map eStr), .int .i64 x.Tolerance, .int .i64 x.Limit, .str x.Name, .sl 7 (x.Args.map eApiRule)] := by
  cases x; rw [eApiRule, eApiRules_eq]

structure CustomsmadeSource where
  L : (List Int)
  I : Int
deriving Inhabited
def eCustomsmadeSource (x : CustomsmadeSource) : List D := [.sl 1 (x.L.map eInt_i64), .int .i64 x.I]
def okCustomsmadeSource (a : CustomsmadeSource) : Prop := (a.L.length ≤ 9223372036854775807 ∧ ∀ x, x ∈ a.L → okI_i64 x) ∧ okI_i64 a.I

structure RuleParser where
  tokens : (List Str)
  depth : Int
deriving Inhabited
def eRuleParser (x : RuleParser) : List D := [.sl 1 (x.tokens.map eStr), .int .i64 x.depth]
def okRuleParser (a : RuleParser) : Prop := (a.tokens.length ≤ 9223372036854775807 ∧ ∀ x, x ∈ a.tokens → x.length ≤ 9223372036854775807) ∧ okI_i64 a.depth

structure RuleSingle where
  rule : ApiRule
deriving Inhabited
def eRuleSingle (x : RuleSingle) : List D := [.int .i64 x.rule.Kind, .int .i64 x.rule.Digits, .sl 1 (x.rule.Except.map eStr), .int .i64 x.rule.Tolerance, .int .i64 x.rule.Limit, .str x.rule.Name, .sl 7 (x.rule.Args.map eApiRule)]
def okRuleSingle (a : RuleSingle) : Prop := okApiRule a.rule

structure Customsref01Wide where
  Hi : Int
  Lo : Int
deriving Inhabited
def eCustomsref01Wide (x : Customsref01Wide) : List D := [.int .u64 x.Hi, .int .u64 x.Lo]
def okCustomsref01Wide (a : Customsref01Wide) : Prop := okI_u64 a.Hi ∧ okI_u64 a.Lo

structure ExactWide where
  Hi : Int
  Lo : Int
deriving Inhabited
def eExactWide (x : ExactWide) : List D := [.int .u64 x.Hi, .int .u64 x.Lo]
def okExactWide (a : ExactWide) : Prop := okI_u64 a.Hi ∧ okI_u64 a.Lo

def eLInt_i64 (x : (List Int)) : List D := [.sl 1 (x.map eInt_i64)]
inductive RuleTest where
  | one (x : RuleSingle)
  | all (l : List RuleTest)
  | any (l : List RuleTest)
def tRuleTest : RuleTest → Nat
  | .one _ => 85
  | .all _ => 82
  | .any _ => 83
mutual
def pRuleTest : RuleTest → D
  | .one x => .agg (eRuleSingle x)
  | .all l => .sl 1 (eRuleTests l)
  | .any l => .sl 1 (eRuleTests l)
def eRuleTests : List RuleTest → List (List D)
  | [] => []
  | x :: r => [.ifc (tRuleTest x) (pRuleTest x)] :: eRuleTests r
end
def eRuleTest (x : RuleTest) : List D := [.ifc (tRuleTest x) (pRuleTest x)]
theorem eRuleTests_eq : ∀ l, eRuleTests l = l.map eRuleTest
  | [] => rfl
  | x :: r => by rw [eRuleTests, eRuleTests_eq r]; rfl
theorem RuleTest_one (x : RuleSingle) : D.ifc (tRuleTest (.one x)) (pRuleTest (.one x)) = .ifc 85 (.agg (eRuleSingle x)) := by rw [tRuleTest, pRuleTest]
theorem RuleTest_all (l : List RuleTest) : D.ifc (tRuleTest (.all l)) (pRuleTest (.all l)) = .ifc 82 (.sl 1 (l.map eRuleTest)) := by rw [tRuleTest, pRuleTest, eRuleTests_eq]
theorem RuleTest_any (l : List RuleTest) : D.ifc (tRuleTest (.any l)) (pRuleTest (.any l)) = .ifc 83 (.sl 1 (l.map eRuleTest)) := by rw [tRuleTest, pRuleTest, eRuleTests_eq]
instance : Inhabited RuleTest := ⟨.all []⟩
end Go.C
