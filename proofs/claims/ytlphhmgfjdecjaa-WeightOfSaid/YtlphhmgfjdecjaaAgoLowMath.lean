/- Lowered functions of a package, callees by their numbers. Printed by a program of this session. Conditions: none. -/
import Derived.Test.YtlphhmgfjdecjaaAgo27
set_option maxRecDepth 100000
set_option linter.unusedVariables false
namespace Go.Ago
def L_math_Inf : LCode :=
 .seq (
  .region false [⟨(some 2), (.mv (.cst (.d (.flt .f64 0)))), none⟩] []) (
 .seq (
  .region false [⟨(some 3), (.mv (.cst (.d (.int .u64 0)))), none⟩] []) (
 .seq (
  .seq (
   .region false [⟨(some 4), (.mv (.tmp 0)), none⟩, ⟨(some 5), (.bin .geq (.tmp 4) (.cst (.d (.int .i64 0)))), none⟩] []) (
  .cond (.tmp 5) (
   .region false [⟨(some 3), (.mv (.cst (.d (.int .u64 9218868437227405312)))), none⟩] []) (
   .region false [⟨(some 3), (.mv (.cst (.d (.int .u64 18442240474082181120)))), none⟩] []))) (
 .seq (
  .region false [⟨(some 6), (.mv (.tmp 3)), none⟩,
    ⟨(some 7), (.fl .ofBits (.tmp 6) (.tmp 6)), none⟩,
    ⟨(some 2), (.mv (.tmp 7)), none⟩] []) (
 .ret))))
def R_math_Inf : List LRes := [(.tmp 2)]
def V_math_Inf : List Nat := [0, 5, 3, 2]

def L_math_Signbit : LCode :=
 .seq (
  .region false [⟨(some 2), (.mv (.cst (.d (.bool false)))), none⟩] []) (
 .seq (
  .region false [⟨(some 3), (.mv (.tmp 0)), none⟩,
    ⟨(some 4), (.fl .bits (.tmp 3) (.tmp 3)), none⟩,
    ⟨(some 5), (.conv .i64 (.tmp 4)), none⟩,
    ⟨(some 6), (.bin .lss (.tmp 5) (.cst (.d (.int .i64 0)))), none⟩,
    ⟨(some 2), (.mv (.tmp 6)), none⟩] []) (
 .ret))
def R_math_Signbit : List LRes := [(.tmp 2)]
def V_math_Signbit : List Nat := [0, 2]

end Go.Ago
