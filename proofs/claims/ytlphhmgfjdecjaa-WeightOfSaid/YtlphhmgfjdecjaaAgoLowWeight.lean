/- Lowered functions of a package, callees by their numbers. Printed by a program of this session. Conditions: none. -/
import Derived.Test.YtlphhmgfjdecjaaAgo27
set_option maxRecDepth 100000
set_option linter.unusedVariables false
namespace Go.Ago
def L_weight_Less (n_math_Signbit : Nat) (n_cmp_Less_float64 : Nat) : LCode :=
 .seq (
  .region false [⟨(some 4), (.mv (.cst (.d (.bool false)))), none⟩] []) (
 .seq (
  .seq (
   .region false [⟨(some 5), (.mv (.tmp 0)), none⟩,
     ⟨(some 6), (.fl (.bin .eql) (.tmp 5) (.cst (.d (.flt .f64 0)))), none⟩,
     ⟨(some 7), (.mv (.tmp 6)), none⟩,
     ⟨(some 8), (.mv (.tmp 1)), (some (7, true))⟩,
     ⟨(some 9), (.fl (.bin .eql) (.tmp 8) (.cst (.d (.flt .f64 0)))), (some (7, true))⟩,
     ⟨(some 10), (.pick (.tmp 7) (.tmp 9) (.cst (.d (.bool false)))), none⟩] []) (
  .cond (.tmp 10) (
   .seq (
    .region false [⟨(some 11), (.mv (.tmp 0)), none⟩,
      ⟨(some 12), (.call 0 false (.cst (.d (.fn n_math_Signbit))) [(.tmp 11)]), none⟩,
      ⟨(some 13), (.mv (.tmp 12)), none⟩,
      ⟨(some 14), (.mv (.tmp 1)), (some (13, true))⟩,
      ⟨(some 15), (.call 0 false (.cst (.d (.fn n_math_Signbit))) [(.tmp 14)]), (some (13, true))⟩,
      ⟨(some 16), (.un .not (.tmp 15)), (some (13, true))⟩,
      ⟨(some 17), (.pick (.tmp 13) (.tmp 16) (.cst (.d (.bool false)))), none⟩,
      ⟨(some 4), (.mv (.tmp 17)), none⟩] []) (
   .ret)) (
   .skip))) (
 .seq (
  .region false [⟨(some 18), (.mv (.tmp 0)), none⟩,
    ⟨(some 19), (.mv (.tmp 1)), none⟩,
    ⟨(some 20), (.call 0 false (.cst (.d (.fn n_cmp_Less_float64))) [(.tmp 18), (.tmp 19)]), none⟩,
    ⟨(some 4), (.mv (.tmp 20)), none⟩] []) (
 .ret)))
def R_weight_Less : List LRes := [(.tmp 4)]
def V_weight_Less : List Nat := [0, 1, 10, 4]

def L_weight_Of : LCode :=
 .seq (
  .region false [⟨(some 4), (.mv (.cst (.d (.flt .f64 0)))), none⟩] []) (
 .seq (
  .region false [⟨(some 5), (.mv (.tmp 0)), none⟩,
    ⟨(some 6), (.fl (.ofInt .f64) (.tmp 5) (.tmp 5)), none⟩,
    ⟨(some 7), (.mv (.tmp 1)), none⟩,
    ⟨(some 8), (.fl (.ofInt .f64) (.tmp 7) (.tmp 7)), none⟩,
    ⟨(some 9), (.fl (.bin .quo) (.tmp 6) (.tmp 8)), none⟩,
    ⟨(some 4), (.mv (.tmp 9)), none⟩] []) (
 .ret))
def R_weight_Of : List LRes := [(.tmp 4)]
def V_weight_Of : List Nat := [0, 1, 4]

def L_weight_Least (n_weight_Less : Nat) : LCode :=
 .seq (
  .region false [⟨(some 2), (.mv (.cst (.d (.int .i64 0)))), none⟩] []) (
 .seq (
  .region false [⟨(some 3), (.mv (.cst (.d (.int .i64 (-1))))), none⟩] []) (
 .seq (
  .seq (
   .region false [⟨(some 5), (.mv (.tmp 0)), none⟩,
     ⟨(some 6), (.len (.tmp 5)), none⟩,
     ⟨(some 7), (.mv (.cst (.d (.int .i64 0)))), none⟩] []) (
  .block 0 (
   .loop (
    .seq (
     .region false [⟨(some 8), (.bin .lss (.tmp 7) (.tmp 6)), none⟩] []) (
    .seq (
     .cond (.tmp 8) (
      .skip) (
      (.exit 0))) (
    .seq (
     .block 1 (
      .seq (
       .region false [⟨(some 9), (.mv (.tmp 7)), none⟩, ⟨(some 4), (.mv (.tmp 9)), none⟩] []) (
      .seq (
       .region true [⟨(some 10), (.mv (.tmp 3)), none⟩,
         ⟨(some 11), (.bin .lss (.tmp 10) (.cst (.d (.int .i64 0)))), none⟩,
         ⟨(some 12), (.mv (.tmp 11)), none⟩,
         ⟨(some 13), (.mv (.tmp 0)), (some (12, false))⟩,
         ⟨(some 14), (.mv (.tmp 4)), (some (12, false))⟩,
         ⟨(some 15), (.idxAddr 1 (.tmp 13) (.tmp 14)), (some (12, false))⟩,
         ⟨(some 16), (.load false 1 (.tmp 15)), (some (12, false))⟩,
         ⟨(some 17), (.mv (.tmp 0)), (some (12, false))⟩,
         ⟨(some 18), (.mv (.tmp 3)), (some (12, false))⟩,
         ⟨(some 19), (.idxAddr 1 (.tmp 17) (.tmp 18)), (some (12, false))⟩,
         ⟨(some 20), (.load false 1 (.tmp 19)), (some (12, false))⟩,
         ⟨(some 21), (.call 0 false (.cst (.d (.fn n_weight_Less))) [(.tmp 16), (.tmp 20)]), (some (12, false))⟩,
         ⟨(some 22), (.pick (.tmp 12) (.cst (.d (.bool true))) (.tmp 21)), none⟩] []) (
      .cond (.tmp 22) (
       .region false [⟨(some 23), (.mv (.tmp 4)), none⟩, ⟨(some 3), (.mv (.tmp 23)), none⟩] []) (
       .skip))))) (
    .region false [⟨(some 24), (.bin .add (.tmp 7) (.cst (.d (.int .i64 1)))), none⟩, ⟨(some 7), (.mv (.tmp 24)), none⟩] []))))))) (
 .seq (
  .region false [⟨(some 25), (.mv (.tmp 3)), none⟩, ⟨(some 2), (.mv (.tmp 25)), none⟩] []) (
 .ret))))
def R_weight_Least : List LRes := [(.tmp 2)]
def V_weight_Least : List Nat := [0, 7, 6, 8, 3, 4, 22, 2]

end Go.Ago
