/- Lowered functions of a package, callees by their numbers. Printed by a program of this session. Conditions: none. -/
import Derived.Test.YtlphhmgfjdecjaaAgoP3
set_option maxRecDepth 100000
set_option linter.unusedVariables false
namespace Go.Ago
end Go.Ago

/- Lowered functions of a package, callees by their numbers. Printed by a program of this session. Conditions: none. -/
set_option maxRecDepth 100000
set_option linter.unusedVariables false
namespace Go.Ago
end Go.Ago

/- Lowered functions of a package, callees by their numbers. Printed by a program of this session. Conditions: none. -/
set_option maxRecDepth 100000
set_option linter.unusedVariables false
namespace Go.Ago
end Go.Ago

/- Lowered functions of a package, callees by their numbers. Printed by a program of this session. Conditions: none. -/
set_option maxRecDepth 100000
set_option linter.unusedVariables false
namespace Go.Ago
def L_slices_Clone_float64 : LCode :=
 .seq (
  .region false [⟨(some 2), (.mv (.cst (.d (.list [] true)))), none⟩] []) (
 .seq (
  .seq (
   .nilq [⟨(some 3), (.mv (.tmp 0)), none⟩] false 4 (.tmp 3)) (
  .cond (.tmp 4) (
   .seq (
    .region false [⟨(some 2), (.mv (.cst (.d (.list [] true)))), none⟩] []) (
   .ret)) (
   .skip))) (
 .seq (
  .region false [⟨(some 5), (.mv (.cst (.d (.list [] true)))), none⟩,
    ⟨(some 6), (.mv (.tmp 0)), none⟩,
    ⟨(some 7), (.append 0 1 8 (.tmp 5) (.tmp 6)), none⟩,
    ⟨(some 2), (.mv (.tmp 7)), none⟩] []) (
 .ret)))
def R_slices_Clone_float64 : List LRes := [(.tmp 2)]
def V_slices_Clone_float64 : List Nat := [0, 4, 2]

end Go.Ago

/- Lowered functions of a package, callees by their numbers. Printed by a program of this session. Conditions: none. -/
set_option maxRecDepth 100000
set_option linter.unusedVariables false
namespace Go.Ago
def L_cmp_Less_float64 (n_cmp_isNaN_float64 : Nat) : LCode :=
 .seq (
  .region false [⟨(some 4), (.mv (.cst (.d (.bool false)))), none⟩] []) (
 .seq (
  .region false [⟨(some 5), (.mv (.tmp 0)), none⟩,
    ⟨(some 6), (.call 0 false (.cst (.d (.fn n_cmp_isNaN_float64))) [(.tmp 5)]), none⟩,
    ⟨(some 7), (.mv (.tmp 6)), none⟩,
    ⟨(some 8), (.mv (.tmp 1)), (some (7, true))⟩,
    ⟨(some 9), (.call 0 false (.cst (.d (.fn n_cmp_isNaN_float64))) [(.tmp 8)]), (some (7, true))⟩,
    ⟨(some 10), (.un .not (.tmp 9)), (some (7, true))⟩,
    ⟨(some 11), (.pick (.tmp 7) (.tmp 10) (.cst (.d (.bool false)))), none⟩,
    ⟨(some 12), (.mv (.tmp 11)), none⟩,
    ⟨(some 13), (.mv (.tmp 0)), (some (12, false))⟩,
    ⟨(some 14), (.mv (.tmp 1)), (some (12, false))⟩,
    ⟨(some 15), (.fl (.bin .lss) (.tmp 13) (.tmp 14)), (some (12, false))⟩,
    ⟨(some 16), (.pick (.tmp 12) (.cst (.d (.bool true))) (.tmp 15)), none⟩,
    ⟨(some 4), (.mv (.tmp 16)), none⟩] []) (
 .ret))
def R_cmp_Less_float64 : List LRes := [(.tmp 4)]
def V_cmp_Less_float64 : List Nat := [0, 1, 4]

def L_cmp_isNaN_float64 : LCode :=
 .seq (
  .region false [⟨(some 2), (.mv (.cst (.d (.bool false)))), none⟩] []) (
 .seq (
  .region false [⟨(some 3), (.mv (.tmp 0)), none⟩,
    ⟨(some 4), (.mv (.tmp 0)), none⟩,
    ⟨(some 5), (.fl (.bin .neq) (.tmp 3) (.tmp 4)), none⟩,
    ⟨(some 2), (.mv (.tmp 5)), none⟩] []) (
 .ret))
def R_cmp_isNaN_float64 : List LRes := [(.tmp 2)]
def V_cmp_isNaN_float64 : List Nat := [0, 2]

end Go.Ago

/- Lowered functions of a package, callees by their numbers. Printed by a program of this session. Conditions: none. -/
set_option maxRecDepth 100000
set_option linter.unusedVariables false
namespace Go.Ago
def L_math_Signbit : LCode :=
 .seq (
  .region false [⟨(some 2), (.mv (.cst (.d (.bool false)))), none⟩] []) (
 .seq (
  .region false [⟨(some 3), (.mv (.tmp 0)), none⟩,
    ⟨(some 4), (.fl .bits (.tmp 3) (.tmp 3)), none⟩,
    ⟨(some 5), (.conv .i64 (.tmp 4)), none⟩,
    ⟨(some 6), (.bin .lss (.tmp 5) (.cst (.d (.int .i64 0)))), none⟩,
    ⟨(some 2), (.mv (.tmp 6)), none⟩] []) (
 .ret))
def R_math_Signbit : List LRes := [(.tmp 2)]
def V_math_Signbit : List Nat := [0, 2]

def L_math_NaN : LCode :=
 .seq (
  .region false [⟨(some 0), (.mv (.cst (.d (.flt .f64 0)))), none⟩] []) (
 .seq (
  .region false [⟨(some 1), (.fl .ofBits (.cst (.d (.int .u64 9221120237041090561))) (.cst (.d (.int .u64 9221120237041090561)))), none⟩, ⟨(some 0), (.mv (.tmp 1)), none⟩] []) (
 .ret))
def R_math_NaN : List LRes := [(.tmp 0)]
def V_math_NaN : List Nat := [0]

end Go.Ago

/- Lowered functions of a package, callees by their numbers. Printed by a program of this session. Conditions: none. -/
set_option maxRecDepth 100000
set_option linter.unusedVariables false
namespace Go.Ago
def L_weight_Less (n_math_Signbit : Nat) (n_cmp_Less_float64 : Nat) : LCode :=
 .seq (
  .region false [⟨(some 4), (.mv (.cst (.d (.bool false)))), none⟩] []) (
 .seq (
  .seq (
   .region false [⟨(some 5), (.mv (.tmp 0)), none⟩,
     ⟨(some 6), (.fl (.bin .eql) (.tmp 5) (.cst (.d (.flt .f64 0)))), none⟩,
     ⟨(some 7), (.mv (.tmp 6)), none⟩,
     ⟨(some 8), (.mv (.tmp 1)), (some (7, true))⟩,
     ⟨(some 9), (.fl (.bin .eql) (.tmp 8) (.cst (.d (.flt .f64 0)))), (some (7, true))⟩,
     ⟨(some 10), (.pick (.tmp 7) (.tmp 9) (.cst (.d (.bool false)))), none⟩] []) (
  .cond (.tmp 10) (
   .seq (
    .region false [⟨(some 11), (.mv (.tmp 0)), none⟩,
      ⟨(some 12), (.call 0 false (.cst (.d (.fn n_math_Signbit))) [(.tmp 11)]), none⟩,
      ⟨(some 13), (.mv (.tmp 12)), none⟩,
      ⟨(some 14), (.mv (.tmp 1)), (some (13, true))⟩,
      ⟨(some 15), (.call 0 false (.cst (.d (.fn n_math_Signbit))) [(.tmp 14)]), (some (13, true))⟩,
      ⟨(some 16), (.un .not (.tmp 15)), (some (13, true))⟩,
      ⟨(some 17), (.pick (.tmp 13) (.tmp 16) (.cst (.d (.bool false)))), none⟩,
      ⟨(some 4), (.mv (.tmp 17)), none⟩] []) (
   .ret)) (
   .skip))) (
 .seq (
  .region false [⟨(some 18), (.mv (.tmp 0)), none⟩,
    ⟨(some 19), (.mv (.tmp 1)), none⟩,
    ⟨(some 20), (.call 0 false (.cst (.d (.fn n_cmp_Less_float64))) [(.tmp 18), (.tmp 19)]), none⟩,
    ⟨(some 4), (.mv (.tmp 20)), none⟩] []) (
 .ret)))
def R_weight_Less : List LRes := [(.tmp 4)]
def V_weight_Less : List Nat := [0, 1, 10, 4]

def L_weight_Of : LCode :=
 .seq (
  .region false [⟨(some 4), (.mv (.cst (.d (.flt .f64 0)))), none⟩] []) (
 .seq (
  .region false [⟨(some 5), (.mv (.tmp 0)), none⟩,
    ⟨(some 6), (.fl (.ofInt .f64) (.tmp 5) (.tmp 5)), none⟩,
    ⟨(some 7), (.mv (.tmp 1)), none⟩,
    ⟨(some 8), (.fl (.ofInt .f64) (.tmp 7) (.tmp 7)), none⟩,
    ⟨(some 9), (.fl (.bin .quo) (.tmp 6) (.tmp 8)), none⟩,
    ⟨(some 4), (.mv (.tmp 9)), none⟩] []) (
 .ret))
def R_weight_Of : List LRes := [(.tmp 4)]
def V_weight_Of : List Nat := [0, 1, 4]

def L_weight_Least (n_weight_Less : Nat) : LCode :=
 .seq (
  .region false [⟨(some 2), (.mv (.cst (.d (.int .i64 0)))), none⟩] []) (
 .seq (
  .region false [⟨(some 3), (.mv (.cst (.d (.int .i64 (-1))))), none⟩] []) (
 .seq (
  .seq (
   .region false [⟨(some 5), (.mv (.tmp 0)), none⟩,
     ⟨(some 6), (.len (.tmp 5)), none⟩,
     ⟨(some 7), (.mv (.cst (.d (.int .i64 0)))), none⟩] []) (
  .block 0 (
   .loop (
    .seq (
     .region false [⟨(some 8), (.bin .lss (.tmp 7) (.tmp 6)), none⟩] []) (
    .seq (
     .cond (.tmp 8) (
      .skip) (
      (.exit 0))) (
    .seq (
     .block 1 (
      .seq (
       .region false [⟨(some 9), (.mv (.tmp 7)), none⟩, ⟨(some 4), (.mv (.tmp 9)), none⟩] []) (
      .seq (
       .region true [⟨(some 10), (.mv (.tmp 3)), none⟩,
         ⟨(some 11), (.bin .lss (.tmp 10) (.cst (.d (.int .i64 0)))), none⟩,
         ⟨(some 12), (.mv (.tmp 11)), none⟩,
         ⟨(some 13), (.mv (.tmp 0)), (some (12, false))⟩,
         ⟨(some 14), (.mv (.tmp 4)), (some (12, false))⟩,
         ⟨(some 15), (.idxAddr 1 (.tmp 13) (.tmp 14)), (some (12, false))⟩,
         ⟨(some 16), (.load false 1 (.tmp 15)), (some (12, false))⟩,
         ⟨(some 17), (.mv (.tmp 0)), (some (12, false))⟩,
         ⟨(some 18), (.mv (.tmp 3)), (some (12, false))⟩,
         ⟨(some 19), (.idxAddr 1 (.tmp 17) (.tmp 18)), (some (12, false))⟩,
         ⟨(some 20), (.load false 1 (.tmp 19)), (some (12, false))⟩,
         ⟨(some 21), (.call 0 false (.cst (.d (.fn n_weight_Less))) [(.tmp 16), (.tmp 20)]), (some (12, false))⟩,
         ⟨(some 22), (.pick (.tmp 12) (.cst (.d (.bool true))) (.tmp 21)), none⟩] []) (
      .cond (.tmp 22) (
       .region false [⟨(some 23), (.mv (.tmp 4)), none⟩, ⟨(some 3), (.mv (.tmp 23)), none⟩] []) (
       .skip))))) (
    .region false [⟨(some 24), (.bin .add (.tmp 7) (.cst (.d (.int .i64 1)))), none⟩, ⟨(some 7), (.mv (.tmp 24)), none⟩] []))))))) (
 .seq (
  .region false [⟨(some 25), (.mv (.tmp 3)), none⟩, ⟨(some 2), (.mv (.tmp 25)), none⟩] []) (
 .ret))))
def R_weight_Least : List LRes := [(.tmp 2)]
def V_weight_Least : List Nat := [0, 7, 6, 8, 3, 4, 22, 2]

def L_weight_Middle (n_math_NaN : Nat) (n_slices_Clone_float64 : Nat) (n_slices_SortFunc_float64 : Nat) (n_weight_Middle_1 : Nat) : LCode :=
 .seq (
  .region false [⟨(some 2), (.mv (.cst (.d (.flt .f64 0)))), none⟩] []) (
 .seq (
  .seq (
   .region false [⟨(some 4), (.mv (.tmp 0)), none⟩,
     ⟨(some 5), (.len (.tmp 4)), none⟩,
     ⟨(some 6), (.bin .eql (.tmp 5) (.cst (.d (.int .i64 0)))), none⟩] []) (
  .cond (.tmp 6) (
   .seq (
    .region false [⟨(some 7), (.call 0 false (.cst (.d (.fn n_math_NaN))) []), none⟩, ⟨(some 2), (.mv (.tmp 7)), none⟩] []) (
   .ret)) (
   .skip))) (
 .seq (
  .region false [⟨(some 8), (.mv (.tmp 0)), none⟩,
    ⟨(some 9), (.call 0 true (.cst (.d (.fn n_slices_Clone_float64))) [(.tmp 8)]), none⟩,
    ⟨(some 3), (.mv (.tmp 9)), none⟩] []) (
 .seq (
  .region false [⟨(some 10), (.mv (.tmp 3)), none⟩, ⟨(some 11), (.call 0 false (.cst (.d (.fn n_slices_SortFunc_float64))) [(.tmp 10), (.cst (.d (.fn n_weight_Middle_1)))]), none⟩] []) (
 .seq (
  .region false [⟨(some 12), (.mv (.tmp 3)), none⟩,
    ⟨(some 13), (.mv (.tmp 3)), none⟩,
    ⟨(some 14), (.len (.tmp 13)), none⟩,
    ⟨(some 15), (.bin .quo (.tmp 14) (.cst (.d (.int .i64 2)))), none⟩,
    ⟨(some 16), (.idxAddr 1 (.tmp 12) (.tmp 15)), none⟩,
    ⟨(some 17), (.load false 1 (.tmp 16)), none⟩,
    ⟨(some 2), (.mv (.tmp 17)), none⟩] []) (
 .ret)))))
def R_weight_Middle : List LRes := [(.tmp 2)]
def V_weight_Middle : List Nat := [0, 6, 3, 2]

def L_weight_Middle_1 (n_weight_Less : Nat) : LCode :=
 .seq (
  .region false [⟨(some 4), (.mv (.cst (.d (.int .i64 0)))), none⟩] []) (
 .seq (
  .block 0 (
   .seq (
    .region false [⟨(some 6), (.mv (.tmp 0)), none⟩,
      ⟨(some 7), (.mv (.tmp 1)), none⟩,
      ⟨(some 8), (.call 0 false (.cst (.d (.fn n_weight_Less))) [(.tmp 6), (.tmp 7)]), none⟩,
      ⟨(some 5), (.mv (.tmp 8)), none⟩] []) (
   .cond (.tmp 5) (
    .seq (
     .region false [⟨(some 4), (.mv (.cst (.d (.int .i64 (-1))))), none⟩] []) (
    .ret)) (
    .seq (
     .region false [⟨(some 10), (.mv (.tmp 1)), none⟩,
       ⟨(some 11), (.mv (.tmp 0)), none⟩,
       ⟨(some 12), (.call 0 false (.cst (.d (.fn n_weight_Less))) [(.tmp 10), (.tmp 11)]), none⟩,
       ⟨(some 9), (.mv (.tmp 12)), none⟩] []) (
    .cond (.tmp 9) (
     .seq (
      .region false [⟨(some 4), (.mv (.cst (.d (.int .i64 1)))), none⟩] []) (
     .ret)) (
     .skip)))))) (
 .seq (
  .region false [⟨(some 4), (.mv (.cst (.d (.int .i64 0)))), none⟩] []) (
 .ret)))
def R_weight_Middle_1 : List LRes := [(.tmp 4)]
def V_weight_Middle_1 : List Nat := [0, 1, 5, 9, 4]

end Go.Ago

/- Lowered functions of a package, callees by their numbers. Printed by a program of this session. Conditions: none. -/
set_option maxRecDepth 100000
set_option linter.unusedVariables false
namespace Go.Ago
def L_ref03_Rank (n_ref03_NaN : Nat) : LCode :=
 .seq (
  .region false [⟨(some 2), (.mv (.cst (.d (.int .u64 0)))), none⟩] []) (
 .seq (
  .seq (
   .region false [⟨(some 4), (.mv (.tmp 0)), none⟩, ⟨(some 5), (.call 0 false (.cst (.d (.fn n_ref03_NaN))) [(.tmp 4)]), none⟩] []) (
  .cond (.tmp 5) (
   .seq (
    .region false [⟨(some 2), (.mv (.cst (.d (.int .u64 0)))), none⟩] []) (
   .ret)) (
   .skip))) (
 .seq (
  .region false [⟨(some 6), (.mv (.tmp 0)), none⟩,
    ⟨(some 7), (.fl .bits (.tmp 6) (.tmp 6)), none⟩,
    ⟨(some 3), (.mv (.tmp 7)), none⟩] []) (
 .seq (
  .seq (
   .region false [⟨(some 8), (.mv (.tmp 3)), none⟩,
     ⟨(some 9), (.bin .shr (.tmp 8) (.cst (.d (.int .u64 63)))), none⟩,
     ⟨(some 10), (.bin .eql (.tmp 9) (.cst (.d (.int .u64 1)))), none⟩] []) (
  .cond (.tmp 10) (
   .seq (
    .region false [⟨(some 11), (.mv (.tmp 3)), none⟩,
      ⟨(some 12), (.un .xor (.tmp 11)), none⟩,
      ⟨(some 2), (.mv (.tmp 12)), none⟩] []) (
   .ret)) (
   .skip))) (
 .seq (
  .region false [⟨(some 13), (.mv (.tmp 3)), none⟩,
    ⟨(some 14), (.bin .or (.tmp 13) (.cst (.d (.int .u64 9223372036854775808)))), none⟩,
    ⟨(some 2), (.mv (.tmp 14)), none⟩] []) (
 .ret)))))
def R_ref03_Rank : List LRes := [(.tmp 2)]
def V_ref03_Rank : List Nat := [0, 5, 3, 10, 2]

def L_ref03_Least (n_ref03_Rank : Nat) : LCode :=
 .seq (
  .region false [⟨(some 2), (.mv (.cst (.d (.int .i64 0)))), none⟩] []) (
 .seq (
  .region false [⟨(some 3), (.mv (.cst (.d (.int .i64 (-1))))), none⟩] []) (
 .seq (
  .seq (
   .region false [⟨(some 5), (.mv (.tmp 0)), none⟩,
     ⟨(some 6), (.len (.tmp 5)), none⟩,
     ⟨(some 7), (.bin .sub (.tmp 6) (.cst (.d (.int .i64 1)))), none⟩,
     ⟨(some 4), (.mv (.tmp 7)), none⟩] []) (
  .block 0 (
   .loop (
    .seq (
     .seq (
      .region false [⟨(some 8), (.mv (.tmp 4)), none⟩, ⟨(some 9), (.bin .geq (.tmp 8) (.cst (.d (.int .i64 0)))), none⟩] []) (
     .cond (.tmp 9) (
      .skip) (
      (.exit 0)))) (
    .seq (
     .block 1 (
      .seq (
       .region true [⟨(some 12), (.mv (.tmp 3)), none⟩,
         ⟨(some 13), (.bin .lss (.tmp 12) (.cst (.d (.int .i64 0)))), none⟩,
         ⟨(some 14), (.mv (.tmp 13)), none⟩,
         ⟨(some 15), (.mv (.tmp 0)), (some (14, false))⟩,
         ⟨(some 16), (.mv (.tmp 4)), (some (14, false))⟩,
         ⟨(some 17), (.idxAddr 1 (.tmp 15) (.tmp 16)), (some (14, false))⟩,
         ⟨(some 18), (.load false 1 (.tmp 17)), (some (14, false))⟩,
         ⟨(some 19), (.call 0 false (.cst (.d (.fn n_ref03_Rank))) [(.tmp 18)]), (some (14, false))⟩,
         ⟨(some 20), (.mv (.tmp 0)), (some (14, false))⟩,
         ⟨(some 21), (.mv (.tmp 3)), (some (14, false))⟩,
         ⟨(some 22), (.idxAddr 1 (.tmp 20) (.tmp 21)), (some (14, false))⟩,
         ⟨(some 23), (.load false 1 (.tmp 22)), (some (14, false))⟩,
         ⟨(some 24), (.call 0 false (.cst (.d (.fn n_ref03_Rank))) [(.tmp 23)]), (some (14, false))⟩,
         ⟨(some 25), (.bin .leq (.tmp 19) (.tmp 24)), (some (14, false))⟩,
         ⟨(some 26), (.pick (.tmp 14) (.cst (.d (.bool true))) (.tmp 25)), none⟩] [(7, 11)]) (
      .cond (.tmp 26) (
       .region false [⟨(some 27), (.mv (.tmp 4)), none⟩, ⟨(some 3), (.mv (.tmp 27)), none⟩] []) (
       .skip)))) (
    .region false [⟨(some 10), (.mv (.tmp 4)), none⟩,
      ⟨(some 11), (.bin .sub (.tmp 10) (.cst (.d (.int .i64 1)))), none⟩,
      ⟨(some 4), (.mv (.tmp 11)), none⟩] [])))))) (
 .seq (
  .region false [⟨(some 28), (.mv (.tmp 3)), none⟩, ⟨(some 2), (.mv (.tmp 28)), none⟩] []) (
 .ret))))
def R_ref03_Least : List LRes := [(.tmp 2)]
def V_ref03_Least : List Nat := [0, 4, 9, 3, 26, 2]

def L_ref03_Alike (n_ref03_Rank : Nat) : LCode :=
 .seq (
  .region false [⟨(some 4), (.mv (.cst (.d (.bool false)))), none⟩] []) (
 .seq (
  .region false [⟨(some 5), (.mv (.tmp 0)), none⟩,
    ⟨(some 6), (.call 0 false (.cst (.d (.fn n_ref03_Rank))) [(.tmp 5)]), none⟩,
    ⟨(some 7), (.mv (.tmp 1)), none⟩,
    ⟨(some 8), (.call 0 false (.cst (.d (.fn n_ref03_Rank))) [(.tmp 7)]), none⟩,
    ⟨(some 9), (.bin .eql (.tmp 6) (.tmp 8)), none⟩,
    ⟨(some 4), (.mv (.tmp 9)), none⟩] []) (
 .ret))
def R_ref03_Alike : List LRes := [(.tmp 4)]
def V_ref03_Alike : List Nat := [0, 1, 4]

def L_ref03_NaN : LCode :=
 .seq (
  .region false [⟨(some 2), (.mv (.cst (.d (.bool false)))), none⟩] []) (
 .seq (
  .region false [⟨(some 4), (.mv (.tmp 0)), none⟩,
    ⟨(some 5), (.fl .bits (.tmp 4) (.tmp 4)), none⟩,
    ⟨(some 3), (.mv (.tmp 5)), none⟩] []) (
 .seq (
  .region false [⟨(some 6), (.mv (.tmp 3)), none⟩,
    ⟨(some 7), (.bin .shl (.tmp 6) (.cst (.d (.int .u64 1)))), none⟩,
    ⟨(some 8), (.bin .shr (.tmp 7) (.cst (.d (.int .u64 53)))), none⟩,
    ⟨(some 9), (.bin .eql (.tmp 8) (.cst (.d (.int .u64 2047)))), none⟩,
    ⟨(some 10), (.mv (.tmp 9)), none⟩,
    ⟨(some 11), (.mv (.tmp 3)), (some (10, true))⟩,
    ⟨(some 12), (.bin .shl (.tmp 11) (.cst (.d (.int .u64 12)))), (some (10, true))⟩,
    ⟨(some 13), (.bin .neq (.tmp 12) (.cst (.d (.int .u64 0)))), (some (10, true))⟩,
    ⟨(some 14), (.pick (.tmp 10) (.tmp 13) (.cst (.d (.bool false)))), none⟩,
    ⟨(some 2), (.mv (.tmp 14)), none⟩] []) (
 .ret)))
def R_ref03_NaN : List LRes := [(.tmp 2)]
def V_ref03_NaN : List Nat := [0, 3, 2]

def L_ref03_Middle (n_ref03_Rank : Nat) : LCode :=
 .seq (
  .region false [⟨(some 2), (.mv (.cst (.d (.flt .f64 0)))), none⟩, ⟨(some 3), (.mv (.cst (.d (.bool false)))), none⟩] []) (
 .seq (
  .seq (
   .region false [⟨(some 4), (.mv (.cst (.d (.int .i64 0)))), none⟩] []) (
  .block 0 (
   .loop (
    .seq (
     .seq (
      .region false [⟨(some 8), (.mv (.tmp 4)), none⟩,
        ⟨(some 9), (.mv (.tmp 0)), none⟩,
        ⟨(some 10), (.len (.tmp 9)), none⟩,
        ⟨(some 11), (.bin .lss (.tmp 8) (.tmp 10)), none⟩] []) (
     .cond (.tmp 11) (
      .skip) (
      (.exit 0)))) (
    .seq (
     .block 1 (
      .seq (
       .region false [⟨(some 5), (.mv (.cst (.d (.int .i64 0)))), none⟩, ⟨(some 6), (.mv (.cst (.d (.int .i64 0)))), none⟩] []) (
      .seq (
       .seq (
        .region false [⟨(some 7), (.mv (.cst (.d (.int .i64 0)))), none⟩] []) (
       .block 2 (
        .loop (
         .seq (
          .seq (
           .region false [⟨(some 14), (.mv (.tmp 7)), none⟩,
             ⟨(some 15), (.mv (.tmp 0)), none⟩,
             ⟨(some 16), (.len (.tmp 15)), none⟩,
             ⟨(some 17), (.bin .lss (.tmp 14) (.tmp 16)), none⟩] []) (
          .cond (.tmp 17) (
           .skip) (
           (.exit 2)))) (
         .seq (
          .block 3 (
           .seq (
            .seq (
             .region true [⟨(some 20), (.mv (.tmp 0)), none⟩,
               ⟨(some 21), (.mv (.tmp 7)), none⟩,
               ⟨(some 22), (.idxAddr 1 (.tmp 20) (.tmp 21)), none⟩,
               ⟨(some 23), (.load false 1 (.tmp 22)), none⟩,
               ⟨(some 24), (.call 0 false (.cst (.d (.fn n_ref03_Rank))) [(.tmp 23)]), none⟩,
               ⟨(some 25), (.mv (.tmp 0)), none⟩,
               ⟨(some 26), (.mv (.tmp 4)), none⟩,
               ⟨(some 27), (.idxAddr 1 (.tmp 25) (.tmp 26)), none⟩,
               ⟨(some 28), (.load false 1 (.tmp 27)), none⟩,
               ⟨(some 29), (.call 0 false (.cst (.d (.fn n_ref03_Rank))) [(.tmp 28)]), none⟩,
               ⟨(some 30), (.bin .lss (.tmp 24) (.tmp 29)), none⟩] [(4, 8)]) (
            .cond (.tmp 30) (
             .region false [⟨(some 31), (.mv (.tmp 5)), none⟩,
               ⟨(some 32), (.bin .add (.tmp 31) (.cst (.d (.int .i64 1)))), none⟩,
               ⟨(some 5), (.mv (.tmp 32)), none⟩] []) (
             .skip))) (
           .seq (
            .region true [⟨(some 33), (.mv (.tmp 0)), none⟩,
              ⟨(some 34), (.mv (.tmp 7)), none⟩,
              ⟨(some 35), (.idxAddr 1 (.tmp 33) (.tmp 34)), none⟩,
              ⟨(some 36), (.load false 1 (.tmp 35)), none⟩,
              ⟨(some 37), (.call 0 false (.cst (.d (.fn n_ref03_Rank))) [(.tmp 36)]), none⟩,
              ⟨(some 38), (.mv (.tmp 0)), none⟩,
              ⟨(some 39), (.mv (.tmp 4)), none⟩,
              ⟨(some 40), (.idxAddr 1 (.tmp 38) (.tmp 39)), none⟩,
              ⟨(some 41), (.load false 1 (.tmp 40)), none⟩,
              ⟨(some 42), (.call 0 false (.cst (.d (.fn n_ref03_Rank))) [(.tmp 41)]), none⟩,
              ⟨(some 43), (.bin .eql (.tmp 37) (.tmp 42)), none⟩] [(4, 8)]) (
           .cond (.tmp 43) (
            .region false [⟨(some 44), (.mv (.tmp 6)), none⟩,
              ⟨(some 45), (.bin .add (.tmp 44) (.cst (.d (.int .i64 1)))), none⟩,
              ⟨(some 6), (.mv (.tmp 45)), none⟩] []) (
            .skip))))) (
         .region false [⟨(some 18), (.mv (.tmp 7)), none⟩,
           ⟨(some 19), (.bin .add (.tmp 18) (.cst (.d (.int .i64 1)))), none⟩,
           ⟨(some 7), (.mv (.tmp 19)), none⟩] [])))))) (
      .seq (
       .region false [⟨(some 46), (.mv (.tmp 5)), none⟩,
         ⟨(some 47), (.mv (.tmp 0)), none⟩,
         ⟨(some 48), (.len (.tmp 47)), none⟩,
         ⟨(some 49), (.bin .quo (.tmp 48) (.cst (.d (.int .i64 2)))), none⟩,
         ⟨(some 50), (.bin .leq (.tmp 46) (.tmp 49)), none⟩,
         ⟨(some 51), (.mv (.tmp 50)), none⟩,
         ⟨(some 52), (.mv (.tmp 0)), (some (51, true))⟩,
         ⟨(some 53), (.len (.tmp 52)), (some (51, true))⟩,
         ⟨(some 54), (.bin .quo (.tmp 53) (.cst (.d (.int .i64 2)))), (some (51, true))⟩,
         ⟨(some 55), (.mv (.tmp 5)), (some (51, true))⟩,
         ⟨(some 56), (.mv (.tmp 6)), (some (51, true))⟩,
         ⟨(some 57), (.bin .add (.tmp 55) (.tmp 56)), (some (51, true))⟩,
         ⟨(some 58), (.bin .lss (.tmp 54) (.tmp 57)), (some (51, true))⟩,
         ⟨(some 59), (.pick (.tmp 51) (.tmp 58) (.cst (.d (.bool false)))), none⟩] []) (
      .cond (.tmp 59) (
       .seq (
        .region false [⟨(some 60), (.mv (.tmp 0)), none⟩,
          ⟨(some 61), (.mv (.tmp 4)), none⟩,
          ⟨(some 62), (.idxAddr 1 (.tmp 60) (.tmp 61)), none⟩,
          ⟨(some 63), (.load false 1 (.tmp 62)), none⟩,
          ⟨(some 2), (.mv (.tmp 63)), none⟩,
          ⟨(some 3), (.mv (.cst (.d (.bool true)))), none⟩] []) (
       .ret)) (
       .skip)))))) (
    .region false [⟨(some 12), (.mv (.tmp 4)), none⟩,
      ⟨(some 13), (.bin .add (.tmp 12) (.cst (.d (.int .i64 1)))), none⟩,
      ⟨(some 4), (.mv (.tmp 13)), none⟩] [])))))) (
 .seq (
  .region false [⟨(some 2), (.mv (.cst (.d (.flt .f64 0)))), none⟩, ⟨(some 3), (.mv (.cst (.d (.bool false)))), none⟩] []) (
 .ret)))
def R_ref03_Middle : List LRes := [(.tmp 2), (.tmp 3)]
def V_ref03_Middle : List Nat := [4, 0, 11, 7, 17, 30, 5, 43, 6, 59, 2, 3]

end Go.Ago

/- Lowered functions of a package, callees by their numbers. Printed by a program of this session. Conditions: none. -/
set_option maxRecDepth 100000
set_option linter.unusedVariables false
namespace Go.Ago
end Go.Ago

/- Lowered functions of a package, callees by their numbers. Printed by a program of this session. Conditions: none. -/
set_option maxRecDepth 100000
set_option linter.unusedVariables false
namespace Go.Ago
end Go.Ago

/- Lowered functions of a package, callees by their numbers. Printed by a program of this session. Conditions: none. -/
set_option maxRecDepth 100000
set_option linter.unusedVariables false
namespace Go.Ago
def L_law03_awake (n_weight_Less : Nat) (n_weight_Of : Nat) (n_weight_Least : Nat) : LCode :=
 .seq (
  .region false [⟨(some 0), (.mv (.cst (.d (.bool false)))), none⟩] []) (
 .seq (
  .region false [⟨(some 1), (.call 0 false (.cst (.d (.fn n_weight_Of))) [(.cst (.d (.int .i64 1))), (.cst (.d (.int .i64 2)))]), none⟩,
    ⟨(some 2), (.fl (.bin .eql) (.tmp 1) (.cst (.d (.flt .f64 4602678819172646912)))), none⟩,
    ⟨(some 3), (.mv (.tmp 2)), none⟩,
    ⟨(some 4), (.call 0 false (.cst (.d (.fn n_weight_Less))) [(.cst (.d (.flt .f64 4607182418800017408))), (.cst (.d (.flt .f64 4611686018427387904)))]), (some (3, true))⟩,
    ⟨(some 5), (.pick (.tmp 3) (.tmp 4) (.cst (.d (.bool false)))), none⟩,
    ⟨(some 6), (.mv (.tmp 5)), none⟩,
    ⟨(some 7), (.bslice 0 1 2 [(.d (.flt .f64 0))] [(0, (.cst (.d (.flt .f64 4613937818241073152)))), (1, (.cst (.d (.flt .f64 4607182418800017408))))]), (some (6, true))⟩,
    ⟨(some 8), (.call 1 false (.cst (.d (.fn n_weight_Least))) [(.tmp 7)]), (some (6, true))⟩,
    ⟨(some 9), (.bin .eql (.tmp 8) (.cst (.d (.int .i64 1)))), (some (6, true))⟩,
    ⟨(some 10), (.pick (.tmp 6) (.tmp 9) (.cst (.d (.bool false)))), none⟩,
    ⟨(some 0), (.mv (.tmp 10)), none⟩] []) (
 .ret))
def R_law03_awake : List LRes := [(.tmp 0)]
def V_law03_awake : List Nat := [0]

def L_law03_WeightLeast (n_law03_awake : Nat) (n_law03_floats : Nat) (n_weight_Middle : Nat) (n_ref03_Middle : Nat) (n_weight_Least : Nat) (n_ref03_Least : Nat) (n_ref03_Alike : Nat) : LCode :=
 .seq (
  .region false [⟨(some 2), (.mv (.cst (.d (.bool false)))), none⟩] []) (
 .seq (
  .seq (
   .region false [⟨(some 7), (.call 0 false (.cst (.d (.fn n_law03_awake))) []), none⟩, ⟨(some 8), (.un .not (.tmp 7)), none⟩] []) (
  .cond (.tmp 8) (
   .seq (
    .region false [⟨(some 2), (.mv (.cst (.d (.bool false)))), none⟩] []) (
   .ret)) (
   .skip))) (
 .seq (
  .region false [⟨(some 9), (.mv (.tmp 0)), none⟩,
    ⟨(some 10), (.call 0 true (.cst (.d (.fn n_law03_floats))) [(.tmp 9)]), none⟩,
    ⟨(some 3), (.mv (.tmp 10)), none⟩] []) (
 .seq (
  .region false [⟨(some 11), (.mv (.tmp 3)), none⟩,
    ⟨(some 12), (.call 0 false (.cst (.d (.fn n_weight_Middle))) [(.tmp 11)]), none⟩,
    ⟨(some 4), (.mv (.tmp 12)), none⟩] []) (
 .seq (
  .region false [⟨(some 14), (.mv (.tmp 3)), none⟩,
    ⟨(some 15), (.call 0 false (.cst (.d (.fn n_ref03_Middle))) [(.tmp 14)]), none⟩,
    ⟨(some 13), (.mv (.tmp 15)), none⟩,
    ⟨(some 16), (.extract 0 (.tmp 13)), none⟩,
    ⟨(some 17), (.extract 1 (.tmp 13)), none⟩,
    ⟨(some 5), (.mv (.tmp 16)), none⟩,
    ⟨(some 6), (.mv (.tmp 17)), none⟩] []) (
 .seq (
  .seq (
   .region false [⟨(some 18), (.mv (.tmp 3)), none⟩,
     ⟨(some 19), (.call 0 false (.cst (.d (.fn n_weight_Least))) [(.tmp 18)]), none⟩,
     ⟨(some 20), (.mv (.tmp 3)), none⟩,
     ⟨(some 21), (.call 0 false (.cst (.d (.fn n_ref03_Least))) [(.tmp 20)]), none⟩,
     ⟨(some 22), (.bin .neq (.tmp 19) (.tmp 21)), none⟩] []) (
  .cond (.tmp 22) (
   .seq (
    .region false [⟨(some 2), (.mv (.cst (.d (.bool false)))), none⟩] []) (
   .ret)) (
   .skip))) (
 .seq (
  .seq (
   .region false [⟨(some 23), (.mv (.tmp 6)), none⟩, ⟨(some 24), (.un .not (.tmp 23)), none⟩] []) (
  .cond (.tmp 24) (
   .seq (
    .region false [⟨(some 25), (.mv (.tmp 4)), none⟩,
      ⟨(some 26), (.mv (.tmp 4)), none⟩,
      ⟨(some 27), (.fl (.bin .neq) (.tmp 25) (.tmp 26)), none⟩,
      ⟨(some 28), (.mv (.tmp 27)), none⟩,
      ⟨(some 29), (.mv (.tmp 3)), (some (28, true))⟩,
      ⟨(some 30), (.len (.tmp 29)), (some (28, true))⟩,
      ⟨(some 31), (.bin .eql (.tmp 30) (.cst (.d (.int .i64 0)))), (some (28, true))⟩,
      ⟨(some 32), (.pick (.tmp 28) (.tmp 31) (.cst (.d (.bool false)))), none⟩,
      ⟨(some 2), (.mv (.tmp 32)), none⟩] []) (
   .ret)) (
   .skip))) (
 .seq (
  .region false [⟨(some 33), (.mv (.tmp 4)), none⟩,
    ⟨(some 34), (.mv (.tmp 5)), none⟩,
    ⟨(some 35), (.call 0 false (.cst (.d (.fn n_ref03_Alike))) [(.tmp 33), (.tmp 34)]), none⟩,
    ⟨(some 2), (.mv (.tmp 35)), none⟩] []) (
 .ret))))))))
def R_law03_WeightLeast : List LRes := [(.tmp 2)]
def V_law03_WeightLeast : List Nat := [8, 0, 3, 22, 6, 24, 4, 5, 2]

def L_law03_floats : LCode :=
 .seq (
  .region false [⟨(some 2), (.mv (.cst (.d (.list [] true)))), none⟩] []) (
 .seq (
  .region false [⟨(some 3), (.mv (.cst (.d (.list [] true)))), none⟩] []) (
 .seq (
  .seq (
   .region false [⟨(some 4), (.mv (.cst (.d (.int .i64 0)))), none⟩] []) (
  .block 0 (
   .loop (
    .seq (
     .seq (
      .region false [⟨(some 5), (.mv (.tmp 4)), none⟩,
        ⟨(some 6), (.mv (.tmp 0)), none⟩,
        ⟨(some 7), (.len (.tmp 6)), none⟩,
        ⟨(some 8), (.bin .lss (.tmp 5) (.tmp 7)), none⟩,
        ⟨(some 9), (.mv (.tmp 8)), none⟩,
        ⟨(some 10), (.mv (.tmp 4)), (some (9, true))⟩,
        ⟨(some 11), (.bin .lss (.tmp 10) (.cst (.d (.int .i64 100)))), (some (9, true))⟩,
        ⟨(some 12), (.pick (.tmp 9) (.tmp 11) (.cst (.d (.bool false)))), none⟩] []) (
     .cond (.tmp 12) (
      .skip) (
      (.exit 0)))) (
    .seq (
     .block 1 (
      .region false [⟨(some 15), (.mv (.tmp 3)), none⟩,
        ⟨(some 16), (.mv (.tmp 0)), none⟩,
        ⟨(some 17), (.mv (.tmp 4)), none⟩,
        ⟨(some 18), (.idxAddr 1 (.tmp 16) (.tmp 17)), none⟩,
        ⟨(some 19), (.load false 1 (.tmp 18)), none⟩,
        ⟨(some 20), (.fl .ofBits (.tmp 19) (.tmp 19)), none⟩,
        ⟨(some 21), (.bslice 0 1 1 [(.d (.flt .f64 0))] [(0, (.tmp 20))]), none⟩,
        ⟨(some 22), (.append 1 1 8 (.tmp 15) (.tmp 21)), none⟩,
        ⟨(some 3), (.mv (.tmp 22)), none⟩] [])) (
    .region false [⟨(some 13), (.mv (.tmp 4)), none⟩,
      ⟨(some 14), (.bin .add (.tmp 13) (.cst (.d (.int .i64 1)))), none⟩,
      ⟨(some 4), (.mv (.tmp 14)), none⟩] [])))))) (
 .seq (
  .region false [⟨(some 23), (.mv (.tmp 3)), none⟩, ⟨(some 2), (.mv (.tmp 23)), none⟩] []) (
 .ret))))
def R_law03_floats : List LRes := [(.tmp 2)]
def V_law03_floats : List Nat := [4, 0, 12, 3, 2]

end Go.Ago

/- Lowered functions of a package, callees by their numbers. Printed by a program of this session. Conditions: none. -/
set_option maxRecDepth 100000
set_option linter.unusedVariables false
namespace Go.Ago
end Go.Ago

/- Lowered functions of a package, callees by their numbers. Printed by a program of this session. Conditions: none. -/
set_option maxRecDepth 100000
set_option linter.unusedVariables false
namespace Go.Ago
end Go.Ago
