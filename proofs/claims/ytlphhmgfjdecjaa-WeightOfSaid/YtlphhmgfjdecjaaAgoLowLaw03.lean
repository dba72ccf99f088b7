/- Lowered functions of a package, callees by their numbers. Printed by a program of this session. Conditions: none. -/
import Derived.Test.YtlphhmgfjdecjaaAgo27
set_option maxRecDepth 100000
set_option linter.unusedVariables false
namespace Go.Ago
def L_law03_WeightLess (n_law03_awake : Nat) (n_weight_Less : Nat) (n_ref03_Rank : Nat) : LCode :=
 .seq (
  .region false [⟨(some 4), (.mv (.cst (.d (.bool false)))), none⟩] []) (
 .seq (
  .seq (
   .region false [⟨(some 7), (.call 0 false (.cst (.d (.fn n_law03_awake))) []), none⟩, ⟨(some 8), (.un .not (.tmp 7)), none⟩] []) (
  .cond (.tmp 8) (
   .seq (
    .region false [⟨(some 4), (.mv (.cst (.d (.bool false)))), none⟩] []) (
   .ret)) (
   .skip))) (
 .seq (
  .region false [⟨(some 9), (.mv (.tmp 0)), none⟩,
    ⟨(some 10), (.fl .ofBits (.tmp 9) (.tmp 9)), none⟩,
    ⟨(some 11), (.mv (.tmp 1)), none⟩,
    ⟨(some 12), (.fl .ofBits (.tmp 11) (.tmp 11)), none⟩,
    ⟨(some 5), (.mv (.tmp 10)), none⟩,
    ⟨(some 6), (.mv (.tmp 12)), none⟩] []) (
 .seq (
  .region false [⟨(some 13), (.mv (.tmp 5)), none⟩,
    ⟨(some 14), (.mv (.tmp 6)), none⟩,
    ⟨(some 15), (.call 0 false (.cst (.d (.fn n_weight_Less))) [(.tmp 13), (.tmp 14)]), none⟩,
    ⟨(some 16), (.mv (.tmp 5)), none⟩,
    ⟨(some 17), (.call 0 false (.cst (.d (.fn n_ref03_Rank))) [(.tmp 16)]), none⟩,
    ⟨(some 18), (.mv (.tmp 6)), none⟩,
    ⟨(some 19), (.call 0 false (.cst (.d (.fn n_ref03_Rank))) [(.tmp 18)]), none⟩,
    ⟨(some 20), (.bin .lss (.tmp 17) (.tmp 19)), none⟩,
    ⟨(some 21), (.eq false .bool (.tmp 15) (.tmp 20)), none⟩,
    ⟨(some 4), (.mv (.tmp 21)), none⟩] []) (
 .ret))))
def R_law03_WeightLess : List LRes := [(.tmp 4)]
def V_law03_WeightLess : List Nat := [8, 0, 1, 5, 6, 4]

def L_law03_WeightOrder (n_law03_awake : Nat) (n_weight_Less : Nat) : LCode :=
 .seq (
  .region false [⟨(some 6), (.mv (.cst (.d (.bool false)))), none⟩] []) (
 .seq (
  .seq (
   .region false [⟨(some 11), (.call 0 false (.cst (.d (.fn n_law03_awake))) []), none⟩, ⟨(some 12), (.un .not (.tmp 11)), none⟩] []) (
  .cond (.tmp 12) (
   .seq (
    .region false [⟨(some 6), (.mv (.cst (.d (.bool false)))), none⟩] []) (
   .ret)) (
   .skip))) (
 .seq (
  .region false [⟨(some 13), (.mv (.tmp 0)), none⟩,
    ⟨(some 14), (.fl .ofBits (.tmp 13) (.tmp 13)), none⟩,
    ⟨(some 15), (.mv (.tmp 1)), none⟩,
    ⟨(some 16), (.fl .ofBits (.tmp 15) (.tmp 15)), none⟩,
    ⟨(some 17), (.mv (.tmp 2)), none⟩,
    ⟨(some 18), (.fl .ofBits (.tmp 17) (.tmp 17)), none⟩,
    ⟨(some 7), (.mv (.tmp 14)), none⟩,
    ⟨(some 8), (.mv (.tmp 16)), none⟩,
    ⟨(some 9), (.mv (.tmp 18)), none⟩] []) (
 .seq (
  .region false [⟨(some 19), (.mv (.tmp 0)), none⟩,
    ⟨(some 20), (.mv (.tmp 1)), none⟩,
    ⟨(some 21), (.bin .eql (.tmp 19) (.tmp 20)), none⟩,
    ⟨(some 22), (.mv (.tmp 21)), none⟩,
    ⟨(some 23), (.mv (.tmp 7)), (some (22, false))⟩,
    ⟨(some 24), (.mv (.tmp 7)), (some (22, false))⟩,
    ⟨(some 25), (.fl (.bin .neq) (.tmp 23) (.tmp 24)), (some (22, false))⟩,
    ⟨(some 26), (.mv (.tmp 25)), (some (22, false))⟩,
    ⟨(some 27), (.mv (.tmp 8)), (some (26, true))⟩,
    ⟨(some 28), (.mv (.tmp 8)), (some (26, true))⟩,
    ⟨(some 29), (.fl (.bin .neq) (.tmp 27) (.tmp 28)), (some (26, true))⟩,
    ⟨(some 30), (.pick (.tmp 26) (.tmp 29) (.cst (.d (.bool false)))), (some (22, false))⟩,
    ⟨(some 31), (.pick (.tmp 22) (.cst (.d (.bool true))) (.tmp 30)), none⟩,
    ⟨(some 10), (.mv (.tmp 31)), none⟩] []) (
 .seq (
  .seq (
   .region false [⟨(some 32), (.mv (.tmp 7)), none⟩,
     ⟨(some 33), (.mv (.tmp 8)), none⟩,
     ⟨(some 34), (.call 0 false (.cst (.d (.fn n_weight_Less))) [(.tmp 32), (.tmp 33)]), none⟩,
     ⟨(some 35), (.mv (.tmp 34)), none⟩,
     ⟨(some 36), (.mv (.tmp 8)), (some (35, true))⟩,
     ⟨(some 37), (.mv (.tmp 7)), (some (35, true))⟩,
     ⟨(some 38), (.call 0 false (.cst (.d (.fn n_weight_Less))) [(.tmp 36), (.tmp 37)]), (some (35, true))⟩,
     ⟨(some 39), (.pick (.tmp 35) (.tmp 38) (.cst (.d (.bool false)))), none⟩,
     ⟨(some 40), (.mv (.tmp 39)), none⟩,
     ⟨(some 41), (.mv (.tmp 10)), (some (40, false))⟩,
     ⟨(some 42), (.mv (.tmp 7)), (some (40, false))⟩,
     ⟨(some 43), (.mv (.tmp 8)), (some (40, false))⟩,
     ⟨(some 44), (.call 0 false (.cst (.d (.fn n_weight_Less))) [(.tmp 42), (.tmp 43)]), (some (40, false))⟩,
     ⟨(some 45), (.un .not (.tmp 44)), (some (40, false))⟩,
     ⟨(some 46), (.mv (.tmp 45)), (some (40, false))⟩,
     ⟨(some 47), (.mv (.tmp 8)), (some (46, true))⟩,
     ⟨(some 48), (.mv (.tmp 7)), (some (46, true))⟩,
     ⟨(some 49), (.call 0 false (.cst (.d (.fn n_weight_Less))) [(.tmp 47), (.tmp 48)]), (some (46, true))⟩,
     ⟨(some 50), (.un .not (.tmp 49)), (some (46, true))⟩,
     ⟨(some 51), (.pick (.tmp 46) (.tmp 50) (.cst (.d (.bool false)))), (some (40, false))⟩,
     ⟨(some 52), (.eq true .bool (.tmp 41) (.tmp 51)), (some (40, false))⟩,
     ⟨(some 53), (.pick (.tmp 40) (.cst (.d (.bool true))) (.tmp 52)), none⟩] []) (
  .cond (.tmp 53) (
   .seq (
    .region false [⟨(some 6), (.mv (.cst (.d (.bool false)))), none⟩] []) (
   .ret)) (
   .skip))) (
 .seq (
  .region false [⟨(some 54), (.mv (.tmp 7)), none⟩,
    ⟨(some 55), (.mv (.tmp 8)), none⟩,
    ⟨(some 56), (.call 0 false (.cst (.d (.fn n_weight_Less))) [(.tmp 54), (.tmp 55)]), none⟩,
    ⟨(some 57), (.un .not (.tmp 56)), none⟩,
    ⟨(some 58), (.mv (.tmp 57)), none⟩,
    ⟨(some 59), (.mv (.tmp 8)), (some (58, false))⟩,
    ⟨(some 60), (.mv (.tmp 9)), (some (58, false))⟩,
    ⟨(some 61), (.call 0 false (.cst (.d (.fn n_weight_Less))) [(.tmp 59), (.tmp 60)]), (some (58, false))⟩,
    ⟨(some 62), (.un .not (.tmp 61)), (some (58, false))⟩,
    ⟨(some 63), (.pick (.tmp 58) (.cst (.d (.bool true))) (.tmp 62)), none⟩,
    ⟨(some 64), (.mv (.tmp 63)), none⟩,
    ⟨(some 65), (.mv (.tmp 7)), (some (64, false))⟩,
    ⟨(some 66), (.mv (.tmp 9)), (some (64, false))⟩,
    ⟨(some 67), (.call 0 false (.cst (.d (.fn n_weight_Less))) [(.tmp 65), (.tmp 66)]), (some (64, false))⟩,
    ⟨(some 68), (.pick (.tmp 64) (.cst (.d (.bool true))) (.tmp 67)), none⟩,
    ⟨(some 6), (.mv (.tmp 68)), none⟩] []) (
 .ret))))))
def R_law03_WeightOrder : List LRes := [(.tmp 6)]
def V_law03_WeightOrder : List Nat := [12, 0, 1, 2, 7, 8, 10, 53, 9, 6]

def L_law03_WeightTurned (n_law03_awake : Nat) (n_weight_Less : Nat) : LCode :=
 .seq (
  .region false [⟨(some 4), (.mv (.cst (.d (.bool false)))), none⟩] []) (
 .seq (
  .seq (
   .region false [⟨(some 9), (.call 0 false (.cst (.d (.fn n_law03_awake))) []), none⟩, ⟨(some 10), (.un .not (.tmp 9)), none⟩] []) (
  .cond (.tmp 10) (
   .seq (
    .region false [⟨(some 4), (.mv (.cst (.d (.bool false)))), none⟩] []) (
   .ret)) (
   .skip))) (
 .seq (
  .region false [⟨(some 11), (.mv (.tmp 0)), none⟩,
    ⟨(some 12), (.fl .ofBits (.tmp 11) (.tmp 11)), none⟩,
    ⟨(some 13), (.mv (.tmp 1)), none⟩,
    ⟨(some 14), (.fl .ofBits (.tmp 13) (.tmp 13)), none⟩,
    ⟨(some 5), (.mv (.tmp 12)), none⟩,
    ⟨(some 6), (.mv (.tmp 14)), none⟩] []) (
 .seq (
  .seq (
   .region false [⟨(some 15), (.mv (.tmp 5)), none⟩,
     ⟨(some 16), (.mv (.tmp 5)), none⟩,
     ⟨(some 17), (.fl (.bin .neq) (.tmp 15) (.tmp 16)), none⟩,
     ⟨(some 18), (.mv (.tmp 17)), none⟩,
     ⟨(some 19), (.mv (.tmp 6)), (some (18, false))⟩,
     ⟨(some 20), (.mv (.tmp 6)), (some (18, false))⟩,
     ⟨(some 21), (.fl (.bin .neq) (.tmp 19) (.tmp 20)), (some (18, false))⟩,
     ⟨(some 22), (.pick (.tmp 18) (.cst (.d (.bool true))) (.tmp 21)), none⟩] []) (
  .cond (.tmp 22) (
   .seq (
    .region false [⟨(some 23), (.mv (.tmp 5)), none⟩,
      ⟨(some 24), (.mv (.tmp 5)), none⟩,
      ⟨(some 25), (.call 0 false (.cst (.d (.fn n_weight_Less))) [(.tmp 23), (.tmp 24)]), none⟩,
      ⟨(some 26), (.un .not (.tmp 25)), none⟩,
      ⟨(some 27), (.mv (.tmp 26)), none⟩,
      ⟨(some 28), (.mv (.tmp 6)), (some (27, true))⟩,
      ⟨(some 29), (.mv (.tmp 6)), (some (27, true))⟩,
      ⟨(some 30), (.call 0 false (.cst (.d (.fn n_weight_Less))) [(.tmp 28), (.tmp 29)]), (some (27, true))⟩,
      ⟨(some 31), (.un .not (.tmp 30)), (some (27, true))⟩,
      ⟨(some 32), (.pick (.tmp 27) (.tmp 31) (.cst (.d (.bool false)))), none⟩,
      ⟨(some 4), (.mv (.tmp 32)), none⟩] []) (
   .ret)) (
   .skip))) (
 .seq (
  .region false [⟨(some 33), (.mv (.tmp 0)), none⟩,
    ⟨(some 34), (.bin .xor (.tmp 33) (.cst (.d (.int .u64 9223372036854775808)))), none⟩,
    ⟨(some 35), (.fl .ofBits (.tmp 34) (.tmp 34)), none⟩,
    ⟨(some 36), (.mv (.tmp 1)), none⟩,
    ⟨(some 37), (.bin .xor (.tmp 36) (.cst (.d (.int .u64 9223372036854775808)))), none⟩,
    ⟨(some 38), (.fl .ofBits (.tmp 37) (.tmp 37)), none⟩,
    ⟨(some 7), (.mv (.tmp 35)), none⟩,
    ⟨(some 8), (.mv (.tmp 38)), none⟩] []) (
 .seq (
  .region false [⟨(some 39), (.mv (.tmp 5)), none⟩,
    ⟨(some 40), (.mv (.tmp 6)), none⟩,
    ⟨(some 41), (.call 0 false (.cst (.d (.fn n_weight_Less))) [(.tmp 39), (.tmp 40)]), none⟩,
    ⟨(some 42), (.mv (.tmp 8)), none⟩,
    ⟨(some 43), (.mv (.tmp 7)), none⟩,
    ⟨(some 44), (.call 0 false (.cst (.d (.fn n_weight_Less))) [(.tmp 42), (.tmp 43)]), none⟩,
    ⟨(some 45), (.eq false .bool (.tmp 41) (.tmp 44)), none⟩,
    ⟨(some 4), (.mv (.tmp 45)), none⟩] []) (
 .ret))))))
def R_law03_WeightTurned : List LRes := [(.tmp 4)]
def V_law03_WeightTurned : List Nat := [10, 0, 1, 5, 6, 22, 8, 7, 4]

def L_law03_WeightOf (n_law03_awake : Nat) (n_weight_Of : Nat) (n_math_Inf : Nat) : LCode :=
 .seq (
  .region false [⟨(some 4), (.mv (.cst (.d (.bool false)))), none⟩] []) (
 .seq (
  .seq (
   .region false [⟨(some 7), (.call 0 false (.cst (.d (.fn n_law03_awake))) []), none⟩, ⟨(some 8), (.un .not (.tmp 7)), none⟩] []) (
  .cond (.tmp 8) (
   .seq (
    .region false [⟨(some 4), (.mv (.cst (.d (.bool false)))), none⟩] []) (
   .ret)) (
   .skip))) (
 .seq (
  .region false [⟨(some 9), (.mv (.tmp 0)), none⟩,
    ⟨(some 10), (.mv (.tmp 1)), none⟩,
    ⟨(some 11), (.call 0 false (.cst (.d (.fn n_weight_Of))) [(.tmp 9), (.tmp 10)]), none⟩,
    ⟨(some 5), (.mv (.tmp 11)), none⟩] []) (
 .seq (
  .region false [⟨(some 12), (.mv (.tmp 0)), none⟩,
    ⟨(some 13), (.fl (.ofInt .f64) (.tmp 12) (.tmp 12)), none⟩,
    ⟨(some 14), (.mv (.tmp 1)), none⟩,
    ⟨(some 15), (.fl (.ofInt .f64) (.tmp 14) (.tmp 14)), none⟩,
    ⟨(some 16), (.fl (.bin .quo) (.tmp 13) (.tmp 15)), none⟩,
    ⟨(some 6), (.mv (.tmp 16)), none⟩] []) (
 .seq (
  .seq (
   .region false [⟨(some 17), (.mv (.tmp 1)), none⟩, ⟨(some 18), (.bin .eql (.tmp 17) (.cst (.d (.int .i64 0)))), none⟩] []) (
  .cond (.tmp 18) (
   .seq (
    .region false [⟨(some 19), (.mv (.tmp 0)), none⟩,
      ⟨(some 20), (.bin .eql (.tmp 19) (.cst (.d (.int .i64 0)))), none⟩,
      ⟨(some 21), (.mv (.tmp 20)), none⟩,
      ⟨(some 22), (.mv (.tmp 5)), (some (21, true))⟩,
      ⟨(some 23), (.mv (.tmp 5)), (some (21, true))⟩,
      ⟨(some 24), (.fl (.bin .neq) (.tmp 22) (.tmp 23)), (some (21, true))⟩,
      ⟨(some 25), (.pick (.tmp 21) (.tmp 24) (.cst (.d (.bool false)))), none⟩,
      ⟨(some 26), (.mv (.tmp 25)), none⟩,
      ⟨(some 27), (.mv (.tmp 0)), (some (26, false))⟩,
      ⟨(some 28), (.bin .gtr (.tmp 27) (.cst (.d (.int .i64 0)))), (some (26, false))⟩,
      ⟨(some 29), (.mv (.tmp 28)), (some (26, false))⟩,
      ⟨(some 30), (.mv (.tmp 5)), (some (29, true))⟩,
      ⟨(some 31), (.call 0 false (.cst (.d (.fn n_math_Inf))) [(.cst (.d (.int .i64 1)))]), (some (29, true))⟩,
      ⟨(some 32), (.fl (.bin .eql) (.tmp 30) (.tmp 31)), (some (29, true))⟩,
      ⟨(some 33), (.pick (.tmp 29) (.tmp 32) (.cst (.d (.bool false)))), (some (26, false))⟩,
      ⟨(some 34), (.pick (.tmp 26) (.cst (.d (.bool true))) (.tmp 33)), none⟩,
      ⟨(some 35), (.mv (.tmp 34)), none⟩,
      ⟨(some 36), (.mv (.tmp 0)), (some (35, false))⟩,
      ⟨(some 37), (.bin .lss (.tmp 36) (.cst (.d (.int .i64 0)))), (some (35, false))⟩,
      ⟨(some 38), (.mv (.tmp 37)), (some (35, false))⟩,
      ⟨(some 39), (.mv (.tmp 5)), (some (38, true))⟩,
      ⟨(some 40), (.call 0 false (.cst (.d (.fn n_math_Inf))) [(.cst (.d (.int .i64 (-1))))]), (some (38, true))⟩,
      ⟨(some 41), (.fl (.bin .eql) (.tmp 39) (.tmp 40)), (some (38, true))⟩,
      ⟨(some 42), (.pick (.tmp 38) (.tmp 41) (.cst (.d (.bool false)))), (some (35, false))⟩,
      ⟨(some 43), (.pick (.tmp 35) (.cst (.d (.bool true))) (.tmp 42)), none⟩,
      ⟨(some 4), (.mv (.tmp 43)), none⟩] []) (
   .ret)) (
   .skip))) (
 .seq (
  .region false [⟨(some 44), (.mv (.tmp 5)), none⟩,
    ⟨(some 45), (.fl .bits (.tmp 44) (.tmp 44)), none⟩,
    ⟨(some 46), (.mv (.tmp 6)), none⟩,
    ⟨(some 47), (.fl .bits (.tmp 46) (.tmp 46)), none⟩,
    ⟨(some 48), (.bin .eql (.tmp 45) (.tmp 47)), none⟩,
    ⟨(some 49), (.mv (.tmp 48)), none⟩,
    ⟨(some 50), (.mv (.tmp 5)), (some (49, true))⟩,
    ⟨(some 51), (.mv (.tmp 5)), (some (49, true))⟩,
    ⟨(some 52), (.fl (.bin .eql) (.tmp 50) (.tmp 51)), (some (49, true))⟩,
    ⟨(some 53), (.pick (.tmp 49) (.tmp 52) (.cst (.d (.bool false)))), none⟩,
    ⟨(some 4), (.mv (.tmp 53)), none⟩] []) (
 .ret))))))
def R_law03_WeightOf : List LRes := [(.tmp 4)]
def V_law03_WeightOf : List Nat := [8, 0, 1, 18, 5, 6, 4]

def L_law03_awake (n_weight_Less : Nat) (n_weight_Of : Nat) (n_weight_Least : Nat) : LCode :=
 .seq (
  .region false [⟨(some 0), (.mv (.cst (.d (.bool false)))), none⟩] []) (
 .seq (
  .region false [⟨(some 1), (.call 0 false (.cst (.d (.fn n_weight_Of))) [(.cst (.d (.int .i64 1))), (.cst (.d (.int .i64 2)))]), none⟩,
    ⟨(some 2), (.fl (.bin .eql) (.tmp 1) (.cst (.d (.flt .f64 4602678819172646912)))), none⟩,
    ⟨(some 3), (.mv (.tmp 2)), none⟩,
    ⟨(some 4), (.call 0 false (.cst (.d (.fn n_weight_Less))) [(.cst (.d (.flt .f64 4607182418800017408))), (.cst (.d (.flt .f64 4611686018427387904)))]), (some (3, true))⟩,
    ⟨(some 5), (.pick (.tmp 3) (.tmp 4) (.cst (.d (.bool false)))), none⟩,
    ⟨(some 6), (.mv (.tmp 5)), none⟩,
    ⟨(some 7), (.bslice 0 1 2 [(.d (.flt .f64 0))] [(0, (.cst (.d (.flt .f64 4613937818241073152)))), (1, (.cst (.d (.flt .f64 4607182418800017408))))]), (some (6, true))⟩,
    ⟨(some 8), (.call 1 false (.cst (.d (.fn n_weight_Least))) [(.tmp 7)]), (some (6, true))⟩,
    ⟨(some 9), (.bin .eql (.tmp 8) (.cst (.d (.int .i64 1)))), (some (6, true))⟩,
    ⟨(some 10), (.pick (.tmp 6) (.tmp 9) (.cst (.d (.bool false)))), none⟩,
    ⟨(some 0), (.mv (.tmp 10)), none⟩] []) (
 .ret))
def R_law03_awake : List LRes := [(.tmp 0)]
def V_law03_awake : List Nat := [0]

end Go.Ago
