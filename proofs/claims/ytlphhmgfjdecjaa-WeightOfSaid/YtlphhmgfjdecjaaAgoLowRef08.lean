/- Lowered functions of a package, callees by their numbers. Printed by a program of this session. Conditions: none. -/
import Derived.Test.YtlphhmgfjdecjaaAgo27
set_option maxRecDepth 100000
set_option linter.unusedVariables false
namespace Go.Ago
def L_ref08_SameNums : LCode :=
 .seq (
  .region false [⟨(some 4), (.mv (.cst (.d (.bool false)))), none⟩] []) (
 .seq (
  .seq (
   .region false [⟨(some 6), (.mv (.tmp 0)), none⟩,
     ⟨(some 7), (.len (.tmp 6)), none⟩,
     ⟨(some 8), (.mv (.tmp 1)), none⟩,
     ⟨(some 9), (.len (.tmp 8)), none⟩,
     ⟨(some 10), (.bin .neq (.tmp 7) (.tmp 9)), none⟩] []) (
  .cond (.tmp 10) (
   .seq (
    .region false [⟨(some 4), (.mv (.cst (.d (.bool false)))), none⟩] []) (
   .ret)) (
   .skip))) (
 .seq (
  .seq (
   .region false [⟨(some 5), (.mv (.cst (.d (.int .i64 0)))), none⟩] []) (
  .block 0 (
   .loop (
    .seq (
     .seq (
      .region false [⟨(some 11), (.mv (.tmp 5)), none⟩,
        ⟨(some 12), (.mv (.tmp 0)), none⟩,
        ⟨(some 13), (.len (.tmp 12)), none⟩,
        ⟨(some 14), (.bin .lss (.tmp 11) (.tmp 13)), none⟩] []) (
     .cond (.tmp 14) (
      .skip) (
      (.exit 0)))) (
    .seq (
     .block 1 (
      .seq (
       .region true [⟨(some 17), (.mv (.tmp 0)), none⟩,
         ⟨(some 18), (.mv (.tmp 5)), none⟩,
         ⟨(some 19), (.idxAddr 1 (.tmp 17) (.tmp 18)), none⟩,
         ⟨(some 20), (.load false 1 (.tmp 19)), none⟩,
         ⟨(some 21), (.mv (.tmp 1)), none⟩,
         ⟨(some 22), (.mv (.tmp 5)), none⟩,
         ⟨(some 23), (.idxAddr 1 (.tmp 21) (.tmp 22)), none⟩,
         ⟨(some 24), (.load false 1 (.tmp 23)), none⟩,
         ⟨(some 25), (.bin .neq (.tmp 20) (.tmp 24)), none⟩] []) (
      .cond (.tmp 25) (
       .seq (
        .region false [⟨(some 4), (.mv (.cst (.d (.bool false)))), none⟩] []) (
       .ret)) (
       .skip)))) (
    .region false [⟨(some 15), (.mv (.tmp 5)), none⟩,
      ⟨(some 16), (.bin .add (.tmp 15) (.cst (.d (.int .i64 1)))), none⟩,
      ⟨(some 5), (.mv (.tmp 16)), none⟩] [])))))) (
 .seq (
  .region false [⟨(some 4), (.mv (.cst (.d (.bool true)))), none⟩] []) (
 .ret))))
def R_ref08_SameNums : List LRes := [(.tmp 4)]
def V_ref08_SameNums : List Nat := [0, 1, 10, 5, 14, 25, 4]

def L_ref08_Right : LCode :=
 .seq (
  .region false [⟨(some 2), (.box 0 (.tmp 0)), none⟩, ⟨(some 4), (.mv (.cst (.d (.bool false)))), none⟩] []) (
 .seq (
  .seq (
   .region false [⟨(some 6), (.fieldAddr 0 (.tmp 2)), none⟩,
     ⟨(some 7), (.load false 1 (.tmp 6)), none⟩,
     ⟨(some 8), (.bin .eql (.tmp 7) (.cst (.d (.int .i64 6)))), none⟩] []) (
  .cond (.tmp 8) (
   .seq (
    .region false [⟨(some 9), (.load true 4 (.tmp 2)), none⟩,
      ⟨(some 10), (.fieldAddr 3 (.tmp 2)), none⟩,
      ⟨(some 11), (.load false 1 (.tmp 10)), none⟩,
      ⟨(some 12), (.build [(.d (.int .i64 0)), (.d (.int .i64 0)), (.d (.int .i64 0)), (.d (.int .i64 0))] [(0, (1, (.cst (.d (.int .i64 6))))), (3, (1, (.tmp 11)))]), none⟩,
      ⟨(some 13), (.eq false (.flat [true, true, true, true]) (.tmp 9) (.tmp 12)), none⟩,
      ⟨(some 4), (.mv (.tmp 13)), none⟩] []) (
   .ret)) (
   .skip))) (
 .seq (
  .seq (
   .region false [⟨(some 14), (.fieldAddr 1 (.tmp 2)), none⟩,
     ⟨(some 15), (.load false 1 (.tmp 14)), none⟩,
     ⟨(some 16), (.bin .lss (.tmp 15) (.cst (.d (.int .i64 0)))), none⟩,
     ⟨(some 17), (.mv (.tmp 16)), none⟩,
     ⟨(some 18), (.fieldAddr 1 (.tmp 2)), (some (17, false))⟩,
     ⟨(some 19), (.load false 1 (.tmp 18)), (some (17, false))⟩,
     ⟨(some 20), (.mv (.tmp 1)), (some (17, false))⟩,
     ⟨(some 21), (.len (.tmp 20)), (some (17, false))⟩,
     ⟨(some 22), (.bin .geq (.tmp 19) (.tmp 21)), (some (17, false))⟩,
     ⟨(some 23), (.pick (.tmp 17) (.cst (.d (.bool true))) (.tmp 22)), none⟩] []) (
  .cond (.tmp 23) (
   .seq (
    .region false [⟨(some 4), (.mv (.cst (.d (.bool false)))), none⟩] []) (
   .ret)) (
   .skip))) (
 .seq (
  .region false [⟨(some 24), (.mv (.tmp 1)), none⟩,
    ⟨(some 25), (.fieldAddr 1 (.tmp 2)), none⟩,
    ⟨(some 26), (.load false 1 (.tmp 25)), none⟩,
    ⟨(some 27), (.idxAddr 2 (.tmp 24) (.tmp 26)), none⟩,
    ⟨(some 28), (.fieldAddr 0 (.tmp 27)), none⟩,
    ⟨(some 29), (.load false 1 (.tmp 28)), none⟩,
    ⟨(some 5), (.mv (.tmp 29)), none⟩] []) (
 .seq (
  .seq (
   .region false [⟨(some 30), (.fieldAddr 0 (.tmp 2)), none⟩, ⟨(some 31), (.load false 1 (.tmp 30)), none⟩] []) (
  .block 0 (
   .seq (
    .region false [⟨(some 33), (.bin .eql (.tmp 31) (.cst (.d (.int .i64 1)))), none⟩, ⟨(some 32), (.mv (.tmp 33)), none⟩] []) (
   .cond (.tmp 32) (
    .seq (
     .region false [⟨(some 34), (.mv (.tmp 5)), none⟩,
       ⟨(some 35), (.un .not (.tmp 34)), none⟩,
       ⟨(some 36), (.mv (.tmp 35)), none⟩,
       ⟨(some 37), (.fieldAddr 3 (.tmp 2)), (some (36, true))⟩,
       ⟨(some 38), (.load false 1 (.tmp 37)), (some (36, true))⟩,
       ⟨(some 39), (.bin .eql (.tmp 38) (.cst (.d (.int .i64 0)))), (some (36, true))⟩,
       ⟨(some 40), (.pick (.tmp 36) (.tmp 39) (.cst (.d (.bool false)))), none⟩,
       ⟨(some 4), (.mv (.tmp 40)), none⟩] []) (
    .ret)) (
    .seq (
     .region false [⟨(some 42), (.bin .eql (.tmp 31) (.cst (.d (.int .i64 2)))), none⟩, ⟨(some 41), (.mv (.tmp 42)), none⟩] []) (
    .cond (.tmp 41) (
     .seq (
      .region false [⟨(some 43), (.mv (.tmp 5)), none⟩,
        ⟨(some 44), (.un .not (.tmp 43)), none⟩,
        ⟨(some 45), (.mv (.tmp 44)), none⟩,
        ⟨(some 46), (.fieldAddr 2 (.tmp 2)), (some (45, true))⟩,
        ⟨(some 47), (.load false 1 (.tmp 46)), (some (45, true))⟩,
        ⟨(some 48), (.bin .eql (.tmp 47) (.cst (.d (.int .i64 0)))), (some (45, true))⟩,
        ⟨(some 49), (.pick (.tmp 45) (.tmp 48) (.cst (.d (.bool false)))), none⟩,
        ⟨(some 4), (.mv (.tmp 49)), none⟩] []) (
     .ret)) (
     .seq (
      .region false [⟨(some 51), (.bin .eql (.tmp 31) (.cst (.d (.int .i64 3)))), none⟩, ⟨(some 50), (.mv (.tmp 51)), none⟩] []) (
     .cond (.tmp 50) (
      .seq (
       .region false [⟨(some 52), (.mv (.tmp 5)), none⟩,
         ⟨(some 53), (.mv (.tmp 52)), none⟩,
         ⟨(some 54), (.fieldAddr 3 (.tmp 2)), (some (53, true))⟩,
         ⟨(some 55), (.load false 1 (.tmp 54)), (some (53, true))⟩,
         ⟨(some 56), (.bin .eql (.tmp 55) (.cst (.d (.int .i64 0)))), (some (53, true))⟩,
         ⟨(some 57), (.pick (.tmp 53) (.tmp 56) (.cst (.d (.bool false)))), none⟩,
         ⟨(some 4), (.mv (.tmp 57)), none⟩] []) (
      .ret)) (
      .seq (
       .region false [⟨(some 59), (.bin .eql (.tmp 31) (.cst (.d (.int .i64 4)))), none⟩, ⟨(some 58), (.mv (.tmp 59)), none⟩] []) (
      .cond (.tmp 58) (
       .seq (
        .region false [⟨(some 60), (.mv (.tmp 5)), none⟩,
          ⟨(some 61), (.mv (.tmp 60)), none⟩,
          ⟨(some 62), (.fieldAddr 2 (.tmp 2)), (some (61, true))⟩,
          ⟨(some 63), (.load false 1 (.tmp 62)), (some (61, true))⟩,
          ⟨(some 64), (.bin .eql (.tmp 63) (.cst (.d (.int .i64 0)))), (some (61, true))⟩,
          ⟨(some 65), (.pick (.tmp 61) (.tmp 64) (.cst (.d (.bool false)))), none⟩,
          ⟨(some 4), (.mv (.tmp 65)), none⟩] []) (
       .ret)) (
       .skip))))))))))) (
 .seq (
  .region false [⟨(some 66), (.fieldAddr 0 (.tmp 2)), none⟩,
    ⟨(some 67), (.load false 1 (.tmp 66)), none⟩,
    ⟨(some 68), (.bin .eql (.tmp 67) (.cst (.d (.int .i64 5)))), none⟩,
    ⟨(some 69), (.mv (.tmp 68)), none⟩,
    ⟨(some 70), (.mv (.tmp 5)), (some (69, true))⟩,
    ⟨(some 71), (.pick (.tmp 69) (.tmp 70) (.cst (.d (.bool false)))), none⟩,
    ⟨(some 4), (.mv (.tmp 71)), none⟩] []) (
 .ret))))))
def R_ref08_Right : List LRes := [(.tmp 4)]
def V_ref08_Right : List Nat := [0, 2, 8, 1, 23, 31, 32, 5, 41, 50, 58, 4]

def L_ref08_Reads : LCode :=
 .seq (
  .region false [⟨(some 1), (.box 0 (.tmp 0)), none⟩, ⟨(some 2), (.mv (.cst (.d (.bool false)))), none⟩] []) (
 .seq (
  .region false [⟨(some 3), (.fieldAddr 0 (.tmp 1)), none⟩,
    ⟨(some 4), (.load false 1 (.tmp 3)), none⟩,
    ⟨(some 5), (.bin .eql (.tmp 4) (.cst (.d (.int .i64 1)))), none⟩,
    ⟨(some 6), (.mv (.tmp 5)), none⟩,
    ⟨(some 7), (.fieldAddr 0 (.tmp 1)), (some (6, false))⟩,
    ⟨(some 8), (.load false 1 (.tmp 7)), (some (6, false))⟩,
    ⟨(some 9), (.bin .eql (.tmp 8) (.cst (.d (.int .i64 3)))), (some (6, false))⟩,
    ⟨(some 10), (.pick (.tmp 6) (.cst (.d (.bool true))) (.tmp 9)), none⟩,
    ⟨(some 11), (.mv (.tmp 10)), none⟩,
    ⟨(some 12), (.fieldAddr 0 (.tmp 1)), (some (11, false))⟩,
    ⟨(some 13), (.load false 1 (.tmp 12)), (some (11, false))⟩,
    ⟨(some 14), (.bin .eql (.tmp 13) (.cst (.d (.int .i64 5)))), (some (11, false))⟩,
    ⟨(some 15), (.pick (.tmp 11) (.cst (.d (.bool true))) (.tmp 14)), none⟩,
    ⟨(some 2), (.mv (.tmp 15)), none⟩] []) (
 .ret))
def R_ref08_Reads : List LRes := [(.tmp 2)]
def V_ref08_Reads : List Nat := [0, 1, 2]

def L_ref08_Writes : LCode :=
 .seq (
  .region false [⟨(some 1), (.box 0 (.tmp 0)), none⟩, ⟨(some 2), (.mv (.cst (.d (.bool false)))), none⟩] []) (
 .seq (
  .region false [⟨(some 3), (.fieldAddr 0 (.tmp 1)), none⟩,
    ⟨(some 4), (.load false 1 (.tmp 3)), none⟩,
    ⟨(some 5), (.bin .eql (.tmp 4) (.cst (.d (.int .i64 2)))), none⟩,
    ⟨(some 6), (.mv (.tmp 5)), none⟩,
    ⟨(some 7), (.fieldAddr 0 (.tmp 1)), (some (6, false))⟩,
    ⟨(some 8), (.load false 1 (.tmp 7)), (some (6, false))⟩,
    ⟨(some 9), (.bin .eql (.tmp 8) (.cst (.d (.int .i64 4)))), (some (6, false))⟩,
    ⟨(some 10), (.pick (.tmp 6) (.cst (.d (.bool true))) (.tmp 9)), none⟩,
    ⟨(some 11), (.mv (.tmp 10)), none⟩,
    ⟨(some 12), (.fieldAddr 0 (.tmp 1)), (some (11, false))⟩,
    ⟨(some 13), (.load false 1 (.tmp 12)), (some (11, false))⟩,
    ⟨(some 14), (.bin .eql (.tmp 13) (.cst (.d (.int .i64 5)))), (some (11, false))⟩,
    ⟨(some 15), (.pick (.tmp 11) (.cst (.d (.bool true))) (.tmp 14)), none⟩,
    ⟨(some 2), (.mv (.tmp 15)), none⟩] []) (
 .ret))
def R_ref08_Writes : List LRes := [(.tmp 2)]
def V_ref08_Writes : List Nat := [0, 1, 2]

end Go.Ago
