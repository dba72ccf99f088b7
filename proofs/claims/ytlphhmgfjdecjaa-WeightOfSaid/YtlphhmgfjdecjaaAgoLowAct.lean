/- Lowered functions of a package, callees by their numbers. Printed by a program of this session. Conditions: none. -/
import Derived.Test.YtlphhmgfjdecjaaAgo27
set_option maxRecDepth 100000
set_option linter.unusedVariables false
namespace Go.Ago
def L_act_Right : LCode :=
 .seq (
  .region false [⟨(some 2), (.box 0 (.tmp 0)), none⟩, ⟨(some 4), (.mv (.cst (.d (.bool false)))), none⟩] []) (
 .seq (
  .region false [⟨(some 5), (.mv (.cst (.d (.bool false)))), none⟩,
    ⟨(some 6), (.mv (.cst (.d (.bool false)))), none⟩,
    ⟨(some 7), (.mv (.cst (.d (.bool false)))), none⟩] []) (
 .seq (
  .seq (
   .region false [⟨(some 8), (.fieldAddr 0 (.tmp 2)), none⟩, ⟨(some 9), (.load false 1 (.tmp 8)), none⟩] []) (
  .block 0 (
   .seq (
    .region false [⟨(some 11), (.bin .eql (.tmp 9) (.cst (.d (.int .i64 6)))), none⟩, ⟨(some 10), (.mv (.tmp 11)), none⟩] []) (
   .cond (.tmp 10) (
    .seq (
     .region false [⟨(some 12), (.fieldAddr 1 (.tmp 2)), none⟩,
       ⟨(some 13), (.load false 1 (.tmp 12)), none⟩,
       ⟨(some 14), (.bin .eql (.tmp 13) (.cst (.d (.int .i64 0)))), none⟩,
       ⟨(some 15), (.mv (.tmp 14)), none⟩,
       ⟨(some 16), (.fieldAddr 2 (.tmp 2)), (some (15, true))⟩,
       ⟨(some 17), (.load false 1 (.tmp 16)), (some (15, true))⟩,
       ⟨(some 18), (.bin .eql (.tmp 17) (.cst (.d (.int .i64 0)))), (some (15, true))⟩,
       ⟨(some 19), (.pick (.tmp 15) (.tmp 18) (.cst (.d (.bool false)))), none⟩,
       ⟨(some 4), (.mv (.tmp 19)), none⟩] []) (
    .ret)) (
    .seq (
     .region false [⟨(some 21), (.bin .eql (.tmp 9) (.cst (.d (.int .i64 1)))), none⟩, ⟨(some 20), (.mv (.tmp 21)), none⟩] []) (
    .cond (.tmp 20) (
     .region false [⟨(some 5), (.mv (.cst (.d (.bool true)))), none⟩] []) (
     .seq (
      .region false [⟨(some 23), (.bin .eql (.tmp 9) (.cst (.d (.int .i64 2)))), none⟩, ⟨(some 22), (.mv (.tmp 23)), none⟩] []) (
     .cond (.tmp 22) (
      .region false [⟨(some 6), (.mv (.cst (.d (.bool true)))), none⟩] []) (
      .seq (
       .region false [⟨(some 25), (.bin .eql (.tmp 9) (.cst (.d (.int .i64 3)))), none⟩, ⟨(some 24), (.mv (.tmp 25)), none⟩] []) (
      .cond (.tmp 24) (
       .region false [⟨(some 5), (.mv (.cst (.d (.bool true)))), none⟩, ⟨(some 7), (.mv (.cst (.d (.bool true)))), none⟩] []) (
       .seq (
        .region false [⟨(some 27), (.bin .eql (.tmp 9) (.cst (.d (.int .i64 4)))), none⟩, ⟨(some 26), (.mv (.tmp 27)), none⟩] []) (
       .cond (.tmp 26) (
        .region false [⟨(some 6), (.mv (.cst (.d (.bool true)))), none⟩, ⟨(some 7), (.mv (.cst (.d (.bool true)))), none⟩] []) (
        .seq (
         .region false [⟨(some 29), (.bin .eql (.tmp 9) (.cst (.d (.int .i64 5)))), none⟩, ⟨(some 28), (.mv (.tmp 29)), none⟩] []) (
        .cond (.tmp 28) (
         .region false [⟨(some 5), (.mv (.cst (.d (.bool true)))), none⟩,
           ⟨(some 6), (.mv (.cst (.d (.bool true)))), none⟩,
           ⟨(some 7), (.mv (.cst (.d (.bool true)))), none⟩] []) (
         .seq (
          .region false [⟨(some 4), (.mv (.cst (.d (.bool false)))), none⟩] []) (
         .ret)))))))))))))))) (
 .seq (
  .region false [⟨(some 30), (.fieldAddr 1 (.tmp 2)), none⟩,
    ⟨(some 31), (.load false 1 (.tmp 30)), none⟩,
    ⟨(some 32), (.bin .geq (.tmp 31) (.cst (.d (.int .i64 0)))), none⟩,
    ⟨(some 33), (.mv (.tmp 32)), none⟩,
    ⟨(some 34), (.fieldAddr 1 (.tmp 2)), (some (33, true))⟩,
    ⟨(some 35), (.load false 1 (.tmp 34)), (some (33, true))⟩,
    ⟨(some 36), (.mv (.tmp 1)), (some (33, true))⟩,
    ⟨(some 37), (.len (.tmp 36)), (some (33, true))⟩,
    ⟨(some 38), (.bin .lss (.tmp 35) (.tmp 37)), (some (33, true))⟩,
    ⟨(some 39), (.pick (.tmp 33) (.tmp 38) (.cst (.d (.bool false)))), none⟩,
    ⟨(some 40), (.mv (.tmp 39)), none⟩,
    ⟨(some 41), (.mv (.tmp 1)), (some (40, true))⟩,
    ⟨(some 42), (.fieldAddr 1 (.tmp 2)), (some (40, true))⟩,
    ⟨(some 43), (.load false 1 (.tmp 42)), (some (40, true))⟩,
    ⟨(some 44), (.idxAddr 2 (.tmp 41) (.tmp 43)), (some (40, true))⟩,
    ⟨(some 45), (.fieldAddr 0 (.tmp 44)), (some (40, true))⟩,
    ⟨(some 46), (.load false 1 (.tmp 45)), (some (40, true))⟩,
    ⟨(some 47), (.mv (.tmp 7)), (some (40, true))⟩,
    ⟨(some 48), (.eq false .bool (.tmp 46) (.tmp 47)), (some (40, true))⟩,
    ⟨(some 49), (.pick (.tmp 40) (.tmp 48) (.cst (.d (.bool false)))), none⟩,
    ⟨(some 50), (.mv (.tmp 49)), none⟩,
    ⟨(some 51), (.mv (.tmp 5)), (some (50, true))⟩,
    ⟨(some 52), (.mv (.tmp 51)), (some (50, true))⟩,
    ⟨(some 53), (.fieldAddr 2 (.tmp 2)), (some (52, false))⟩,
    ⟨(some 54), (.load false 1 (.tmp 53)), (some (52, false))⟩,
    ⟨(some 55), (.bin .eql (.tmp 54) (.cst (.d (.int .i64 0)))), (some (52, false))⟩,
    ⟨(some 56), (.pick (.tmp 52) (.cst (.d (.bool true))) (.tmp 55)), (some (50, true))⟩,
    ⟨(some 57), (.pick (.tmp 50) (.tmp 56) (.cst (.d (.bool false)))), none⟩,
    ⟨(some 58), (.mv (.tmp 57)), none⟩,
    ⟨(some 59), (.mv (.tmp 6)), (some (58, true))⟩,
    ⟨(some 60), (.mv (.tmp 59)), (some (58, true))⟩,
    ⟨(some 61), (.fieldAddr 3 (.tmp 2)), (some (60, false))⟩,
    ⟨(some 62), (.load false 1 (.tmp 61)), (some (60, false))⟩,
    ⟨(some 63), (.bin .eql (.tmp 62) (.cst (.d (.int .i64 0)))), (some (60, false))⟩,
    ⟨(some 64), (.pick (.tmp 60) (.cst (.d (.bool true))) (.tmp 63)), (some (58, true))⟩,
    ⟨(some 65), (.pick (.tmp 58) (.tmp 64) (.cst (.d (.bool false)))), none⟩,
    ⟨(some 4), (.mv (.tmp 65)), none⟩] []) (
 .ret))))
def R_act_Right : List LRes := [(.tmp 4)]
def V_act_Right : List Nat := [0, 2, 9, 10, 20, 22, 24, 26, 28, 1, 7, 5, 6, 4]

end Go.Ago
