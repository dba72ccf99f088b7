/- Lowered functions of a package, callees by their numbers. Printed by a program of this session. Conditions: none. -/
import Derived.Test.YtlecedmhdhmonaaAgo27
set_option maxRecDepth 100000
set_option linter.unusedVariables false
namespace Go.Ago
def L_law21_SeqRuns (n_law21_awake : Nat) (n_law21_acts : Nat) (n_seq_Run : Nat) (n_ref21_Run : Nat) (n_ref21_Latest : Nat) : LCode :=
 .seq (
  .region false [⟨(some 4), (.mv (.cst (.d (.bool false)))), none⟩] []) (
 .seq (
  .seq (
   .region false [⟨(some 12), (.call 0 false (.cst (.d (.fn n_law21_awake))) []), none⟩, ⟨(some 13), (.un .not (.tmp 12)), none⟩] []) (
  .cond (.tmp 13) (
   .seq (
    .region false [⟨(some 4), (.mv (.cst (.d (.bool false)))), none⟩] []) (
   .ret)) (
   .skip))) (
 .seq (
  .seq (
   .region false [⟨(some 14), (.mv (.tmp 0)), none⟩,
     ⟨(some 15), (.len (.tmp 14)), none⟩,
     ⟨(some 16), (.bin .gtr (.tmp 15) (.cst (.d (.int .i64 40)))), none⟩] []) (
  .cond (.tmp 16) (
   .seq (
    .region false [⟨(some 4), (.mv (.cst (.d (.bool true)))), none⟩] []) (
   .ret)) (
   .skip))) (
 .seq (
  .region false [⟨(some 17), (.mv (.tmp 1)), none⟩,
    ⟨(some 18), (.call 0 true (.cst (.d (.fn n_law21_acts))) [(.tmp 17)]), none⟩,
    ⟨(some 5), (.mv (.tmp 18)), none⟩] []) (
 .seq (
  .region false [⟨(some 20), (.mv (.tmp 0)), none⟩,
    ⟨(some 21), (.mv (.tmp 5)), none⟩,
    ⟨(some 22), (.call 0 false (.cst (.d (.fn n_seq_Run))) [(.tmp 20), (.tmp 21)]), none⟩,
    ⟨(some 19), (.mv (.tmp 22)), none⟩,
    ⟨(some 23), (.extract 0 (.tmp 19)), none⟩,
    ⟨(some 24), (.extract 1 (.tmp 19)), none⟩,
    ⟨(some 25), (.extract 2 (.tmp 19)), none⟩,
    ⟨(some 6), (.mv (.tmp 23)), none⟩,
    ⟨(some 7), (.mv (.tmp 24)), none⟩,
    ⟨(some 8), (.mv (.tmp 25)), none⟩] []) (
 .seq (
  .region false [⟨(some 27), (.mv (.tmp 0)), none⟩,
    ⟨(some 28), (.mv (.tmp 5)), none⟩,
    ⟨(some 29), (.call 0 false (.cst (.d (.fn n_ref21_Run))) [(.tmp 27), (.tmp 28)]), none⟩,
    ⟨(some 26), (.mv (.tmp 29)), none⟩,
    ⟨(some 30), (.extract 0 (.tmp 26)), none⟩,
    ⟨(some 31), (.extract 1 (.tmp 26)), none⟩,
    ⟨(some 9), (.mv (.tmp 30)), none⟩,
    ⟨(some 10), (.mv (.tmp 31)), none⟩] []) (
 .seq (
  .seq (
   .region false [⟨(some 32), (.mv (.tmp 7)), none⟩,
     ⟨(some 33), (.mv (.tmp 9)), none⟩,
     ⟨(some 34), (.bin .neq (.tmp 32) (.tmp 33)), none⟩,
     ⟨(some 35), (.mv (.tmp 34)), none⟩,
     ⟨(some 36), (.mv (.tmp 8)), (some (35, false))⟩,
     ⟨(some 37), (.mv (.tmp 10)), (some (35, false))⟩,
     ⟨(some 38), (.bin .neq (.tmp 36) (.tmp 37)), (some (35, false))⟩,
     ⟨(some 39), (.pick (.tmp 35) (.cst (.d (.bool true))) (.tmp 38)), none⟩] []) (
  .cond (.tmp 39) (
   .seq (
    .region false [⟨(some 4), (.mv (.cst (.d (.bool false)))), none⟩] []) (
   .ret)) (
   .skip))) (
 .seq (
  .seq (
   .region false [⟨(some 40), (.mv (.tmp 8)), none⟩, ⟨(some 41), (.bin .neq (.tmp 40) (.cst (.d (.int .i64 0)))), none⟩] []) (
  .cond (.tmp 41) (
   .seq (
    .region false [⟨(some 42), (.mv (.tmp 6)), none⟩,
      ⟨(some 43), (.len (.tmp 42)), none⟩,
      ⟨(some 44), (.bin .eql (.tmp 43) (.cst (.d (.int .i64 0)))), none⟩,
      ⟨(some 4), (.mv (.tmp 44)), none⟩] []) (
   .ret)) (
   .skip))) (
 .seq (
  .seq (
   .region false [⟨(some 45), (.mv (.tmp 6)), none⟩,
     ⟨(some 46), (.len (.tmp 45)), none⟩,
     ⟨(some 47), (.mv (.tmp 0)), none⟩,
     ⟨(some 48), (.len (.tmp 47)), none⟩,
     ⟨(some 49), (.bin .neq (.tmp 46) (.tmp 48)), none⟩] []) (
  .cond (.tmp 49) (
   .seq (
    .region false [⟨(some 4), (.mv (.cst (.d (.bool false)))), none⟩] []) (
   .ret)) (
   .skip))) (
 .seq (
  .seq (
   .region false [⟨(some 11), (.mv (.cst (.d (.int .i64 0)))), none⟩] []) (
  .block 0 (
   .loop (
    .seq (
     .seq (
      .region false [⟨(some 50), (.mv (.tmp 11)), none⟩,
        ⟨(some 51), (.mv (.tmp 0)), none⟩,
        ⟨(some 52), (.len (.tmp 51)), none⟩,
        ⟨(some 53), (.bin .lss (.tmp 50) (.tmp 52)), none⟩] []) (
     .cond (.tmp 53) (
      .skip) (
      (.exit 0)))) (
    .seq (
     .block 1 (
      .seq (
       .region true [⟨(some 56), (.mv (.tmp 6)), none⟩,
         ⟨(some 57), (.mv (.tmp 11)), none⟩,
         ⟨(some 58), (.idxAddr 1 (.tmp 56) (.tmp 57)), none⟩,
         ⟨(some 59), (.load false 1 (.tmp 58)), none⟩,
         ⟨(some 60), (.mv (.tmp 0)), none⟩,
         ⟨(some 61), (.mv (.tmp 5)), none⟩,
         ⟨(some 62), (.mv (.tmp 11)), none⟩,
         ⟨(some 63), (.mv (.tmp 5)), none⟩,
         ⟨(some 64), (.len (.tmp 63)), none⟩,
         ⟨(some 65), (.call 0 false (.cst (.d (.fn n_ref21_Latest))) [(.tmp 60), (.tmp 61), (.tmp 62), (.tmp 64)]), none⟩,
         ⟨(some 66), (.bin .neq (.tmp 59) (.tmp 65)), none⟩] [(3, 9)]) (
      .cond (.tmp 66) (
       .seq (
        .region false [⟨(some 4), (.mv (.cst (.d (.bool false)))), none⟩] []) (
       .ret)) (
       .skip)))) (
    .region false [⟨(some 54), (.mv (.tmp 11)), none⟩,
      ⟨(some 55), (.bin .add (.tmp 54) (.cst (.d (.int .i64 1)))), none⟩,
      ⟨(some 11), (.mv (.tmp 55)), none⟩] [])))))) (
 .seq (
  .region false [⟨(some 4), (.mv (.cst (.d (.bool true)))), none⟩] []) (
 .ret)))))))))))
def R_law21_SeqRuns : List LRes := [(.tmp 4)]
def V_law21_SeqRuns : List Nat := [13, 0, 16, 1, 5, 7, 9, 8, 10, 39, 41, 6, 49, 11, 53, 66, 4]

def L_law21_SeqDo (n_law21_awake : Nat) (n_seq_Do : Nat) (n_ref08_SameNums : Nat) (n_ref08_Right : Nat) (n_ref08_Reads : Nat) (n_ref08_Writes : Nat) : LCode :=
 .seq (
  .region false [⟨(some 5), (.box 0 (.tmp 2)), none⟩, ⟨(some 6), (.mv (.cst (.d (.bool false)))), none⟩] []) (
 .seq (
  .seq (
   .region false [⟨(some 11), (.call 0 false (.cst (.d (.fn n_law21_awake))) []), none⟩, ⟨(some 12), (.un .not (.tmp 11)), none⟩] []) (
  .cond (.tmp 12) (
   .seq (
    .region false [⟨(some 6), (.mv (.cst (.d (.bool false)))), none⟩] []) (
   .ret)) (
   .skip))) (
 .seq (
  .seq (
   .region false [⟨(some 13), (.mv (.tmp 0)), none⟩,
     ⟨(some 14), (.len (.tmp 13)), none⟩,
     ⟨(some 15), (.bin .gtr (.tmp 14) (.cst (.d (.int .i64 40)))), none⟩,
     ⟨(some 16), (.mv (.tmp 15)), none⟩,
     ⟨(some 17), (.mv (.tmp 1)), (some (16, false))⟩,
     ⟨(some 18), (.len (.tmp 17)), (some (16, false))⟩,
     ⟨(some 19), (.bin .gtr (.tmp 18) (.cst (.d (.int .i64 40)))), (some (16, false))⟩,
     ⟨(some 20), (.pick (.tmp 16) (.cst (.d (.bool true))) (.tmp 19)), none⟩] []) (
  .cond (.tmp 20) (
   .seq (
    .region false [⟨(some 6), (.mv (.cst (.d (.bool true)))), none⟩] []) (
   .ret)) (
   .skip))) (
 .seq (
  .region false [⟨(some 21), (.mv (.cst (.d (.list [] true)))), none⟩,
    ⟨(some 22), (.mv (.tmp 1)), none⟩,
    ⟨(some 23), (.append 0 1 8 (.tmp 21) (.tmp 22)), none⟩,
    ⟨(some 24), (.bslice 1 1 1 [(.d (.int .i64 0))] [(0, (.cst (.d (.int .i64 77))))]), none⟩,
    ⟨(some 25), (.append 2 1 8 (.tmp 23) (.tmp 24)), none⟩,
    ⟨(some 7), (.mv (.tmp 25)), none⟩] []) (
 .seq (
  .region true [⟨(some 27), (.mv (.tmp 0)), none⟩,
    ⟨(some 28), (.mv (.tmp 7)), none⟩,
    ⟨(some 29), (.mv (.tmp 1)), none⟩,
    ⟨(some 30), (.len (.tmp 29)), none⟩,
    ⟨(some 31), (.slice 1 (.tmp 28) none (some (.tmp 30)) none), none⟩,
    ⟨(some 32), (.load true 4 (.tmp 5)), none⟩,
    ⟨(some 33), (.call 0 false (.cst (.d (.fn n_seq_Do))) [(.tmp 27), (.tmp 31), (.tmp 32)]), none⟩,
    ⟨(some 26), (.mv (.tmp 33)), none⟩,
    ⟨(some 34), (.extract 0 (.tmp 26)), none⟩,
    ⟨(some 35), (.extract 1 (.tmp 26)), none⟩,
    ⟨(some 8), (.mv (.tmp 34)), none⟩,
    ⟨(some 9), (.mv (.tmp 35)), none⟩] []) (
 .seq (
  .seq (
   .region false [⟨(some 36), (.mv (.tmp 7)), none⟩,
     ⟨(some 37), (.mv (.tmp 1)), none⟩,
     ⟨(some 38), (.len (.tmp 37)), none⟩,
     ⟨(some 39), (.slice 1 (.tmp 36) none (some (.tmp 38)) none), none⟩,
     ⟨(some 40), (.mv (.tmp 1)), none⟩,
     ⟨(some 41), (.call 0 false (.cst (.d (.fn n_ref08_SameNums))) [(.tmp 39), (.tmp 40)]), none⟩,
     ⟨(some 42), (.un .not (.tmp 41)), none⟩,
     ⟨(some 43), (.mv (.tmp 42)), none⟩,
     ⟨(some 44), (.mv (.tmp 7)), (some (43, false))⟩,
     ⟨(some 45), (.mv (.tmp 1)), (some (43, false))⟩,
     ⟨(some 46), (.len (.tmp 45)), (some (43, false))⟩,
     ⟨(some 47), (.idxAddr 1 (.tmp 44) (.tmp 46)), (some (43, false))⟩,
     ⟨(some 48), (.load false 1 (.tmp 47)), (some (43, false))⟩,
     ⟨(some 49), (.bin .neq (.tmp 48) (.cst (.d (.int .i64 77)))), (some (43, false))⟩,
     ⟨(some 50), (.pick (.tmp 43) (.cst (.d (.bool true))) (.tmp 49)), none⟩] []) (
  .cond (.tmp 50) (
   .seq (
    .region false [⟨(some 6), (.mv (.cst (.d (.bool false)))), none⟩] []) (
   .ret)) (
   .skip))) (
 .seq (
  .seq (
   .region false [⟨(some 51), (.mv (.tmp 0)), none⟩,
     ⟨(some 52), (.len (.tmp 51)), none⟩,
     ⟨(some 53), (.mv (.tmp 1)), none⟩,
     ⟨(some 54), (.len (.tmp 53)), none⟩,
     ⟨(some 55), (.bin .neq (.tmp 52) (.tmp 54)), none⟩,
     ⟨(some 56), (.mv (.tmp 55)), none⟩,
     ⟨(some 57), (.load true 4 (.tmp 5)), (some (56, false))⟩,
     ⟨(some 58), (.mv (.tmp 0)), (some (56, false))⟩,
     ⟨(some 59), (.call 0 false (.cst (.d (.fn n_ref08_Right))) [(.tmp 57), (.tmp 58)]), (some (56, false))⟩,
     ⟨(some 60), (.un .not (.tmp 59)), (some (56, false))⟩,
     ⟨(some 61), (.pick (.tmp 56) (.cst (.d (.bool true))) (.tmp 60)), none⟩] []) (
  .cond (.tmp 61) (
   .seq (
    .region false [⟨(some 62), (.mv (.tmp 9)), none⟩,
      ⟨(some 63), (.bin .eql (.tmp 62) (.cst (.d (.int .i64 1)))), none⟩,
      ⟨(some 64), (.mv (.tmp 63)), none⟩,
      ⟨(some 65), (.mv (.tmp 8)), (some (64, true))⟩,
      ⟨(some 66), (.len (.tmp 65)), (some (64, true))⟩,
      ⟨(some 67), (.bin .eql (.tmp 66) (.cst (.d (.int .i64 0)))), (some (64, true))⟩,
      ⟨(some 68), (.pick (.tmp 64) (.tmp 67) (.cst (.d (.bool false)))), none⟩,
      ⟨(some 6), (.mv (.tmp 68)), none⟩] []) (
   .ret)) (
   .skip))) (
 .seq (
  .seq (
   .region true [⟨(some 69), (.load true 4 (.tmp 5)), none⟩,
     ⟨(some 70), (.call 0 false (.cst (.d (.fn n_ref08_Reads))) [(.tmp 69)]), none⟩,
     ⟨(some 71), (.mv (.tmp 70)), none⟩,
     ⟨(some 72), (.mv (.tmp 1)), (some (71, true))⟩,
     ⟨(some 73), (.fieldAddr 1 (.tmp 5)), (some (71, true))⟩,
     ⟨(some 74), (.load false 1 (.tmp 73)), (some (71, true))⟩,
     ⟨(some 75), (.idxAddr 1 (.tmp 72) (.tmp 74)), (some (71, true))⟩,
     ⟨(some 76), (.load false 1 (.tmp 75)), (some (71, true))⟩,
     ⟨(some 77), (.fieldAddr 2 (.tmp 5)), (some (71, true))⟩,
     ⟨(some 78), (.load false 1 (.tmp 77)), (some (71, true))⟩,
     ⟨(some 79), (.bin .neq (.tmp 76) (.tmp 78)), (some (71, true))⟩,
     ⟨(some 80), (.pick (.tmp 71) (.tmp 79) (.cst (.d (.bool false)))), none⟩] []) (
  .cond (.tmp 80) (
   .seq (
    .region false [⟨(some 81), (.mv (.tmp 9)), none⟩,
      ⟨(some 82), (.bin .eql (.tmp 81) (.cst (.d (.int .i64 3)))), none⟩,
      ⟨(some 83), (.mv (.tmp 82)), none⟩,
      ⟨(some 84), (.mv (.tmp 8)), (some (83, true))⟩,
      ⟨(some 85), (.len (.tmp 84)), (some (83, true))⟩,
      ⟨(some 86), (.bin .eql (.tmp 85) (.cst (.d (.int .i64 0)))), (some (83, true))⟩,
      ⟨(some 87), (.pick (.tmp 83) (.tmp 86) (.cst (.d (.bool false)))), none⟩,
      ⟨(some 6), (.mv (.tmp 87)), none⟩] []) (
   .ret)) (
   .skip))) (
 .seq (
  .region false [⟨(some 88), (.mv (.cst (.d (.list [] true)))), none⟩,
    ⟨(some 89), (.mv (.tmp 1)), none⟩,
    ⟨(some 90), (.append 0 1 8 (.tmp 88) (.tmp 89)), none⟩,
    ⟨(some 10), (.mv (.tmp 90)), none⟩] []) (
 .seq (
  .seq (
   .region false [⟨(some 91), (.load true 4 (.tmp 5)), none⟩, ⟨(some 92), (.call 0 false (.cst (.d (.fn n_ref08_Writes))) [(.tmp 91)]), none⟩] []) (
  .cond (.tmp 92) (
   .region false [⟨(some 93), (.mv (.tmp 10)), none⟩,
     ⟨(some 94), (.fieldAddr 1 (.tmp 5)), none⟩,
     ⟨(some 95), (.load false 1 (.tmp 94)), none⟩,
     ⟨(some 96), (.fieldAddr 3 (.tmp 5)), none⟩,
     ⟨(some 97), (.load false 1 (.tmp 96)), none⟩,
     ⟨(some 98), (.idxAddr 1 (.tmp 93) (.tmp 95)), none⟩,
     ⟨none, (.store 1 (.tmp 98) (.tmp 97)), none⟩] []) (
   .skip))) (
 .seq (
  .region false [⟨(some 99), (.mv (.tmp 9)), none⟩,
    ⟨(some 100), (.bin .eql (.tmp 99) (.cst (.d (.int .i64 0)))), none⟩,
    ⟨(some 101), (.mv (.tmp 100)), none⟩,
    ⟨(some 102), (.mv (.tmp 8)), (some (101, true))⟩,
    ⟨(some 103), (.mv (.tmp 10)), (some (101, true))⟩,
    ⟨(some 104), (.call 0 false (.cst (.d (.fn n_ref08_SameNums))) [(.tmp 102), (.tmp 103)]), (some (101, true))⟩,
    ⟨(some 105), (.pick (.tmp 101) (.tmp 104) (.cst (.d (.bool false)))), none⟩,
    ⟨(some 6), (.mv (.tmp 105)), none⟩] []) (
 .ret)))))))))))
def R_law21_SeqDo : List LRes := [(.tmp 6)]
def V_law21_SeqDo : List Nat := [2, 12, 0, 1, 20, 7, 5, 50, 61, 9, 8, 80, 92, 10, 6]

def L_law21_SeqCut (n_law21_awake : Nat) (n_law21_acts : Nat) (n_seq_Run : Nat) (n_seq_Do : Nat) (n_ref08_SameNums : Nat) : LCode :=
 .seq (
  .region false [⟨(some 6), (.mv (.cst (.d (.bool false)))), none⟩] []) (
 .seq (
  .seq (
   .region false [⟨(some 17), (.call 0 false (.cst (.d (.fn n_law21_awake))) []), none⟩, ⟨(some 18), (.un .not (.tmp 17)), none⟩] []) (
  .cond (.tmp 18) (
   .seq (
    .region false [⟨(some 6), (.mv (.cst (.d (.bool false)))), none⟩] []) (
   .ret)) (
   .skip))) (
 .seq (
  .region false [⟨(some 19), (.mv (.tmp 1)), none⟩,
    ⟨(some 20), (.call 0 true (.cst (.d (.fn n_law21_acts))) [(.tmp 19)]), none⟩,
    ⟨(some 7), (.mv (.tmp 20)), none⟩] []) (
 .seq (
  .seq (
   .region false [⟨(some 21), (.mv (.tmp 0)), none⟩,
     ⟨(some 22), (.len (.tmp 21)), none⟩,
     ⟨(some 23), (.bin .gtr (.tmp 22) (.cst (.d (.int .i64 40)))), none⟩,
     ⟨(some 24), (.mv (.tmp 23)), none⟩,
     ⟨(some 25), (.mv (.tmp 2)), (some (24, false))⟩,
     ⟨(some 26), (.bin .lss (.tmp 25) (.cst (.d (.int .i64 0)))), (some (24, false))⟩,
     ⟨(some 27), (.pick (.tmp 24) (.cst (.d (.bool true))) (.tmp 26)), none⟩,
     ⟨(some 28), (.mv (.tmp 27)), none⟩,
     ⟨(some 29), (.mv (.tmp 2)), (some (28, false))⟩,
     ⟨(some 30), (.mv (.tmp 7)), (some (28, false))⟩,
     ⟨(some 31), (.len (.tmp 30)), (some (28, false))⟩,
     ⟨(some 32), (.bin .gtr (.tmp 29) (.tmp 31)), (some (28, false))⟩,
     ⟨(some 33), (.pick (.tmp 28) (.cst (.d (.bool true))) (.tmp 32)), none⟩] []) (
  .cond (.tmp 33) (
   .seq (
    .region false [⟨(some 6), (.mv (.cst (.d (.bool true)))), none⟩] []) (
   .ret)) (
   .skip))) (
 .seq (
  .region false [⟨(some 35), (.mv (.tmp 0)), none⟩,
    ⟨(some 36), (.mv (.tmp 7)), none⟩,
    ⟨(some 37), (.call 0 false (.cst (.d (.fn n_seq_Run))) [(.tmp 35), (.tmp 36)]), none⟩,
    ⟨(some 34), (.mv (.tmp 37)), none⟩,
    ⟨(some 38), (.extract 0 (.tmp 34)), none⟩,
    ⟨(some 39), (.extract 1 (.tmp 34)), none⟩,
    ⟨(some 40), (.extract 2 (.tmp 34)), none⟩,
    ⟨(some 8), (.mv (.tmp 38)), none⟩,
    ⟨(some 9), (.mv (.tmp 39)), none⟩,
    ⟨(some 10), (.mv (.tmp 40)), none⟩] []) (
 .seq (
  .region false [⟨(some 42), (.mv (.tmp 0)), none⟩,
    ⟨(some 43), (.mv (.tmp 7)), none⟩,
    ⟨(some 44), (.mv (.tmp 2)), none⟩,
    ⟨(some 45), (.slice 4 (.tmp 43) none (some (.tmp 44)) none), none⟩,
    ⟨(some 46), (.call 0 false (.cst (.d (.fn n_seq_Run))) [(.tmp 42), (.tmp 45)]), none⟩,
    ⟨(some 41), (.mv (.tmp 46)), none⟩,
    ⟨(some 47), (.extract 0 (.tmp 41)), none⟩,
    ⟨(some 48), (.extract 1 (.tmp 41)), none⟩,
    ⟨(some 49), (.extract 2 (.tmp 41)), none⟩,
    ⟨(some 11), (.mv (.tmp 47)), none⟩,
    ⟨(some 12), (.mv (.tmp 48)), none⟩,
    ⟨(some 13), (.mv (.tmp 49)), none⟩] []) (
 .seq (
  .seq (
   .region false [⟨(some 50), (.mv (.tmp 10)), none⟩,
     ⟨(some 51), (.bin .neq (.tmp 50) (.cst (.d (.int .i64 0)))), none⟩,
     ⟨(some 52), (.mv (.tmp 51)), none⟩,
     ⟨(some 53), (.mv (.tmp 9)), (some (52, true))⟩,
     ⟨(some 54), (.mv (.tmp 2)), (some (52, true))⟩,
     ⟨(some 55), (.bin .lss (.tmp 53) (.tmp 54)), (some (52, true))⟩,
     ⟨(some 56), (.pick (.tmp 52) (.tmp 55) (.cst (.d (.bool false)))), none⟩] []) (
  .cond (.tmp 56) (
   .seq (
    .region false [⟨(some 57), (.mv (.tmp 12)), none⟩,
      ⟨(some 58), (.mv (.tmp 9)), none⟩,
      ⟨(some 59), (.bin .eql (.tmp 57) (.tmp 58)), none⟩,
      ⟨(some 60), (.mv (.tmp 59)), none⟩,
      ⟨(some 61), (.mv (.tmp 13)), (some (60, true))⟩,
      ⟨(some 62), (.mv (.tmp 10)), (some (60, true))⟩,
      ⟨(some 63), (.bin .eql (.tmp 61) (.tmp 62)), (some (60, true))⟩,
      ⟨(some 64), (.pick (.tmp 60) (.tmp 63) (.cst (.d (.bool false)))), none⟩,
      ⟨(some 6), (.mv (.tmp 64)), none⟩] []) (
   .ret)) (
   .skip))) (
 .seq (
  .seq (
   .region false [⟨(some 65), (.mv (.tmp 13)), none⟩,
     ⟨(some 66), (.bin .neq (.tmp 65) (.cst (.d (.int .i64 0)))), none⟩,
     ⟨(some 67), (.mv (.tmp 66)), none⟩,
     ⟨(some 68), (.mv (.tmp 12)), (some (67, false))⟩,
     ⟨(some 69), (.mv (.tmp 2)), (some (67, false))⟩,
     ⟨(some 70), (.bin .neq (.tmp 68) (.tmp 69)), (some (67, false))⟩,
     ⟨(some 71), (.pick (.tmp 67) (.cst (.d (.bool true))) (.tmp 70)), none⟩] []) (
  .cond (.tmp 71) (
   .seq (
    .region false [⟨(some 6), (.mv (.cst (.d (.bool false)))), none⟩] []) (
   .ret)) (
   .skip))) (
 .seq (
  .seq (
   .region false [⟨(some 72), (.mv (.tmp 2)), none⟩, ⟨(some 14), (.mv (.tmp 72)), none⟩] []) (
  .block 0 (
   .loop (
    .seq (
     .seq (
      .region false [⟨(some 73), (.mv (.tmp 14)), none⟩,
        ⟨(some 74), (.mv (.tmp 7)), none⟩,
        ⟨(some 75), (.len (.tmp 74)), none⟩,
        ⟨(some 76), (.bin .lss (.tmp 73) (.tmp 75)), none⟩] []) (
     .cond (.tmp 76) (
      .skip) (
      (.exit 0)))) (
    .seq (
     .block 1 (
      .seq (
       .region false [⟨(some 80), (.mv (.tmp 0)), none⟩,
         ⟨(some 81), (.mv (.tmp 11)), none⟩,
         ⟨(some 82), (.mv (.tmp 7)), none⟩,
         ⟨(some 83), (.mv (.tmp 14)), none⟩,
         ⟨(some 84), (.idxAddr 4 (.tmp 82) (.tmp 83)), none⟩,
         ⟨(some 85), (.load true 4 (.tmp 84)), none⟩,
         ⟨(some 86), (.call 0 false (.cst (.d (.fn n_seq_Do))) [(.tmp 80), (.tmp 81), (.tmp 85)]), none⟩,
         ⟨(some 79), (.mv (.tmp 86)), none⟩,
         ⟨(some 87), (.extract 0 (.tmp 79)), none⟩,
         ⟨(some 88), (.extract 1 (.tmp 79)), none⟩,
         ⟨(some 15), (.mv (.tmp 87)), none⟩,
         ⟨(some 16), (.mv (.tmp 88)), none⟩] []) (
      .seq (
       .seq (
        .region false [⟨(some 89), (.mv (.tmp 16)), none⟩, ⟨(some 90), (.bin .neq (.tmp 89) (.cst (.d (.int .i64 0)))), none⟩] []) (
       .cond (.tmp 90) (
        .seq (
         .region false [⟨(some 91), (.mv (.tmp 10)), none⟩,
           ⟨(some 92), (.mv (.tmp 16)), none⟩,
           ⟨(some 93), (.bin .eql (.tmp 91) (.tmp 92)), none⟩,
           ⟨(some 94), (.mv (.tmp 93)), none⟩,
           ⟨(some 95), (.mv (.tmp 9)), (some (94, true))⟩,
           ⟨(some 96), (.mv (.tmp 14)), (some (94, true))⟩,
           ⟨(some 97), (.bin .eql (.tmp 95) (.tmp 96)), (some (94, true))⟩,
           ⟨(some 98), (.pick (.tmp 94) (.tmp 97) (.cst (.d (.bool false)))), none⟩,
           ⟨(some 6), (.mv (.tmp 98)), none⟩] []) (
        .ret)) (
        .skip))) (
      .region false [⟨(some 99), (.mv (.tmp 15)), none⟩, ⟨(some 11), (.mv (.tmp 99)), none⟩] [])))) (
    .region false [⟨(some 77), (.mv (.tmp 14)), none⟩,
      ⟨(some 78), (.bin .add (.tmp 77) (.cst (.d (.int .i64 1)))), none⟩,
      ⟨(some 14), (.mv (.tmp 78)), none⟩] [])))))) (
 .seq (
  .region false [⟨(some 100), (.mv (.tmp 10)), none⟩,
    ⟨(some 101), (.bin .eql (.tmp 100) (.cst (.d (.int .i64 0)))), none⟩,
    ⟨(some 102), (.mv (.tmp 101)), none⟩,
    ⟨(some 103), (.mv (.tmp 11)), (some (102, true))⟩,
    ⟨(some 104), (.mv (.tmp 8)), (some (102, true))⟩,
    ⟨(some 105), (.call 0 false (.cst (.d (.fn n_ref08_SameNums))) [(.tmp 103), (.tmp 104)]), (some (102, true))⟩,
    ⟨(some 106), (.pick (.tmp 102) (.tmp 105) (.cst (.d (.bool false)))), none⟩,
    ⟨(some 6), (.mv (.tmp 106)), none⟩] []) (
 .ret))))))))))
def R_law21_SeqCut : List LRes := [(.tmp 6)]
def V_law21_SeqCut : List Nat := [18, 1, 0, 2, 7, 33, 10, 9, 56, 12, 13, 71, 14, 76, 11, 16, 90, 15, 8, 6]

def L_law21_SeqLifts (n_law21_awake : Nat) (n_law21_acts : Nat) (n_ref21_Run : Nat) (n_seq_Lift : Nat) (n_hist_New : Nat) (n_ref21_When : Nat) (n_hist_Do : Nat) : LCode :=
 .seq (
  .region false [⟨(some 4), (.mv (.cst (.d (.bool false)))), none⟩] []) (
 .seq (
  .seq (
   .region false [⟨(some 15), (.call 0 false (.cst (.d (.fn n_law21_awake))) []), none⟩, ⟨(some 16), (.un .not (.tmp 15)), none⟩] []) (
  .cond (.tmp 16) (
   .seq (
    .region false [⟨(some 4), (.mv (.cst (.d (.bool false)))), none⟩] []) (
   .ret)) (
   .skip))) (
 .seq (
  .seq (
   .region false [⟨(some 17), (.mv (.tmp 0)), none⟩,
     ⟨(some 18), (.len (.tmp 17)), none⟩,
     ⟨(some 19), (.bin .gtr (.tmp 18) (.cst (.d (.int .i64 10)))), none⟩] []) (
  .cond (.tmp 19) (
   .seq (
    .region false [⟨(some 4), (.mv (.cst (.d (.bool true)))), none⟩] []) (
   .ret)) (
   .skip))) (
 .seq (
  .region false [⟨(some 20), (.mv (.tmp 1)), none⟩,
    ⟨(some 21), (.mv (.tmp 1)), none⟩,
    ⟨(some 22), (.len (.tmp 21)), none⟩,
    ⟨(some 23), (.mini (.tmp 22) (.cst (.d (.int .i64 60)))), none⟩,
    ⟨(some 24), (.slice 7 (.tmp 20) none (some (.tmp 23)) none), none⟩,
    ⟨(some 1), (.mv (.tmp 24)), none⟩] []) (
 .seq (
  .region false [⟨(some 25), (.mv (.tmp 1)), none⟩,
    ⟨(some 26), (.call 0 true (.cst (.d (.fn n_law21_acts))) [(.tmp 25)]), none⟩,
    ⟨(some 5), (.mv (.tmp 26)), none⟩] []) (
 .seq (
  .region false [⟨(some 28), (.mv (.tmp 0)), none⟩,
    ⟨(some 29), (.mv (.tmp 1)), none⟩,
    ⟨(some 30), (.call 0 false (.cst (.d (.fn n_seq_Lift))) [(.tmp 28), (.tmp 29)]), none⟩,
    ⟨(some 27), (.mv (.tmp 30)), none⟩,
    ⟨(some 31), (.extract 0 (.tmp 27)), none⟩,
    ⟨(some 32), (.extract 1 (.tmp 27)), none⟩,
    ⟨(some 6), (.mv (.tmp 31)), none⟩,
    ⟨(some 7), (.mv (.tmp 32)), none⟩] []) (
 .seq (
  .seq (
   .region false [⟨(some 34), (.mv (.tmp 0)), none⟩,
     ⟨(some 35), (.mv (.tmp 5)), none⟩,
     ⟨(some 36), (.call 0 false (.cst (.d (.fn n_ref21_Run))) [(.tmp 34), (.tmp 35)]), none⟩,
     ⟨(some 33), (.mv (.tmp 36)), none⟩,
     ⟨(some 37), (.extract 0 (.tmp 33)), none⟩,
     ⟨(some 38), (.extract 1 (.tmp 33)), none⟩,
     ⟨(some 8), (.mv (.tmp 37)), none⟩,
     ⟨(some 9), (.mv (.tmp 38)), none⟩] []) (
  .seq (
   .region false [⟨(some 39), (.mv (.tmp 7)), none⟩,
     ⟨(some 40), (.mv (.tmp 9)), none⟩,
     ⟨(some 41), (.bin .neq (.tmp 39) (.tmp 40)), none⟩] []) (
  .cond (.tmp 41) (
   .seq (
    .region false [⟨(some 4), (.mv (.cst (.d (.bool false)))), none⟩] []) (
   .ret)) (
   .skip)))) (
 .seq (
  .seq (
   .region false [⟨(some 42), (.mv (.tmp 7)), none⟩, ⟨(some 43), (.bin .neq (.tmp 42) (.cst (.d (.int .i64 0)))), none⟩] []) (
  .cond (.tmp 43) (
   .seq (
    .region false [⟨(some 44), (.mv (.tmp 6)), none⟩,
      ⟨(some 45), (.len (.tmp 44)), none⟩,
      ⟨(some 46), (.bin .eql (.tmp 45) (.cst (.d (.int .i64 0)))), none⟩,
      ⟨(some 4), (.mv (.tmp 46)), none⟩] []) (
   .ret)) (
   .skip))) (
 .seq (
  .region false [⟨(some 48), (.mv (.tmp 0)), none⟩,
    ⟨(some 49), (.call 0 false (.cst (.d (.fn n_hist_New))) [(.tmp 48), (.cst (.d (.int .i64 3)))]), none⟩,
    ⟨(some 47), (.mv (.tmp 49)), none⟩,
    ⟨(some 50), (.extract 0 (.tmp 47)), none⟩,
    ⟨(some 51), (.extract 1 (.tmp 47)), none⟩,
    ⟨(some 10), (.alloc 0 5 [(.d (.list [] true)), (.d (.list [] true)), (.d (.list [] true)), (.d (.list [] true)), (.d (.list [] true))]), none⟩,
    ⟨none, (.store 5 (.tmp 10) (.tmp 50)), none⟩,
    ⟨(some 11), (.mv (.tmp 51)), none⟩] []) (
 .seq (
  .seq (
   .region false [⟨(some 52), (.mv (.tmp 6)), none⟩,
     ⟨(some 53), (.len (.tmp 52)), none⟩,
     ⟨(some 54), (.mv (.tmp 1)), none⟩,
     ⟨(some 55), (.len (.tmp 54)), none⟩,
     ⟨(some 56), (.bin .neq (.tmp 53) (.tmp 55)), none⟩] []) (
  .cond (.tmp 56) (
   .seq (
    .region false [⟨(some 4), (.mv (.cst (.d (.bool false)))), none⟩] []) (
   .ret)) (
   .skip))) (
 .seq (
  .seq (
   .region false [⟨(some 12), (.mv (.cst (.d (.int .i64 0)))), none⟩] []) (
  .block 0 (
   .loop (
    .seq (
     .seq (
      .region false [⟨(some 57), (.mv (.tmp 12)), none⟩,
        ⟨(some 58), (.mv (.tmp 6)), none⟩,
        ⟨(some 59), (.len (.tmp 58)), none⟩,
        ⟨(some 60), (.bin .lss (.tmp 57) (.tmp 59)), none⟩] []) (
     .cond (.tmp 60) (
      .skip) (
      (.exit 0)))) (
    .seq (
     .block 1 (
      .seq (
       .seq (
        .region true [⟨(some 63), (.mv (.tmp 6)), none⟩,
          ⟨(some 64), (.mv (.tmp 12)), none⟩,
          ⟨(some 65), (.idxAddr 7 (.tmp 63) (.tmp 64)), none⟩,
          ⟨(some 66), (.fieldAddr 0 (.tmp 65)), none⟩,
          ⟨(some 67), (.load false 1 (.tmp 66)), none⟩,
          ⟨(some 68), (.mv (.tmp 1)), none⟩,
          ⟨(some 69), (.mv (.tmp 12)), none⟩,
          ⟨(some 70), (.idxAddr 7 (.tmp 68) (.tmp 69)), none⟩,
          ⟨(some 71), (.fieldAddr 0 (.tmp 70)), none⟩,
          ⟨(some 72), (.load false 1 (.tmp 71)), none⟩,
          ⟨(some 73), (.bin .neq (.tmp 67) (.tmp 72)), none⟩,
          ⟨(some 74), (.mv (.tmp 73)), none⟩,
          ⟨(some 75), (.mv (.tmp 6)), (some (74, false))⟩,
          ⟨(some 76), (.mv (.tmp 12)), (some (74, false))⟩,
          ⟨(some 77), (.idxAddr 7 (.tmp 75) (.tmp 76)), (some (74, false))⟩,
          ⟨(some 78), (.fieldAddr 1 (.tmp 77)), (some (74, false))⟩,
          ⟨(some 79), (.load true 4 (.tmp 78)), (some (74, false))⟩,
          ⟨(some 80), (.mv (.tmp 1)), (some (74, false))⟩,
          ⟨(some 81), (.mv (.tmp 12)), (some (74, false))⟩,
          ⟨(some 82), (.idxAddr 7 (.tmp 80) (.tmp 81)), (some (74, false))⟩,
          ⟨(some 83), (.fieldAddr 1 (.tmp 82)), (some (74, false))⟩,
          ⟨(some 84), (.load true 4 (.tmp 83)), (some (74, false))⟩,
          ⟨(some 85), (.eq true (.flat [true, true, true, true]) (.tmp 79) (.tmp 84)), (some (74, false))⟩,
          ⟨(some 86), (.pick (.tmp 74) (.cst (.d (.bool true))) (.tmp 85)), none⟩,
          ⟨(some 87), (.mv (.tmp 86)), none⟩,
          ⟨(some 88), (.mv (.tmp 6)), (some (87, false))⟩,
          ⟨(some 89), (.mv (.tmp 12)), (some (87, false))⟩,
          ⟨(some 90), (.idxAddr 7 (.tmp 88) (.tmp 89)), (some (87, false))⟩,
          ⟨(some 91), (.fieldAddr 5 (.tmp 90)), (some (87, false))⟩,
          ⟨(some 92), (.load true 2 (.tmp 91)), (some (87, false))⟩,
          ⟨(some 93), (.mv (.tmp 5)), (some (87, false))⟩,
          ⟨(some 94), (.mv (.tmp 12)), (some (87, false))⟩,
          ⟨(some 95), (.call 0 false (.cst (.d (.fn n_ref21_When))) [(.tmp 93), (.tmp 94)]), (some (87, false))⟩,
          ⟨(some 96), (.eq true (.flat [true, true]) (.tmp 92) (.tmp 95)), (some (87, false))⟩,
          ⟨(some 97), (.pick (.tmp 87) (.cst (.d (.bool true))) (.tmp 96)), none⟩] [(29, 32)]) (
       .cond (.tmp 97) (
        .seq (
         .region false [⟨(some 4), (.mv (.cst (.d (.bool false)))), none⟩] []) (
        .ret)) (
        .skip))) (
      .seq (
       .seq (
        .region false [⟨(some 98), (.mv (.tmp 6)), none⟩,
          ⟨(some 99), (.mv (.tmp 12)), none⟩,
          ⟨(some 100), (.idxAddr 7 (.tmp 98) (.tmp 99)), none⟩,
          ⟨(some 101), (.fieldAddr 0 (.tmp 100)), none⟩,
          ⟨(some 102), (.load false 1 (.tmp 101)), none⟩,
          ⟨(some 103), (.bin .lss (.tmp 102) (.cst (.d (.int .i64 0)))), none⟩,
          ⟨(some 104), (.mv (.tmp 103)), none⟩,
          ⟨(some 105), (.mv (.tmp 6)), (some (104, false))⟩,
          ⟨(some 106), (.mv (.tmp 12)), (some (104, false))⟩,
          ⟨(some 107), (.idxAddr 7 (.tmp 105) (.tmp 106)), (some (104, false))⟩,
          ⟨(some 108), (.fieldAddr 0 (.tmp 107)), (some (104, false))⟩,
          ⟨(some 109), (.load false 1 (.tmp 108)), (some (104, false))⟩,
          ⟨(some 110), (.bin .geq (.tmp 109) (.cst (.d (.int .i64 3)))), (some (104, false))⟩,
          ⟨(some 111), (.pick (.tmp 104) (.cst (.d (.bool true))) (.tmp 110)), none⟩] []) (
       .cond (.tmp 111) (
        .seq (
         .region false [⟨(some 4), (.mv (.cst (.d (.bool true)))), none⟩] []) (
        .ret)) (
        .skip))) (
      .seq (
       .region true [⟨(some 113), (.load true 5 (.tmp 10)), none⟩,
         ⟨(some 114), (.mv (.tmp 6)), none⟩,
         ⟨(some 115), (.mv (.tmp 12)), none⟩,
         ⟨(some 116), (.idxAddr 7 (.tmp 114) (.tmp 115)), none⟩,
         ⟨(some 117), (.load true 7 (.tmp 116)), none⟩,
         ⟨(some 118), (.call 0 false (.cst (.d (.fn n_hist_Do))) [(.tmp 113), (.tmp 117)]), none⟩,
         ⟨(some 112), (.mv (.tmp 118)), none⟩,
         ⟨(some 119), (.extract 0 (.tmp 112)), none⟩,
         ⟨(some 120), (.extract 1 (.tmp 112)), none⟩,
         ⟨(some 13), (.alloc 0 5 [(.d (.list [] true)), (.d (.list [] true)), (.d (.list [] true)), (.d (.list [] true)), (.d (.list [] true))]), none⟩,
         ⟨none, (.store 5 (.tmp 13) (.tmp 119)), none⟩,
         ⟨(some 14), (.mv (.tmp 120)), none⟩] [(5, 9), (4, 9), (0, 9)]) (
      .seq (
       .seq (
        .region false [⟨(some 121), (.mv (.tmp 14)), none⟩, ⟨(some 122), (.bin .neq (.tmp 121) (.cst (.d (.int .i64 0)))), none⟩] []) (
       .cond (.tmp 122) (
        .seq (
         .region false [⟨(some 4), (.mv (.cst (.d (.bool false)))), none⟩] []) (
        .ret)) (
        .skip))) (
      .region false [⟨(some 123), (.load true 5 (.tmp 13)), none⟩, ⟨none, (.store 5 (.tmp 10) (.tmp 123)), none⟩] [])))))) (
    .region false [⟨(some 61), (.mv (.tmp 12)), none⟩,
      ⟨(some 62), (.bin .add (.tmp 61) (.cst (.d (.int .i64 1)))), none⟩,
      ⟨(some 12), (.mv (.tmp 62)), none⟩] [])))))) (
 .seq (
  .region false [⟨(some 4), (.mv (.cst (.d (.bool true)))), none⟩] []) (
 .ret))))))))))))
def R_law21_SeqLifts : List LRes := [(.tmp 4)]
def V_law21_SeqLifts : List Nat := [16, 0, 19, 1, 5, 7, 9, 41, 43, 6, 56, 12, 60, 97, 111, 10, 14, 122, 13, 4]

def L_law21_awake (n_seq_Run : Nat) : LCode :=
 .seq (
  .region false [⟨(some 0), (.mv (.cst (.d (.bool false)))), none⟩] []) (
 .seq (
  .region false [⟨(some 5), (.mkslice 0 2 16 [(.d (.bool false)), (.d (.int .i64 0))] (.cst (.d (.int .i64 1))) (.cst (.d (.int .i64 1)))), none⟩,
    ⟨(some 6), (.build [(.d (.int .i64 0)), (.d (.int .i64 0)), (.d (.int .i64 0)), (.d (.int .i64 0))] [(0, (1, (.cst (.d (.int .i64 2))))), (3, (1, (.cst (.d (.int .i64 1)))))]), none⟩,
    ⟨(some 7), (.build [(.d (.int .i64 0)), (.d (.int .i64 0)), (.d (.int .i64 0)), (.d (.int .i64 0))] [(0, (1, (.cst (.d (.int .i64 1))))), (2, (1, (.cst (.d (.int .i64 1)))))]), none⟩,
    ⟨(some 8), (.bslice 1 4 2 [(.d (.int .i64 0)), (.d (.int .i64 0)), (.d (.int .i64 0)), (.d (.int .i64 0))] [(0, (.tmp 6)), (1, (.tmp 7))]), none⟩,
    ⟨(some 9), (.call 2 false (.cst (.d (.fn n_seq_Run))) [(.tmp 5), (.tmp 8)]), none⟩,
    ⟨(some 4), (.mv (.tmp 9)), none⟩,
    ⟨(some 10), (.extract 0 (.tmp 4)), none⟩,
    ⟨(some 11), (.extract 1 (.tmp 4)), none⟩,
    ⟨(some 12), (.extract 2 (.tmp 4)), none⟩,
    ⟨(some 1), (.mv (.tmp 10)), none⟩,
    ⟨(some 2), (.mv (.tmp 11)), none⟩,
    ⟨(some 3), (.mv (.tmp 12)), none⟩] []) (
 .seq (
  .region false [⟨(some 13), (.mv (.tmp 3)), none⟩,
    ⟨(some 14), (.bin .eql (.tmp 13) (.cst (.d (.int .i64 0)))), none⟩,
    ⟨(some 15), (.mv (.tmp 14)), none⟩,
    ⟨(some 16), (.mv (.tmp 2)), (some (15, true))⟩,
    ⟨(some 17), (.bin .eql (.tmp 16) (.cst (.d (.int .i64 2)))), (some (15, true))⟩,
    ⟨(some 18), (.pick (.tmp 15) (.tmp 17) (.cst (.d (.bool false)))), none⟩,
    ⟨(some 19), (.mv (.tmp 18)), none⟩,
    ⟨(some 20), (.mv (.tmp 1)), (some (19, true))⟩,
    ⟨(some 21), (.len (.tmp 20)), (some (19, true))⟩,
    ⟨(some 22), (.bin .eql (.tmp 21) (.cst (.d (.int .i64 1)))), (some (19, true))⟩,
    ⟨(some 23), (.pick (.tmp 19) (.tmp 22) (.cst (.d (.bool false)))), none⟩,
    ⟨(some 24), (.mv (.tmp 23)), none⟩,
    ⟨(some 25), (.mv (.tmp 1)), (some (24, true))⟩,
    ⟨(some 26), (.idxAddr 1 (.tmp 25) (.cst (.d (.int .i64 0)))), (some (24, true))⟩,
    ⟨(some 27), (.load false 1 (.tmp 26)), (some (24, true))⟩,
    ⟨(some 28), (.bin .eql (.tmp 27) (.cst (.d (.int .i64 1)))), (some (24, true))⟩,
    ⟨(some 29), (.pick (.tmp 24) (.tmp 28) (.cst (.d (.bool false)))), none⟩,
    ⟨(some 0), (.mv (.tmp 29)), none⟩] []) (
 .ret)))
def R_law21_awake : List LRes := [(.tmp 0)]
def V_law21_awake : List Nat := [3, 2, 1, 0]

def L_law21_acts : LCode :=
 .seq (
  .region false [⟨(some 2), (.mv (.cst (.d (.list [] true)))), none⟩] []) (
 .seq (
  .region false [⟨(some 3), (.mv (.cst (.d (.list [] true)))), none⟩] []) (
 .seq (
  .seq (
   .region false [⟨(some 4), (.mv (.cst (.d (.int .i64 0)))), none⟩] []) (
  .block 0 (
   .loop (
    .seq (
     .seq (
      .region false [⟨(some 5), (.mv (.tmp 4)), none⟩,
        ⟨(some 6), (.mv (.tmp 0)), none⟩,
        ⟨(some 7), (.len (.tmp 6)), none⟩,
        ⟨(some 8), (.bin .lss (.tmp 5) (.tmp 7)), none⟩,
        ⟨(some 9), (.mv (.tmp 8)), none⟩,
        ⟨(some 10), (.mv (.tmp 4)), (some (9, true))⟩,
        ⟨(some 11), (.bin .lss (.tmp 10) (.cst (.d (.int .i64 100)))), (some (9, true))⟩,
        ⟨(some 12), (.pick (.tmp 9) (.tmp 11) (.cst (.d (.bool false)))), none⟩] []) (
     .cond (.tmp 12) (
      .skip) (
      (.exit 0)))) (
    .seq (
     .block 1 (
      .region false [⟨(some 15), (.mv (.tmp 3)), none⟩,
        ⟨(some 16), (.mv (.tmp 0)), none⟩,
        ⟨(some 17), (.mv (.tmp 4)), none⟩,
        ⟨(some 18), (.idxAddr 7 (.tmp 16) (.tmp 17)), none⟩,
        ⟨(some 19), (.fieldAddr 1 (.tmp 18)), none⟩,
        ⟨(some 20), (.load true 4 (.tmp 19)), none⟩,
        ⟨(some 21), (.bslice 0 4 1 [(.d (.int .i64 0)), (.d (.int .i64 0)), (.d (.int .i64 0)), (.d (.int .i64 0))] [(0, (.tmp 20))]), none⟩,
        ⟨(some 22), (.append 1 4 32 (.tmp 15) (.tmp 21)), none⟩,
        ⟨(some 3), (.mv (.tmp 22)), none⟩] [])) (
    .region false [⟨(some 13), (.mv (.tmp 4)), none⟩,
      ⟨(some 14), (.bin .add (.tmp 13) (.cst (.d (.int .i64 1)))), none⟩,
      ⟨(some 4), (.mv (.tmp 14)), none⟩] [])))))) (
 .seq (
  .region false [⟨(some 23), (.mv (.tmp 3)), none⟩, ⟨(some 2), (.mv (.tmp 23)), none⟩] []) (
 .ret))))
def R_law21_acts : List LRes := [(.tmp 2)]
def V_law21_acts : List Nat := [4, 0, 12, 3, 2]

end Go.Ago
