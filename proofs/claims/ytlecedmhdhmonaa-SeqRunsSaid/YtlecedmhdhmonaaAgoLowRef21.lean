/- Lowered functions of a package, callees by their numbers. Printed by a program of this session. Conditions: none. -/
import Derived.Test.YtlecedmhdhmonaaAgo27
set_option maxRecDepth 100000
set_option linter.unusedVariables false
namespace Go.Ago
def L_ref21_Run (n_ref21_Latest : Nat) (n_ref08_Right : Nat) (n_ref08_Reads : Nat) : LCode :=
 .seq (
  .region false [⟨(some 4), (.mv (.cst (.d (.int .i64 0)))), none⟩, ⟨(some 5), (.mv (.cst (.d (.int .i64 0)))), none⟩] []) (
 .seq (
  .seq (
   .region false [⟨(some 6), (.mv (.cst (.d (.int .i64 0)))), none⟩] []) (
  .block 0 (
   .loop (
    .seq (
     .seq (
      .region false [⟨(some 7), (.mv (.tmp 6)), none⟩,
        ⟨(some 8), (.mv (.tmp 1)), none⟩,
        ⟨(some 9), (.len (.tmp 8)), none⟩,
        ⟨(some 10), (.bin .lss (.tmp 7) (.tmp 9)), none⟩] []) (
     .cond (.tmp 10) (
      .skip) (
      (.exit 0)))) (
    .seq (
     .block 1 (
      .seq (
       .seq (
        .region false [⟨(some 13), (.mv (.tmp 1)), none⟩,
          ⟨(some 14), (.mv (.tmp 6)), none⟩,
          ⟨(some 15), (.idxAddr 4 (.tmp 13) (.tmp 14)), none⟩,
          ⟨(some 16), (.load true 4 (.tmp 15)), none⟩,
          ⟨(some 17), (.mv (.tmp 0)), none⟩,
          ⟨(some 18), (.call 0 false (.cst (.d (.fn n_ref08_Right))) [(.tmp 16), (.tmp 17)]), none⟩,
          ⟨(some 19), (.un .not (.tmp 18)), none⟩] []) (
       .cond (.tmp 19) (
        .seq (
         .region false [⟨(some 20), (.mv (.tmp 6)), none⟩,
           ⟨(some 4), (.mv (.tmp 20)), none⟩,
           ⟨(some 5), (.mv (.cst (.d (.int .i64 1)))), none⟩] []) (
        .ret)) (
        .skip))) (
      .seq (
       .region true [⟨(some 21), (.mv (.tmp 1)), none⟩,
         ⟨(some 22), (.mv (.tmp 6)), none⟩,
         ⟨(some 23), (.idxAddr 4 (.tmp 21) (.tmp 22)), none⟩,
         ⟨(some 24), (.load true 4 (.tmp 23)), none⟩,
         ⟨(some 25), (.call 0 false (.cst (.d (.fn n_ref08_Reads))) [(.tmp 24)]), none⟩,
         ⟨(some 26), (.mv (.tmp 25)), none⟩,
         ⟨(some 27), (.mv (.tmp 0)), (some (26, true))⟩,
         ⟨(some 28), (.mv (.tmp 1)), (some (26, true))⟩,
         ⟨(some 29), (.mv (.tmp 1)), (some (26, true))⟩,
         ⟨(some 30), (.mv (.tmp 6)), (some (26, true))⟩,
         ⟨(some 31), (.idxAddr 4 (.tmp 29) (.tmp 30)), (some (26, true))⟩,
         ⟨(some 32), (.fieldAddr 1 (.tmp 31)), (some (26, true))⟩,
         ⟨(some 33), (.load false 1 (.tmp 32)), (some (26, true))⟩,
         ⟨(some 34), (.mv (.tmp 6)), (some (26, true))⟩,
         ⟨(some 35), (.call 0 false (.cst (.d (.fn n_ref21_Latest))) [(.tmp 27), (.tmp 28), (.tmp 33), (.tmp 34)]), (some (26, true))⟩,
         ⟨(some 36), (.mv (.tmp 1)), (some (26, true))⟩,
         ⟨(some 37), (.mv (.tmp 6)), (some (26, true))⟩,
         ⟨(some 38), (.idxAddr 4 (.tmp 36) (.tmp 37)), (some (26, true))⟩,
         ⟨(some 39), (.fieldAddr 2 (.tmp 38)), (some (26, true))⟩,
         ⟨(some 40), (.load false 1 (.tmp 39)), (some (26, true))⟩,
         ⟨(some 41), (.bin .neq (.tmp 35) (.tmp 40)), (some (26, true))⟩,
         ⟨(some 42), (.pick (.tmp 26) (.tmp 41) (.cst (.d (.bool false)))), none⟩] [(14, 19)]) (
      .cond (.tmp 42) (
       .seq (
        .region false [⟨(some 43), (.mv (.tmp 6)), none⟩,
          ⟨(some 4), (.mv (.tmp 43)), none⟩,
          ⟨(some 5), (.mv (.cst (.d (.int .i64 3)))), none⟩] []) (
       .ret)) (
       .skip))))) (
    .region false [⟨(some 11), (.mv (.tmp 6)), none⟩,
      ⟨(some 12), (.bin .add (.tmp 11) (.cst (.d (.int .i64 1)))), none⟩,
      ⟨(some 6), (.mv (.tmp 12)), none⟩] [])))))) (
 .seq (
  .region false [⟨(some 44), (.mv (.tmp 1)), none⟩,
    ⟨(some 45), (.len (.tmp 44)), none⟩,
    ⟨(some 4), (.mv (.tmp 45)), none⟩,
    ⟨(some 5), (.mv (.cst (.d (.int .i64 0)))), none⟩] []) (
 .ret)))
def R_ref21_Run : List LRes := [(.tmp 4), (.tmp 5)]
def V_ref21_Run : List Nat := [6, 1, 10, 0, 19, 42, 4, 5]

def L_ref21_Latest (n_ref08_Writes : Nat) : LCode :=
 .seq (
  .region false [⟨(some 8), (.mv (.cst (.d (.int .i64 0)))), none⟩] []) (
 .seq (
  .seq (
   .region false [⟨(some 10), (.mv (.tmp 3)), none⟩,
     ⟨(some 11), (.bin .sub (.tmp 10) (.cst (.d (.int .i64 1)))), none⟩,
     ⟨(some 9), (.mv (.tmp 11)), none⟩] []) (
  .block 0 (
   .loop (
    .seq (
     .seq (
      .region false [⟨(some 12), (.mv (.tmp 9)), none⟩, ⟨(some 13), (.bin .geq (.tmp 12) (.cst (.d (.int .i64 0)))), none⟩] []) (
     .cond (.tmp 13) (
      .skip) (
      (.exit 0)))) (
    .seq (
     .block 1 (
      .seq (
       .region false [⟨(some 16), (.mv (.tmp 1)), none⟩,
         ⟨(some 17), (.mv (.tmp 9)), none⟩,
         ⟨(some 18), (.idxAddr 4 (.tmp 16) (.tmp 17)), none⟩,
         ⟨(some 19), (.fieldAddr 1 (.tmp 18)), none⟩,
         ⟨(some 20), (.load false 1 (.tmp 19)), none⟩,
         ⟨(some 21), (.mv (.tmp 2)), none⟩,
         ⟨(some 22), (.bin .eql (.tmp 20) (.tmp 21)), none⟩,
         ⟨(some 23), (.mv (.tmp 22)), none⟩,
         ⟨(some 24), (.mv (.tmp 1)), (some (23, true))⟩,
         ⟨(some 25), (.mv (.tmp 9)), (some (23, true))⟩,
         ⟨(some 26), (.idxAddr 4 (.tmp 24) (.tmp 25)), (some (23, true))⟩,
         ⟨(some 27), (.load true 4 (.tmp 26)), (some (23, true))⟩,
         ⟨(some 28), (.call 0 false (.cst (.d (.fn n_ref08_Writes))) [(.tmp 27)]), (some (23, true))⟩,
         ⟨(some 29), (.pick (.tmp 23) (.tmp 28) (.cst (.d (.bool false)))), none⟩] []) (
      .cond (.tmp 29) (
       .seq (
        .region false [⟨(some 30), (.mv (.tmp 1)), none⟩,
          ⟨(some 31), (.mv (.tmp 9)), none⟩,
          ⟨(some 32), (.idxAddr 4 (.tmp 30) (.tmp 31)), none⟩,
          ⟨(some 33), (.fieldAddr 3 (.tmp 32)), none⟩,
          ⟨(some 34), (.load false 1 (.tmp 33)), none⟩,
          ⟨(some 8), (.mv (.tmp 34)), none⟩] []) (
       .ret)) (
       .skip)))) (
    .region false [⟨(some 14), (.mv (.tmp 9)), none⟩,
      ⟨(some 15), (.bin .sub (.tmp 14) (.cst (.d (.int .i64 1)))), none⟩,
      ⟨(some 9), (.mv (.tmp 15)), none⟩] [])))))) (
 .seq (
  .region false [⟨(some 35), (.mv (.tmp 0)), none⟩,
    ⟨(some 36), (.mv (.tmp 2)), none⟩,
    ⟨(some 37), (.idxAddr 2 (.tmp 35) (.tmp 36)), none⟩,
    ⟨(some 38), (.fieldAddr 1 (.tmp 37)), none⟩,
    ⟨(some 39), (.load false 1 (.tmp 38)), none⟩,
    ⟨(some 8), (.mv (.tmp 39)), none⟩] []) (
 .ret)))
def R_ref21_Latest : List LRes := [(.tmp 8)]
def V_ref21_Latest : List Nat := [3, 9, 13, 1, 2, 29, 0, 8]

def L_ref21_When : LCode :=
 .seq (
  .region false [⟨(some 4), (.alloc 0 2 [(.d (.int .i64 0)), (.d (.int .i64 0))]), none⟩] []) (
 .seq (
  .seq (
   .region false [⟨(some 7), (.mv (.tmp 0)), none⟩,
     ⟨(some 8), (.mv (.tmp 1)), none⟩,
     ⟨(some 9), (.idxAddr 4 (.tmp 7) (.tmp 8)), none⟩,
     ⟨(some 10), (.fieldAddr 0 (.tmp 9)), none⟩,
     ⟨(some 11), (.load false 1 (.tmp 10)), none⟩,
     ⟨(some 12), (.bin .neq (.tmp 11) (.cst (.d (.int .i64 1)))), none⟩,
     ⟨(some 13), (.mv (.tmp 12)), none⟩,
     ⟨(some 14), (.mv (.tmp 0)), (some (13, true))⟩,
     ⟨(some 15), (.mv (.tmp 1)), (some (13, true))⟩,
     ⟨(some 16), (.idxAddr 4 (.tmp 14) (.tmp 15)), (some (13, true))⟩,
     ⟨(some 17), (.fieldAddr 0 (.tmp 16)), (some (13, true))⟩,
     ⟨(some 18), (.load false 1 (.tmp 17)), (some (13, true))⟩,
     ⟨(some 19), (.bin .neq (.tmp 18) (.cst (.d (.int .i64 2)))), (some (13, true))⟩,
     ⟨(some 20), (.pick (.tmp 13) (.tmp 19) (.cst (.d (.bool false)))), none⟩] []) (
  .cond (.tmp 20) (
   .seq (
    .region false [⟨(some 21), (.build [(.d (.int .i64 0)), (.d (.int .i64 0))] []), none⟩, ⟨none, (.store 2 (.tmp 4) (.tmp 21)), none⟩] []) (
   .ret)) (
   .skip))) (
 .seq (
  .region false [⟨(some 5), (.mv (.cst (.d (.int .i64 0)))), none⟩] []) (
 .seq (
  .seq (
   .region false [⟨(some 6), (.mv (.cst (.d (.int .i64 0)))), none⟩] []) (
  .block 0 (
   .loop (
    .seq (
     .seq (
      .region false [⟨(some 22), (.mv (.tmp 6)), none⟩,
        ⟨(some 23), (.mv (.tmp 1)), none⟩,
        ⟨(some 24), (.bin .leq (.tmp 22) (.tmp 23)), none⟩] []) (
     .cond (.tmp 24) (
      .skip) (
      (.exit 0)))) (
    .seq (
     .block 1 (
      .seq (
       .region true [⟨(some 27), (.mv (.tmp 0)), none⟩,
         ⟨(some 28), (.mv (.tmp 6)), none⟩,
         ⟨(some 29), (.idxAddr 4 (.tmp 27) (.tmp 28)), none⟩,
         ⟨(some 30), (.fieldAddr 0 (.tmp 29)), none⟩,
         ⟨(some 31), (.load false 1 (.tmp 30)), none⟩,
         ⟨(some 32), (.bin .eql (.tmp 31) (.cst (.d (.int .i64 2)))), none⟩,
         ⟨(some 33), (.mv (.tmp 32)), none⟩,
         ⟨(some 34), (.mv (.tmp 0)), (some (33, true))⟩,
         ⟨(some 35), (.mv (.tmp 6)), (some (33, true))⟩,
         ⟨(some 36), (.idxAddr 4 (.tmp 34) (.tmp 35)), (some (33, true))⟩,
         ⟨(some 37), (.fieldAddr 1 (.tmp 36)), (some (33, true))⟩,
         ⟨(some 38), (.load false 1 (.tmp 37)), (some (33, true))⟩,
         ⟨(some 39), (.mv (.tmp 0)), (some (33, true))⟩,
         ⟨(some 40), (.mv (.tmp 1)), (some (33, true))⟩,
         ⟨(some 41), (.idxAddr 4 (.tmp 39) (.tmp 40)), (some (33, true))⟩,
         ⟨(some 42), (.fieldAddr 1 (.tmp 41)), (some (33, true))⟩,
         ⟨(some 43), (.load false 1 (.tmp 42)), (some (33, true))⟩,
         ⟨(some 44), (.bin .eql (.tmp 38) (.tmp 43)), (some (33, true))⟩,
         ⟨(some 45), (.pick (.tmp 33) (.tmp 44) (.cst (.d (.bool false)))), none⟩] []) (
      .cond (.tmp 45) (
       .region false [⟨(some 46), (.mv (.tmp 5)), none⟩,
         ⟨(some 47), (.bin .add (.tmp 46) (.cst (.d (.int .i64 1)))), none⟩,
         ⟨(some 5), (.mv (.tmp 47)), none⟩] []) (
       .skip)))) (
    .region false [⟨(some 25), (.mv (.tmp 6)), none⟩,
      ⟨(some 26), (.bin .add (.tmp 25) (.cst (.d (.int .i64 1)))), none⟩,
      ⟨(some 6), (.mv (.tmp 26)), none⟩] [])))))) (
 .seq (
  .region false [⟨(some 48), (.mv (.tmp 5)), none⟩,
    ⟨(some 49), (.build [(.d (.int .i64 0)), (.d (.int .i64 0))] [(0, (1, (.tmp 48))), (1, (1, (.cst (.d (.int .i64 1)))))]), none⟩,
    ⟨none, (.store 2 (.tmp 4) (.tmp 49)), none⟩] []) (
 .ret)))))
def R_ref21_When : List LRes := [(.cell 4 true 2)]
def V_ref21_When : List Nat := [0, 1, 20, 4, 6, 24, 45, 5]

end Go.Ago
