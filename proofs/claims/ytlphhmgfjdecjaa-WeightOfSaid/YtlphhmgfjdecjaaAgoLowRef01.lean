/- Lowered functions of a package, callees by their numbers. Printed by a program of this session. Conditions: none. -/
import Derived.Test.YtlphhmgfjdecjaaAgo27
set_option maxRecDepth 100000
set_option linter.unusedVariables false
namespace Go.Ago
def L_ref01_Between (n_ref01_Right : Nat) (n_ref01_Cmp : Nat) (n_ref01_Least : Nat) : LCode :=
 .seq (
  .region false [⟨(some 2), (.box 0 (.tmp 0)), none⟩,
    ⟨(some 3), (.box 1 (.tmp 1)), none⟩,
    ⟨(some 4), (.alloc 2 2 [(.d (.int .i64 0)), (.d (.int .i64 0))]), none⟩,
    ⟨(some 5), (.mv (.cst (.d (.bool false)))), none⟩] []) (
 .seq (
  .seq (
   .region false [⟨(some 7), (.load true 2 (.tmp 2)), none⟩,
     ⟨(some 8), (.load true 2 (.tmp 3)), none⟩,
     ⟨(some 9), (.call 0 false (.cst (.d (.fn n_ref01_Cmp))) [(.tmp 7), (.tmp 8)]), none⟩,
     ⟨(some 10), (.bin .neq (.tmp 9) (.cst (.d (.int .i64 (-1))))), none⟩] []) (
  .cond (.tmp 10) (
   .seq (
    .region false [⟨(some 11), (.build [(.d (.int .i64 0)), (.d (.int .i64 0))] []), none⟩,
      ⟨none, (.store 2 (.tmp 4) (.tmp 11)), none⟩,
      ⟨(some 5), (.mv (.cst (.d (.bool false)))), none⟩] []) (
   .ret)) (
   .skip))) (
 .seq (
  .region true [⟨(some 12), (.load true 2 (.tmp 2)), none⟩,
    ⟨(some 13), (.call 0 false (.cst (.d (.fn n_ref01_Least))) [(.tmp 12)]), none⟩,
    ⟨(some 14), (.field false 0 1 (.tmp 13)), none⟩,
    ⟨(some 15), (.load true 2 (.tmp 3)), none⟩,
    ⟨(some 16), (.call 0 false (.cst (.d (.fn n_ref01_Least))) [(.tmp 15)]), none⟩,
    ⟨(some 17), (.field false 0 1 (.tmp 16)), none⟩,
    ⟨(some 18), (.bin .add (.tmp 14) (.tmp 17)), none⟩,
    ⟨(some 19), (.load true 2 (.tmp 2)), none⟩,
    ⟨(some 20), (.call 0 false (.cst (.d (.fn n_ref01_Least))) [(.tmp 19)]), none⟩,
    ⟨(some 21), (.field false 1 1 (.tmp 20)), none⟩,
    ⟨(some 22), (.load true 2 (.tmp 3)), none⟩,
    ⟨(some 23), (.call 0 false (.cst (.d (.fn n_ref01_Least))) [(.tmp 22)]), none⟩,
    ⟨(some 24), (.field false 1 1 (.tmp 23)), none⟩,
    ⟨(some 25), (.bin .add (.tmp 21) (.tmp 24)), none⟩,
    ⟨(some 26), (.build [(.d (.int .i64 0)), (.d (.int .i64 0))] [(0, (1, (.tmp 18))), (1, (1, (.tmp 25)))]), none⟩,
    ⟨(some 6), (.alloc 0 2 [(.d (.int .i64 0)), (.d (.int .i64 0))]), none⟩,
    ⟨none, (.store 2 (.tmp 6) (.tmp 26)), none⟩] [(1, 3), (4, 7), (1, 7), (8, 10), (4, 10), (1, 10), (11, 15), (10, 15), (8, 15), (7, 15), (4, 15), (3, 15), (1, 15), (0, 15)]) (
 .seq (
  .seq (
   .region false [⟨(some 27), (.load true 2 (.tmp 6)), none⟩, ⟨(some 28), (.call 0 false (.cst (.d (.fn n_ref01_Right))) [(.tmp 27)]), none⟩] []) (
  .cond (.tmp 28) (
   .seq (
    .region false [⟨(some 29), (.load true 2 (.tmp 6)), none⟩,
      ⟨none, (.store 2 (.tmp 4) (.tmp 29)), none⟩,
      ⟨(some 5), (.mv (.cst (.d (.bool true)))), none⟩] []) (
   .ret)) (
   .skip))) (
 .seq (
  .region false [⟨(some 30), (.build [(.d (.int .i64 0)), (.d (.int .i64 0))] []), none⟩,
    ⟨none, (.store 2 (.tmp 4) (.tmp 30)), none⟩,
    ⟨(some 5), (.mv (.cst (.d (.bool false)))), none⟩] []) (
 .ret)))))
def R_ref01_Between : List LRes := [(.cell 4 true 2), (.tmp 5)]
def V_ref01_Between : List Nat := [0, 1, 2, 3, 10, 4, 6, 28, 5]

def L_ref01_After (n_ref01_Right : Nat) : LCode :=
 .seq (
  .region false [⟨(some 1), (.box 0 (.tmp 0)), none⟩,
    ⟨(some 2), (.alloc 1 2 [(.d (.int .i64 0)), (.d (.int .i64 0))]), none⟩,
    ⟨(some 3), (.mv (.cst (.d (.bool false)))), none⟩] []) (
 .seq (
  .seq (
   .region false [⟨(some 5), (.load true 2 (.tmp 1)), none⟩,
     ⟨(some 6), (.call 0 false (.cst (.d (.fn n_ref01_Right))) [(.tmp 5)]), none⟩,
     ⟨(some 7), (.un .not (.tmp 6)), none⟩] []) (
  .cond (.tmp 7) (
   .seq (
    .region false [⟨(some 8), (.build [(.d (.int .i64 0)), (.d (.int .i64 0))] []), none⟩,
      ⟨none, (.store 2 (.tmp 2) (.tmp 8)), none⟩,
      ⟨(some 3), (.mv (.cst (.d (.bool false)))), none⟩] []) (
   .ret)) (
   .skip))) (
 .seq (
  .region false [⟨(some 9), (.fieldAddr 0 (.tmp 1)), none⟩,
    ⟨(some 10), (.load false 1 (.tmp 9)), none⟩,
    ⟨(some 11), (.fieldAddr 1 (.tmp 1)), none⟩,
    ⟨(some 12), (.load false 1 (.tmp 11)), none⟩,
    ⟨(some 13), (.bin .quo (.tmp 10) (.tmp 12)), none⟩,
    ⟨(some 14), (.bin .add (.tmp 13) (.cst (.d (.int .i64 2)))), none⟩,
    ⟨(some 4), (.mv (.tmp 14)), none⟩] []) (
 .seq (
  .block 0 (
   .loop (
    .seq (
     .seq (
      .region false [⟨(some 15), (.mv (.tmp 4)), none⟩,
        ⟨(some 16), (.bin .sub (.tmp 15) (.cst (.d (.int .i64 1)))), none⟩,
        ⟨(some 17), (.fieldAddr 1 (.tmp 1)), none⟩,
        ⟨(some 18), (.load false 1 (.tmp 17)), none⟩,
        ⟨(some 19), (.bin .mul (.tmp 16) (.tmp 18)), none⟩,
        ⟨(some 20), (.fieldAddr 0 (.tmp 1)), none⟩,
        ⟨(some 21), (.load false 1 (.tmp 20)), none⟩,
        ⟨(some 22), (.bin .gtr (.tmp 19) (.tmp 21)), none⟩] []) (
     .cond (.tmp 22) (
      .skip) (
      (.exit 0)))) (
    .block 1 (
     .region false [⟨(some 23), (.mv (.tmp 4)), none⟩,
       ⟨(some 24), (.bin .sub (.tmp 23) (.cst (.d (.int .i64 1)))), none⟩,
       ⟨(some 4), (.mv (.tmp 24)), none⟩] []))))) (
 .seq (
  .seq (
   .region false [⟨(some 25), (.mv (.tmp 4)), none⟩,
     ⟨(some 26), (.bin .gtr (.tmp 25) (.cst (.d (.int .i64 1048576)))), none⟩,
     ⟨(some 27), (.mv (.tmp 26)), none⟩,
     ⟨(some 28), (.mv (.tmp 4)), (some (27, false))⟩,
     ⟨(some 29), (.bin .lss (.tmp 28) (.cst (.d (.int .i64 (-1048576))))), (some (27, false))⟩,
     ⟨(some 30), (.pick (.tmp 27) (.cst (.d (.bool true))) (.tmp 29)), none⟩] []) (
  .cond (.tmp 30) (
   .seq (
    .region false [⟨(some 31), (.build [(.d (.int .i64 0)), (.d (.int .i64 0))] []), none⟩,
      ⟨none, (.store 2 (.tmp 2) (.tmp 31)), none⟩,
      ⟨(some 3), (.mv (.cst (.d (.bool false)))), none⟩] []) (
   .ret)) (
   .skip))) (
 .seq (
  .region false [⟨(some 32), (.mv (.tmp 4)), none⟩,
    ⟨(some 33), (.build [(.d (.int .i64 0)), (.d (.int .i64 0))] [(0, (1, (.tmp 32))), (1, (1, (.cst (.d (.int .i64 1)))))]), none⟩,
    ⟨none, (.store 2 (.tmp 2) (.tmp 33)), none⟩,
    ⟨(some 3), (.mv (.cst (.d (.bool true)))), none⟩] []) (
 .ret))))))
def R_ref01_After : List LRes := [(.cell 2 true 2), (.tmp 3)]
def V_ref01_After : List Nat := [0, 1, 7, 2, 4, 22, 30, 3]

def L_ref01_Right : LCode :=
 .seq (
  .region false [⟨(some 1), (.box 0 (.tmp 0)), none⟩, ⟨(some 2), (.mv (.cst (.d (.bool false)))), none⟩] []) (
 .seq (
  .region false [⟨(some 3), (.fieldAddr 1 (.tmp 1)), none⟩,
    ⟨(some 4), (.load false 1 (.tmp 3)), none⟩,
    ⟨(some 5), (.bin .leq (.cst (.d (.int .i64 1))) (.tmp 4)), none⟩,
    ⟨(some 6), (.mv (.tmp 5)), none⟩,
    ⟨(some 7), (.fieldAddr 1 (.tmp 1)), (some (6, true))⟩,
    ⟨(some 8), (.load false 1 (.tmp 7)), (some (6, true))⟩,
    ⟨(some 9), (.bin .leq (.tmp 8) (.cst (.d (.int .i64 1024)))), (some (6, true))⟩,
    ⟨(some 10), (.pick (.tmp 6) (.tmp 9) (.cst (.d (.bool false)))), none⟩,
    ⟨(some 11), (.mv (.tmp 10)), none⟩,
    ⟨(some 12), (.fieldAddr 0 (.tmp 1)), (some (11, true))⟩,
    ⟨(some 13), (.load false 1 (.tmp 12)), (some (11, true))⟩,
    ⟨(some 14), (.bin .leq (.cst (.d (.int .i64 (-1048576)))) (.tmp 13)), (some (11, true))⟩,
    ⟨(some 15), (.pick (.tmp 11) (.tmp 14) (.cst (.d (.bool false)))), none⟩,
    ⟨(some 16), (.mv (.tmp 15)), none⟩,
    ⟨(some 17), (.fieldAddr 0 (.tmp 1)), (some (16, true))⟩,
    ⟨(some 18), (.load false 1 (.tmp 17)), (some (16, true))⟩,
    ⟨(some 19), (.bin .leq (.tmp 18) (.cst (.d (.int .i64 1048576)))), (some (16, true))⟩,
    ⟨(some 20), (.pick (.tmp 16) (.tmp 19) (.cst (.d (.bool false)))), none⟩,
    ⟨(some 2), (.mv (.tmp 20)), none⟩] []) (
 .ret))
def R_ref01_Right : List LRes := [(.tmp 2)]
def V_ref01_Right : List Nat := [0, 1, 2]

def L_ref01_Cmp (n_ref01_Right : Nat) : LCode :=
 .seq (
  .region false [⟨(some 2), (.box 0 (.tmp 0)), none⟩,
    ⟨(some 3), (.box 1 (.tmp 1)), none⟩,
    ⟨(some 4), (.mv (.cst (.d (.int .i64 0)))), none⟩] []) (
 .seq (
  .seq (
   .region false [⟨(some 6), (.load true 2 (.tmp 2)), none⟩,
     ⟨(some 7), (.call 0 false (.cst (.d (.fn n_ref01_Right))) [(.tmp 6)]), none⟩,
     ⟨(some 8), (.un .not (.tmp 7)), none⟩,
     ⟨(some 9), (.mv (.tmp 8)), none⟩,
     ⟨(some 10), (.load true 2 (.tmp 3)), (some (9, false))⟩,
     ⟨(some 11), (.call 0 false (.cst (.d (.fn n_ref01_Right))) [(.tmp 10)]), (some (9, false))⟩,
     ⟨(some 12), (.un .not (.tmp 11)), (some (9, false))⟩,
     ⟨(some 13), (.pick (.tmp 9) (.cst (.d (.bool true))) (.tmp 12)), none⟩] []) (
  .cond (.tmp 13) (
   .seq (
    .region false [⟨(some 4), (.mv (.cst (.d (.int .i64 0)))), none⟩] []) (
   .ret)) (
   .skip))) (
 .seq (
  .region false [⟨(some 14), (.fieldAddr 0 (.tmp 2)), none⟩,
    ⟨(some 15), (.load false 1 (.tmp 14)), none⟩,
    ⟨(some 16), (.fieldAddr 1 (.tmp 3)), none⟩,
    ⟨(some 17), (.load false 1 (.tmp 16)), none⟩,
    ⟨(some 18), (.bin .mul (.tmp 15) (.tmp 17)), none⟩,
    ⟨(some 19), (.fieldAddr 0 (.tmp 3)), none⟩,
    ⟨(some 20), (.load false 1 (.tmp 19)), none⟩,
    ⟨(some 21), (.fieldAddr 1 (.tmp 2)), none⟩,
    ⟨(some 22), (.load false 1 (.tmp 21)), none⟩,
    ⟨(some 23), (.bin .mul (.tmp 20) (.tmp 22)), none⟩,
    ⟨(some 24), (.bin .sub (.tmp 18) (.tmp 23)), none⟩,
    ⟨(some 5), (.mv (.tmp 24)), none⟩] []) (
 .seq (
  .seq (
   .region false [⟨(some 25), (.mv (.tmp 5)), none⟩, ⟨(some 26), (.bin .lss (.tmp 25) (.cst (.d (.int .i64 0)))), none⟩] []) (
  .cond (.tmp 26) (
   .seq (
    .region false [⟨(some 4), (.mv (.cst (.d (.int .i64 (-1))))), none⟩] []) (
   .ret)) (
   .skip))) (
 .seq (
  .seq (
   .region false [⟨(some 27), (.mv (.tmp 5)), none⟩, ⟨(some 28), (.bin .gtr (.tmp 27) (.cst (.d (.int .i64 0)))), none⟩] []) (
  .cond (.tmp 28) (
   .seq (
    .region false [⟨(some 4), (.mv (.cst (.d (.int .i64 1)))), none⟩] []) (
   .ret)) (
   .skip))) (
 .seq (
  .region false [⟨(some 4), (.mv (.cst (.d (.int .i64 0)))), none⟩] []) (
 .ret))))))
def R_ref01_Cmp : List LRes := [(.tmp 4)]
def V_ref01_Cmp : List Nat := [0, 1, 2, 3, 13, 5, 26, 28, 4]

def L_ref01_Least (n_ref01_Right : Nat) : LCode :=
 .seq (
  .region false [⟨(some 1), (.box 0 (.tmp 0)), none⟩, ⟨(some 2), (.alloc 1 2 [(.d (.int .i64 0)), (.d (.int .i64 0))]), none⟩] []) (
 .seq (
  .seq (
   .region false [⟨(some 4), (.load true 2 (.tmp 1)), none⟩,
     ⟨(some 5), (.call 0 false (.cst (.d (.fn n_ref01_Right))) [(.tmp 4)]), none⟩,
     ⟨(some 6), (.un .not (.tmp 5)), none⟩] []) (
  .cond (.tmp 6) (
   .seq (
    .region false [⟨(some 7), (.load true 2 (.tmp 1)), none⟩, ⟨none, (.store 2 (.tmp 2) (.tmp 7)), none⟩] []) (
   .ret)) (
   .skip))) (
 .seq (
  .seq (
   .region false [⟨(some 3), (.mv (.cst (.d (.int .i64 1)))), none⟩] []) (
  .block 0 (
   .loop (
    .seq (
     .seq (
      .region false [⟨(some 8), (.mv (.tmp 3)), none⟩,
        ⟨(some 9), (.fieldAddr 1 (.tmp 1)), none⟩,
        ⟨(some 10), (.load false 1 (.tmp 9)), none⟩,
        ⟨(some 11), (.bin .lss (.tmp 8) (.tmp 10)), none⟩] []) (
     .cond (.tmp 11) (
      .skip) (
      (.exit 0)))) (
    .seq (
     .block 1 (
      .seq (
       .region false [⟨(some 14), (.fieldAddr 0 (.tmp 1)), none⟩,
         ⟨(some 15), (.load false 1 (.tmp 14)), none⟩,
         ⟨(some 16), (.mv (.tmp 3)), none⟩,
         ⟨(some 17), (.bin .mul (.tmp 15) (.tmp 16)), none⟩,
         ⟨(some 18), (.fieldAddr 1 (.tmp 1)), none⟩,
         ⟨(some 19), (.load false 1 (.tmp 18)), none⟩,
         ⟨(some 20), (.bin .rem (.tmp 17) (.tmp 19)), none⟩,
         ⟨(some 21), (.bin .eql (.tmp 20) (.cst (.d (.int .i64 0)))), none⟩] []) (
      .cond (.tmp 21) (
       .seq (
        .region false [⟨(some 22), (.fieldAddr 0 (.tmp 1)), none⟩,
          ⟨(some 23), (.load false 1 (.tmp 22)), none⟩,
          ⟨(some 24), (.mv (.tmp 3)), none⟩,
          ⟨(some 25), (.bin .mul (.tmp 23) (.tmp 24)), none⟩,
          ⟨(some 26), (.fieldAddr 1 (.tmp 1)), none⟩,
          ⟨(some 27), (.load false 1 (.tmp 26)), none⟩,
          ⟨(some 28), (.bin .quo (.tmp 25) (.tmp 27)), none⟩,
          ⟨(some 29), (.mv (.tmp 3)), none⟩,
          ⟨(some 30), (.build [(.d (.int .i64 0)), (.d (.int .i64 0))] [(0, (1, (.tmp 28))), (1, (1, (.tmp 29)))]), none⟩,
          ⟨none, (.store 2 (.tmp 2) (.tmp 30)), none⟩] []) (
       .ret)) (
       .skip)))) (
    .region false [⟨(some 12), (.mv (.tmp 3)), none⟩,
      ⟨(some 13), (.bin .add (.tmp 12) (.cst (.d (.int .i64 1)))), none⟩,
      ⟨(some 3), (.mv (.tmp 13)), none⟩] [])))))) (
 .seq (
  .region false [⟨(some 31), (.load true 2 (.tmp 1)), none⟩, ⟨none, (.store 2 (.tmp 2) (.tmp 31)), none⟩] []) (
 .ret))))
def R_ref01_Least : List LRes := [(.cell 2 true 2)]
def V_ref01_Least : List Nat := [0, 1, 6, 2, 3, 11, 21]

def L_ref01_Max (n_ref01_Cmp : Nat) : LCode :=
 .seq (
  .region false [⟨(some 2), (.box 0 (.tmp 0)), none⟩,
    ⟨(some 3), (.box 1 (.tmp 1)), none⟩,
    ⟨(some 4), (.alloc 2 2 [(.d (.int .i64 0)), (.d (.int .i64 0))]), none⟩] []) (
 .seq (
  .seq (
   .region false [⟨(some 5), (.load true 2 (.tmp 3)), none⟩,
     ⟨(some 6), (.load true 2 (.tmp 2)), none⟩,
     ⟨(some 7), (.call 0 false (.cst (.d (.fn n_ref01_Cmp))) [(.tmp 5), (.tmp 6)]), none⟩,
     ⟨(some 8), (.bin .eql (.tmp 7) (.cst (.d (.int .i64 1)))), none⟩] []) (
  .cond (.tmp 8) (
   .seq (
    .region false [⟨(some 9), (.load true 2 (.tmp 3)), none⟩, ⟨none, (.store 2 (.tmp 4) (.tmp 9)), none⟩] []) (
   .ret)) (
   .skip))) (
 .seq (
  .region false [⟨(some 10), (.load true 2 (.tmp 2)), none⟩, ⟨none, (.store 2 (.tmp 4) (.tmp 10)), none⟩] []) (
 .ret)))
def R_ref01_Max : List LRes := [(.cell 4 true 2)]
def V_ref01_Max : List Nat := [0, 1, 3, 2, 8, 4]

end Go.Ago
