/- Lowered functions of a package, callees by their numbers. Printed by a program of this session. Conditions: none. -/
import Derived.Test.YtmolmchdnpekaaaDoorAgoP2
set_option maxRecDepth 100000
set_option linter.unusedVariables false
namespace Go.Ago
def L_rat_Right : LCode :=
 .seq (
  .region false [⟨(some 1), (.box 0 (.tmp 0)), none⟩, ⟨(some 2), (.mv (.cst (.d (.bool false)))), none⟩] []) (
 .seq (
  .region false [⟨(some 3), (.fieldAddr 1 (.tmp 1)), none⟩,
    ⟨(some 4), (.load false 1 (.tmp 3)), none⟩,
    ⟨(some 5), (.bin .geq (.tmp 4) (.cst (.d (.int .i64 1)))), none⟩,
    ⟨(some 6), (.mv (.tmp 5)), none⟩,
    ⟨(some 7), (.fieldAddr 1 (.tmp 1)), (some (6, true))⟩,
    ⟨(some 8), (.load false 1 (.tmp 7)), (some (6, true))⟩,
    ⟨(some 9), (.bin .leq (.tmp 8) (.cst (.d (.int .i64 1024)))), (some (6, true))⟩,
    ⟨(some 10), (.pick (.tmp 6) (.tmp 9) (.cst (.d (.bool false)))), none⟩,
    ⟨(some 11), (.mv (.tmp 10)), none⟩,
    ⟨(some 12), (.fieldAddr 0 (.tmp 1)), (some (11, true))⟩,
    ⟨(some 13), (.load false 1 (.tmp 12)), (some (11, true))⟩,
    ⟨(some 14), (.bin .geq (.tmp 13) (.cst (.d (.int .i64 (-1048576))))), (some (11, true))⟩,
    ⟨(some 15), (.pick (.tmp 11) (.tmp 14) (.cst (.d (.bool false)))), none⟩,
    ⟨(some 16), (.mv (.tmp 15)), none⟩,
    ⟨(some 17), (.fieldAddr 0 (.tmp 1)), (some (16, true))⟩,
    ⟨(some 18), (.load false 1 (.tmp 17)), (some (16, true))⟩,
    ⟨(some 19), (.bin .leq (.tmp 18) (.cst (.d (.int .i64 1048576)))), (some (16, true))⟩,
    ⟨(some 20), (.pick (.tmp 16) (.tmp 19) (.cst (.d (.bool false)))), none⟩,
    ⟨(some 2), (.mv (.tmp 20)), none⟩] []) (
 .ret))
def R_rat_Right : List LRes := [(.tmp 2)]
def V_rat_Right : List Nat := [0, 1, 2]

def L_rat_Cmp (n_rat_Right : Nat) : LCode :=
 .seq (
  .region false [⟨(some 2), (.box 0 (.tmp 0)), none⟩,
    ⟨(some 3), (.box 1 (.tmp 1)), none⟩,
    ⟨(some 4), (.mv (.cst (.d (.int .i64 0)))), none⟩] []) (
 .seq (
  .seq (
   .region false [⟨(some 7), (.load true 2 (.tmp 2)), none⟩,
     ⟨(some 8), (.call 0 false (.cst (.d (.fn n_rat_Right))) [(.tmp 7)]), none⟩,
     ⟨(some 9), (.un .not (.tmp 8)), none⟩,
     ⟨(some 10), (.mv (.tmp 9)), none⟩,
     ⟨(some 11), (.load true 2 (.tmp 3)), (some (10, false))⟩,
     ⟨(some 12), (.call 0 false (.cst (.d (.fn n_rat_Right))) [(.tmp 11)]), (some (10, false))⟩,
     ⟨(some 13), (.un .not (.tmp 12)), (some (10, false))⟩,
     ⟨(some 14), (.pick (.tmp 10) (.cst (.d (.bool true))) (.tmp 13)), none⟩] []) (
  .cond (.tmp 14) (
   .seq (
    .region false [⟨(some 4), (.mv (.cst (.d (.int .i64 0)))), none⟩] []) (
   .ret)) (
   .skip))) (
 .seq (
  .region true [⟨(some 15), (.fieldAddr 0 (.tmp 2)), none⟩,
    ⟨(some 16), (.load false 1 (.tmp 15)), none⟩,
    ⟨(some 17), (.fieldAddr 1 (.tmp 3)), none⟩,
    ⟨(some 18), (.load false 1 (.tmp 17)), none⟩,
    ⟨(some 19), (.bin .mul (.tmp 16) (.tmp 18)), none⟩,
    ⟨(some 20), (.fieldAddr 0 (.tmp 3)), none⟩,
    ⟨(some 21), (.load false 1 (.tmp 20)), none⟩,
    ⟨(some 22), (.fieldAddr 1 (.tmp 2)), none⟩,
    ⟨(some 23), (.load false 1 (.tmp 22)), none⟩,
    ⟨(some 24), (.bin .mul (.tmp 21) (.tmp 23)), none⟩,
    ⟨(some 5), (.mv (.tmp 19)), none⟩,
    ⟨(some 6), (.mv (.tmp 24)), none⟩] []) (
 .seq (
  .block 0 (
   .seq (
    .region false [⟨(some 26), (.mv (.tmp 5)), none⟩,
      ⟨(some 27), (.mv (.tmp 6)), none⟩,
      ⟨(some 28), (.bin .lss (.tmp 26) (.tmp 27)), none⟩,
      ⟨(some 25), (.mv (.tmp 28)), none⟩] []) (
   .cond (.tmp 25) (
    .seq (
     .region false [⟨(some 4), (.mv (.cst (.d (.int .i64 (-1))))), none⟩] []) (
    .ret)) (
    .seq (
     .region false [⟨(some 30), (.mv (.tmp 5)), none⟩,
       ⟨(some 31), (.mv (.tmp 6)), none⟩,
       ⟨(some 32), (.bin .gtr (.tmp 30) (.tmp 31)), none⟩,
       ⟨(some 29), (.mv (.tmp 32)), none⟩] []) (
    .cond (.tmp 29) (
     .seq (
      .region false [⟨(some 4), (.mv (.cst (.d (.int .i64 1)))), none⟩] []) (
     .ret)) (
     .skip)))))) (
 .seq (
  .region false [⟨(some 4), (.mv (.cst (.d (.int .i64 0)))), none⟩] []) (
 .ret)))))
def R_rat_Cmp : List LRes := [(.tmp 4)]
def V_rat_Cmp : List Nat := [0, 1, 2, 3, 14, 5, 6, 25, 29, 4]

def L_rat_Least (n_rat_Right : Nat) (n_rat_gcd : Nat) : LCode :=
 .seq (
  .region false [⟨(some 1), (.box 0 (.tmp 0)), none⟩, ⟨(some 2), (.alloc 1 2 [(.d (.int .i64 0)), (.d (.int .i64 0))]), none⟩] []) (
 .seq (
  .seq (
   .region false [⟨(some 4), (.load true 2 (.tmp 1)), none⟩,
     ⟨(some 5), (.call 0 false (.cst (.d (.fn n_rat_Right))) [(.tmp 4)]), none⟩,
     ⟨(some 6), (.un .not (.tmp 5)), none⟩] []) (
  .cond (.tmp 6) (
   .seq (
    .region false [⟨(some 7), (.load true 2 (.tmp 1)), none⟩, ⟨none, (.store 2 (.tmp 2) (.tmp 7)), none⟩] []) (
   .ret)) (
   .skip))) (
 .seq (
  .region false [⟨(some 8), (.fieldAddr 0 (.tmp 1)), none⟩,
    ⟨(some 9), (.load false 1 (.tmp 8)), none⟩,
    ⟨(some 10), (.fieldAddr 0 (.tmp 1)), none⟩,
    ⟨(some 11), (.load false 1 (.tmp 10)), none⟩,
    ⟨(some 12), (.un .neg (.tmp 11)), none⟩,
    ⟨(some 13), (.maxi (.tmp 9) (.tmp 12)), none⟩,
    ⟨(some 14), (.fieldAddr 1 (.tmp 1)), none⟩,
    ⟨(some 15), (.load false 1 (.tmp 14)), none⟩,
    ⟨(some 16), (.call 0 false (.cst (.d (.fn n_rat_gcd))) [(.tmp 13), (.tmp 15)]), none⟩,
    ⟨(some 3), (.mv (.tmp 16)), none⟩] []) (
 .seq (
  .region true [⟨(some 17), (.fieldAddr 0 (.tmp 1)), none⟩,
    ⟨(some 18), (.load false 1 (.tmp 17)), none⟩,
    ⟨(some 19), (.mv (.tmp 3)), none⟩,
    ⟨(some 20), (.bin .quo (.tmp 18) (.tmp 19)), none⟩,
    ⟨(some 21), (.fieldAddr 1 (.tmp 1)), none⟩,
    ⟨(some 22), (.load false 1 (.tmp 21)), none⟩,
    ⟨(some 23), (.mv (.tmp 3)), none⟩,
    ⟨(some 24), (.bin .quo (.tmp 22) (.tmp 23)), none⟩,
    ⟨(some 25), (.build [(.d (.int .i64 0)), (.d (.int .i64 0))] [(0, (1, (.tmp 20))), (1, (1, (.tmp 24)))]), none⟩,
    ⟨none, (.store 2 (.tmp 2) (.tmp 25)), none⟩] []) (
 .ret))))
def R_rat_Least : List LRes := [(.cell 2 true 2)]
def V_rat_Least : List Nat := [0, 1, 6, 2, 3]

def L_rat_Max (n_rat_Cmp : Nat) : LCode :=
 .seq (
  .region false [⟨(some 2), (.box 0 (.tmp 0)), none⟩,
    ⟨(some 3), (.box 1 (.tmp 1)), none⟩,
    ⟨(some 4), (.alloc 2 2 [(.d (.int .i64 0)), (.d (.int .i64 0))]), none⟩] []) (
 .seq (
  .seq (
   .region false [⟨(some 5), (.load true 2 (.tmp 2)), none⟩,
     ⟨(some 6), (.load true 2 (.tmp 3)), none⟩,
     ⟨(some 7), (.call 0 false (.cst (.d (.fn n_rat_Cmp))) [(.tmp 5), (.tmp 6)]), none⟩,
     ⟨(some 8), (.bin .lss (.tmp 7) (.cst (.d (.int .i64 0)))), none⟩] []) (
  .cond (.tmp 8) (
   .seq (
    .region false [⟨(some 9), (.load true 2 (.tmp 3)), none⟩, ⟨none, (.store 2 (.tmp 4) (.tmp 9)), none⟩] []) (
   .ret)) (
   .skip))) (
 .seq (
  .region false [⟨(some 10), (.load true 2 (.tmp 2)), none⟩, ⟨none, (.store 2 (.tmp 4) (.tmp 10)), none⟩] []) (
 .ret)))
def R_rat_Max : List LRes := [(.cell 4 true 2)]
def V_rat_Max : List Nat := [0, 1, 2, 3, 8, 4]

def L_rat_Between (n_rat_Right : Nat) (n_rat_Cmp : Nat) (n_rat_Least : Nat) : LCode :=
 .seq (
  .region false [⟨(some 2), (.box 0 (.tmp 0)), none⟩,
    ⟨(some 3), (.box 1 (.tmp 1)), none⟩,
    ⟨(some 4), (.alloc 2 2 [(.d (.int .i64 0)), (.d (.int .i64 0))]), none⟩,
    ⟨(some 5), (.mv (.cst (.d (.bool false)))), none⟩] []) (
 .seq (
  .seq (
   .region false [⟨(some 9), (.load true 2 (.tmp 2)), none⟩,
     ⟨(some 10), (.load true 2 (.tmp 3)), none⟩,
     ⟨(some 11), (.call 0 false (.cst (.d (.fn n_rat_Cmp))) [(.tmp 9), (.tmp 10)]), none⟩,
     ⟨(some 12), (.bin .geq (.tmp 11) (.cst (.d (.int .i64 0)))), none⟩] []) (
  .cond (.tmp 12) (
   .seq (
    .region false [⟨(some 13), (.build [(.d (.int .i64 0)), (.d (.int .i64 0))] []), none⟩,
      ⟨none, (.store 2 (.tmp 4) (.tmp 13)), none⟩,
      ⟨(some 5), (.mv (.cst (.d (.bool false)))), none⟩] []) (
   .ret)) (
   .skip))) (
 .seq (
  .region true [⟨(some 14), (.load true 2 (.tmp 2)), none⟩,
    ⟨(some 15), (.call 0 false (.cst (.d (.fn n_rat_Least))) [(.tmp 14)]), none⟩,
    ⟨(some 16), (.load true 2 (.tmp 3)), none⟩,
    ⟨(some 17), (.call 0 false (.cst (.d (.fn n_rat_Least))) [(.tmp 16)]), none⟩,
    ⟨(some 6), (.alloc 0 2 [(.d (.int .i64 0)), (.d (.int .i64 0))]), none⟩,
    ⟨(some 7), (.alloc 1 2 [(.d (.int .i64 0)), (.d (.int .i64 0))]), none⟩,
    ⟨none, (.store 2 (.tmp 6) (.tmp 15)), none⟩,
    ⟨none, (.store 2 (.tmp 7) (.tmp 17)), none⟩] [(1, 2), (3, 4), (2, 4), (1, 4), (0, 4), (4, 5), (3, 5), (2, 5), (1, 5), (0, 5)]) (
 .seq (
  .region false [⟨(some 18), (.fieldAddr 0 (.tmp 6)), none⟩,
    ⟨(some 19), (.load false 1 (.tmp 18)), none⟩,
    ⟨(some 20), (.fieldAddr 0 (.tmp 7)), none⟩,
    ⟨(some 21), (.load false 1 (.tmp 20)), none⟩,
    ⟨(some 22), (.bin .add (.tmp 19) (.tmp 21)), none⟩,
    ⟨(some 23), (.fieldAddr 1 (.tmp 6)), none⟩,
    ⟨(some 24), (.load false 1 (.tmp 23)), none⟩,
    ⟨(some 25), (.fieldAddr 1 (.tmp 7)), none⟩,
    ⟨(some 26), (.load false 1 (.tmp 25)), none⟩,
    ⟨(some 27), (.bin .add (.tmp 24) (.tmp 26)), none⟩,
    ⟨(some 28), (.build [(.d (.int .i64 0)), (.d (.int .i64 0))] [(0, (1, (.tmp 22))), (1, (1, (.tmp 27)))]), none⟩,
    ⟨(some 8), (.alloc 0 2 [(.d (.int .i64 0)), (.d (.int .i64 0))]), none⟩,
    ⟨none, (.store 2 (.tmp 8) (.tmp 28)), none⟩] []) (
 .seq (
  .seq (
   .region false [⟨(some 29), (.load true 2 (.tmp 8)), none⟩,
     ⟨(some 30), (.call 0 false (.cst (.d (.fn n_rat_Right))) [(.tmp 29)]), none⟩,
     ⟨(some 31), (.un .not (.tmp 30)), none⟩] []) (
  .cond (.tmp 31) (
   .seq (
    .region false [⟨(some 32), (.build [(.d (.int .i64 0)), (.d (.int .i64 0))] []), none⟩,
      ⟨none, (.store 2 (.tmp 4) (.tmp 32)), none⟩,
      ⟨(some 5), (.mv (.cst (.d (.bool false)))), none⟩] []) (
   .ret)) (
   .skip))) (
 .seq (
  .region false [⟨(some 33), (.load true 2 (.tmp 8)), none⟩,
    ⟨none, (.store 2 (.tmp 4) (.tmp 33)), none⟩,
    ⟨(some 5), (.mv (.cst (.d (.bool true)))), none⟩] []) (
 .ret))))))
def R_rat_Between : List LRes := [(.cell 4 true 2), (.tmp 5)]
def V_rat_Between : List Nat := [0, 1, 2, 3, 12, 4, 6, 7, 8, 31, 5]

def L_rat_After (n_rat_Right : Nat) : LCode :=
 .seq (
  .region false [⟨(some 1), (.box 0 (.tmp 0)), none⟩,
    ⟨(some 2), (.alloc 1 2 [(.d (.int .i64 0)), (.d (.int .i64 0))]), none⟩,
    ⟨(some 3), (.mv (.cst (.d (.bool false)))), none⟩] []) (
 .seq (
  .seq (
   .region false [⟨(some 6), (.load true 2 (.tmp 1)), none⟩,
     ⟨(some 7), (.call 0 false (.cst (.d (.fn n_rat_Right))) [(.tmp 6)]), none⟩,
     ⟨(some 8), (.un .not (.tmp 7)), none⟩] []) (
  .cond (.tmp 8) (
   .seq (
    .region false [⟨(some 9), (.build [(.d (.int .i64 0)), (.d (.int .i64 0))] []), none⟩,
      ⟨none, (.store 2 (.tmp 2) (.tmp 9)), none⟩,
      ⟨(some 3), (.mv (.cst (.d (.bool false)))), none⟩] []) (
   .ret)) (
   .skip))) (
 .seq (
  .region false [⟨(some 10), (.fieldAddr 0 (.tmp 1)), none⟩,
    ⟨(some 11), (.load false 1 (.tmp 10)), none⟩,
    ⟨(some 12), (.fieldAddr 1 (.tmp 1)), none⟩,
    ⟨(some 13), (.load false 1 (.tmp 12)), none⟩,
    ⟨(some 14), (.bin .quo (.tmp 11) (.tmp 13)), none⟩,
    ⟨(some 4), (.mv (.tmp 14)), none⟩] []) (
 .seq (
  .seq (
   .region false [⟨(some 15), (.fieldAddr 0 (.tmp 1)), none⟩,
     ⟨(some 16), (.load false 1 (.tmp 15)), none⟩,
     ⟨(some 17), (.bin .lss (.tmp 16) (.cst (.d (.int .i64 0)))), none⟩,
     ⟨(some 18), (.mv (.tmp 17)), none⟩,
     ⟨(some 19), (.fieldAddr 0 (.tmp 1)), (some (18, true))⟩,
     ⟨(some 20), (.load false 1 (.tmp 19)), (some (18, true))⟩,
     ⟨(some 21), (.fieldAddr 1 (.tmp 1)), (some (18, true))⟩,
     ⟨(some 22), (.load false 1 (.tmp 21)), (some (18, true))⟩,
     ⟨(some 23), (.bin .rem (.tmp 20) (.tmp 22)), (some (18, true))⟩,
     ⟨(some 24), (.bin .neq (.tmp 23) (.cst (.d (.int .i64 0)))), (some (18, true))⟩,
     ⟨(some 25), (.pick (.tmp 18) (.tmp 24) (.cst (.d (.bool false)))), none⟩] []) (
  .cond (.tmp 25) (
   .region false [⟨(some 26), (.mv (.tmp 4)), none⟩,
     ⟨(some 27), (.bin .sub (.tmp 26) (.cst (.d (.int .i64 1)))), none⟩,
     ⟨(some 4), (.mv (.tmp 27)), none⟩] []) (
   .skip))) (
 .seq (
  .region false [⟨(some 28), (.mv (.tmp 4)), none⟩,
    ⟨(some 29), (.bin .add (.tmp 28) (.cst (.d (.int .i64 1)))), none⟩,
    ⟨(some 30), (.build [(.d (.int .i64 0)), (.d (.int .i64 0))] [(0, (1, (.tmp 29))), (1, (1, (.cst (.d (.int .i64 1)))))]), none⟩,
    ⟨(some 5), (.alloc 0 2 [(.d (.int .i64 0)), (.d (.int .i64 0))]), none⟩,
    ⟨none, (.store 2 (.tmp 5) (.tmp 30)), none⟩] []) (
 .seq (
  .seq (
   .region false [⟨(some 31), (.load true 2 (.tmp 5)), none⟩,
     ⟨(some 32), (.call 0 false (.cst (.d (.fn n_rat_Right))) [(.tmp 31)]), none⟩,
     ⟨(some 33), (.un .not (.tmp 32)), none⟩] []) (
  .cond (.tmp 33) (
   .seq (
    .region false [⟨(some 34), (.build [(.d (.int .i64 0)), (.d (.int .i64 0))] []), none⟩,
      ⟨none, (.store 2 (.tmp 2) (.tmp 34)), none⟩,
      ⟨(some 3), (.mv (.cst (.d (.bool false)))), none⟩] []) (
   .ret)) (
   .skip))) (
 .seq (
  .region false [⟨(some 35), (.load true 2 (.tmp 5)), none⟩,
    ⟨none, (.store 2 (.tmp 2) (.tmp 35)), none⟩,
    ⟨(some 3), (.mv (.cst (.d (.bool true)))), none⟩] []) (
 .ret)))))))
def R_rat_After : List LRes := [(.cell 2 true 2), (.tmp 3)]
def V_rat_After : List Nat := [0, 1, 8, 2, 25, 4, 5, 33, 3]

def L_rat_gcd : LCode :=
 .seq (
  .region false [⟨(some 4), (.mv (.cst (.d (.int .i64 0)))), none⟩] []) (
 .seq (
  .block 0 (
   .loop (
    .seq (
     .seq (
      .region false [⟨(some 5), (.mv (.tmp 1)), none⟩, ⟨(some 6), (.bin .neq (.tmp 5) (.cst (.d (.int .i64 0)))), none⟩] []) (
     .cond (.tmp 6) (
      .skip) (
      (.exit 0)))) (
    .block 1 (
     .region true [⟨(some 7), (.mv (.tmp 1)), none⟩,
       ⟨(some 8), (.mv (.tmp 0)), none⟩,
       ⟨(some 9), (.mv (.tmp 1)), none⟩,
       ⟨(some 10), (.bin .rem (.tmp 8) (.tmp 9)), none⟩,
       ⟨(some 0), (.mv (.tmp 7)), none⟩,
       ⟨(some 1), (.mv (.tmp 10)), none⟩] []))))) (
 .seq (
  .region false [⟨(some 11), (.mv (.tmp 0)), none⟩, ⟨(some 4), (.mv (.tmp 11)), none⟩] []) (
 .ret)))
def R_rat_gcd : List LRes := [(.tmp 4)]
def V_rat_gcd : List Nat := [1, 6, 0, 4]

end Go.Ago

/- Lowered functions of a package, callees by their numbers. Printed by a program of this session. Conditions: none. -/
set_option maxRecDepth 100000
set_option linter.unusedVariables false
namespace Go.Ago
def L_act_Right : LCode :=
 .seq (
  .region false [⟨(some 2), (.box 0 (.tmp 0)), none⟩, ⟨(some 4), (.mv (.cst (.d (.bool false)))), none⟩] []) (
 .seq (
  .region false [⟨(some 5), (.mv (.cst (.d (.bool false)))), none⟩,
    ⟨(some 6), (.mv (.cst (.d (.bool false)))), none⟩,
    ⟨(some 7), (.mv (.cst (.d (.bool false)))), none⟩] []) (
 .seq (
  .seq (
   .region false [⟨(some 8), (.fieldAddr 0 (.tmp 2)), none⟩, ⟨(some 9), (.load false 1 (.tmp 8)), none⟩] []) (
  .block 0 (
   .seq (
    .region false [⟨(some 11), (.bin .eql (.tmp 9) (.cst (.d (.int .i64 6)))), none⟩, ⟨(some 10), (.mv (.tmp 11)), none⟩] []) (
   .cond (.tmp 10) (
    .seq (
     .region false [⟨(some 12), (.fieldAddr 1 (.tmp 2)), none⟩,
       ⟨(some 13), (.load false 1 (.tmp 12)), none⟩,
       ⟨(some 14), (.bin .eql (.tmp 13) (.cst (.d (.int .i64 0)))), none⟩,
       ⟨(some 15), (.mv (.tmp 14)), none⟩,
       ⟨(some 16), (.fieldAddr 2 (.tmp 2)), (some (15, true))⟩,
       ⟨(some 17), (.load false 1 (.tmp 16)), (some (15, true))⟩,
       ⟨(some 18), (.bin .eql (.tmp 17) (.cst (.d (.int .i64 0)))), (some (15, true))⟩,
       ⟨(some 19), (.pick (.tmp 15) (.tmp 18) (.cst (.d (.bool false)))), none⟩,
       ⟨(some 4), (.mv (.tmp 19)), none⟩] []) (
    .ret)) (
    .seq (
     .region false [⟨(some 21), (.bin .eql (.tmp 9) (.cst (.d (.int .i64 1)))), none⟩, ⟨(some 20), (.mv (.tmp 21)), none⟩] []) (
    .cond (.tmp 20) (
     .region false [⟨(some 5), (.mv (.cst (.d (.bool true)))), none⟩] []) (
     .seq (
      .region false [⟨(some 23), (.bin .eql (.tmp 9) (.cst (.d (.int .i64 2)))), none⟩, ⟨(some 22), (.mv (.tmp 23)), none⟩] []) (
     .cond (.tmp 22) (
      .region false [⟨(some 6), (.mv (.cst (.d (.bool true)))), none⟩] []) (
      .seq (
       .region false [⟨(some 25), (.bin .eql (.tmp 9) (.cst (.d (.int .i64 3)))), none⟩, ⟨(some 24), (.mv (.tmp 25)), none⟩] []) (
      .cond (.tmp 24) (
       .region false [⟨(some 5), (.mv (.cst (.d (.bool true)))), none⟩, ⟨(some 7), (.mv (.cst (.d (.bool true)))), none⟩] []) (
       .seq (
        .region false [⟨(some 27), (.bin .eql (.tmp 9) (.cst (.d (.int .i64 4)))), none⟩, ⟨(some 26), (.mv (.tmp 27)), none⟩] []) (
       .cond (.tmp 26) (
        .region false [⟨(some 6), (.mv (.cst (.d (.bool true)))), none⟩, ⟨(some 7), (.mv (.cst (.d (.bool true)))), none⟩] []) (
        .seq (
         .region false [⟨(some 29), (.bin .eql (.tmp 9) (.cst (.d (.int .i64 5)))), none⟩, ⟨(some 28), (.mv (.tmp 29)), none⟩] []) (
        .cond (.tmp 28) (
         .region false [⟨(some 5), (.mv (.cst (.d (.bool true)))), none⟩,
           ⟨(some 6), (.mv (.cst (.d (.bool true)))), none⟩,
           ⟨(some 7), (.mv (.cst (.d (.bool true)))), none⟩] []) (
         .seq (
          .region false [⟨(some 4), (.mv (.cst (.d (.bool false)))), none⟩] []) (
         .ret)))))))))))))))) (
 .seq (
  .region false [⟨(some 30), (.fieldAddr 1 (.tmp 2)), none⟩,
    ⟨(some 31), (.load false 1 (.tmp 30)), none⟩,
    ⟨(some 32), (.bin .geq (.tmp 31) (.cst (.d (.int .i64 0)))), none⟩,
    ⟨(some 33), (.mv (.tmp 32)), none⟩,
    ⟨(some 34), (.fieldAddr 1 (.tmp 2)), (some (33, true))⟩,
    ⟨(some 35), (.load false 1 (.tmp 34)), (some (33, true))⟩,
    ⟨(some 36), (.mv (.tmp 1)), (some (33, true))⟩,
    ⟨(some 37), (.len (.tmp 36)), (some (33, true))⟩,
    ⟨(some 38), (.bin .lss (.tmp 35) (.tmp 37)), (some (33, true))⟩,
    ⟨(some 39), (.pick (.tmp 33) (.tmp 38) (.cst (.d (.bool false)))), none⟩,
    ⟨(some 40), (.mv (.tmp 39)), none⟩,
    ⟨(some 41), (.mv (.tmp 1)), (some (40, true))⟩,
    ⟨(some 42), (.fieldAddr 1 (.tmp 2)), (some (40, true))⟩,
    ⟨(some 43), (.load false 1 (.tmp 42)), (some (40, true))⟩,
    ⟨(some 44), (.idxAddr 2 (.tmp 41) (.tmp 43)), (some (40, true))⟩,
    ⟨(some 45), (.fieldAddr 0 (.tmp 44)), (some (40, true))⟩,
    ⟨(some 46), (.load false 1 (.tmp 45)), (some (40, true))⟩,
    ⟨(some 47), (.mv (.tmp 7)), (some (40, true))⟩,
    ⟨(some 48), (.eq false .bool (.tmp 46) (.tmp 47)), (some (40, true))⟩,
    ⟨(some 49), (.pick (.tmp 40) (.tmp 48) (.cst (.d (.bool false)))), none⟩,
    ⟨(some 50), (.mv (.tmp 49)), none⟩,
    ⟨(some 51), (.mv (.tmp 5)), (some (50, true))⟩,
    ⟨(some 52), (.mv (.tmp 51)), (some (50, true))⟩,
    ⟨(some 53), (.fieldAddr 2 (.tmp 2)), (some (52, false))⟩,
    ⟨(some 54), (.load false 1 (.tmp 53)), (some (52, false))⟩,
    ⟨(some 55), (.bin .eql (.tmp 54) (.cst (.d (.int .i64 0)))), (some (52, false))⟩,
    ⟨(some 56), (.pick (.tmp 52) (.cst (.d (.bool true))) (.tmp 55)), (some (50, true))⟩,
    ⟨(some 57), (.pick (.tmp 50) (.tmp 56) (.cst (.d (.bool false)))), none⟩,
    ⟨(some 58), (.mv (.tmp 57)), none⟩,
    ⟨(some 59), (.mv (.tmp 6)), (some (58, true))⟩,
    ⟨(some 60), (.mv (.tmp 59)), (some (58, true))⟩,
    ⟨(some 61), (.fieldAddr 3 (.tmp 2)), (some (60, false))⟩,
    ⟨(some 62), (.load false 1 (.tmp 61)), (some (60, false))⟩,
    ⟨(some 63), (.bin .eql (.tmp 62) (.cst (.d (.int .i64 0)))), (some (60, false))⟩,
    ⟨(some 64), (.pick (.tmp 60) (.cst (.d (.bool true))) (.tmp 63)), (some (58, true))⟩,
    ⟨(some 65), (.pick (.tmp 58) (.tmp 64) (.cst (.d (.bool false)))), none⟩,
    ⟨(some 4), (.mv (.tmp 65)), none⟩] []) (
 .ret))))
def R_act_Right : List LRes := [(.tmp 4)]
def V_act_Right : List Nat := [0, 2, 9, 10, 20, 22, 24, 26, 28, 1, 7, 5, 6, 4]

end Go.Ago

/- Lowered functions of a package, callees by their numbers. Printed by a program of this session. Conditions: none. -/
set_option maxRecDepth 100000
set_option linter.unusedVariables false
namespace Go.Ago
def L_ref08_SameNums : LCode :=
 .seq (
  .region false [⟨(some 4), (.mv (.cst (.d (.bool false)))), none⟩] []) (
 .seq (
  .seq (
   .region false [⟨(some 6), (.mv (.tmp 0)), none⟩,
     ⟨(some 7), (.len (.tmp 6)), none⟩,
     ⟨(some 8), (.mv (.tmp 1)), none⟩,
     ⟨(some 9), (.len (.tmp 8)), none⟩,
     ⟨(some 10), (.bin .neq (.tmp 7) (.tmp 9)), none⟩] []) (
  .cond (.tmp 10) (
   .seq (
    .region false [⟨(some 4), (.mv (.cst (.d (.bool false)))), none⟩] []) (
   .ret)) (
   .skip))) (
 .seq (
  .seq (
   .region false [⟨(some 5), (.mv (.cst (.d (.int .i64 0)))), none⟩] []) (
  .block 0 (
   .loop (
    .seq (
     .seq (
      .region false [⟨(some 11), (.mv (.tmp 5)), none⟩,
        ⟨(some 12), (.mv (.tmp 0)), none⟩,
        ⟨(some 13), (.len (.tmp 12)), none⟩,
        ⟨(some 14), (.bin .lss (.tmp 11) (.tmp 13)), none⟩] []) (
     .cond (.tmp 14) (
      .skip) (
      (.exit 0)))) (
    .seq (
     .block 1 (
      .seq (
       .region true [⟨(some 17), (.mv (.tmp 0)), none⟩,
         ⟨(some 18), (.mv (.tmp 5)), none⟩,
         ⟨(some 19), (.idxAddr 1 (.tmp 17) (.tmp 18)), none⟩,
         ⟨(some 20), (.load false 1 (.tmp 19)), none⟩,
         ⟨(some 21), (.mv (.tmp 1)), none⟩,
         ⟨(some 22), (.mv (.tmp 5)), none⟩,
         ⟨(some 23), (.idxAddr 1 (.tmp 21) (.tmp 22)), none⟩,
         ⟨(some 24), (.load false 1 (.tmp 23)), none⟩,
         ⟨(some 25), (.bin .neq (.tmp 20) (.tmp 24)), none⟩] []) (
      .cond (.tmp 25) (
       .seq (
        .region false [⟨(some 4), (.mv (.cst (.d (.bool false)))), none⟩] []) (
       .ret)) (
       .skip)))) (
    .region false [⟨(some 15), (.mv (.tmp 5)), none⟩,
      ⟨(some 16), (.bin .add (.tmp 15) (.cst (.d (.int .i64 1)))), none⟩,
      ⟨(some 5), (.mv (.tmp 16)), none⟩] [])))))) (
 .seq (
  .region false [⟨(some 4), (.mv (.cst (.d (.bool true)))), none⟩] []) (
 .ret))))
def R_ref08_SameNums : List LRes := [(.tmp 4)]
def V_ref08_SameNums : List Nat := [0, 1, 10, 5, 14, 25, 4]

def L_ref08_Right : LCode :=
 .seq (
  .region false [⟨(some 2), (.box 0 (.tmp 0)), none⟩, ⟨(some 4), (.mv (.cst (.d (.bool false)))), none⟩] []) (
 .seq (
  .seq (
   .region false [⟨(some 6), (.fieldAddr 0 (.tmp 2)), none⟩,
     ⟨(some 7), (.load false 1 (.tmp 6)), none⟩,
     ⟨(some 8), (.bin .eql (.tmp 7) (.cst (.d (.int .i64 6)))), none⟩] []) (
  .cond (.tmp 8) (
   .seq (
    .region false [⟨(some 9), (.load true 4 (.tmp 2)), none⟩,
      ⟨(some 10), (.fieldAddr 3 (.tmp 2)), none⟩,
      ⟨(some 11), (.load false 1 (.tmp 10)), none⟩,
      ⟨(some 12), (.build [(.d (.int .i64 0)), (.d (.int .i64 0)), (.d (.int .i64 0)), (.d (.int .i64 0))] [(0, (1, (.cst (.d (.int .i64 6))))), (3, (1, (.tmp 11)))]), none⟩,
      ⟨(some 13), (.eq false (.flat [true, true, true, true]) (.tmp 9) (.tmp 12)), none⟩,
      ⟨(some 4), (.mv (.tmp 13)), none⟩] []) (
   .ret)) (
   .skip))) (
 .seq (
  .seq (
   .region false [⟨(some 14), (.fieldAddr 1 (.tmp 2)), none⟩,
     ⟨(some 15), (.load false 1 (.tmp 14)), none⟩,
     ⟨(some 16), (.bin .lss (.tmp 15) (.cst (.d (.int .i64 0)))), none⟩,
     ⟨(some 17), (.mv (.tmp 16)), none⟩,
     ⟨(some 18), (.fieldAddr 1 (.tmp 2)), (some (17, false))⟩,
     ⟨(some 19), (.load false 1 (.tmp 18)), (some (17, false))⟩,
     ⟨(some 20), (.mv (.tmp 1)), (some (17, false))⟩,
     ⟨(some 21), (.len (.tmp 20)), (some (17, false))⟩,
     ⟨(some 22), (.bin .geq (.tmp 19) (.tmp 21)), (some (17, false))⟩,
     ⟨(some 23), (.pick (.tmp 17) (.cst (.d (.bool true))) (.tmp 22)), none⟩] []) (
  .cond (.tmp 23) (
   .seq (
    .region false [⟨(some 4), (.mv (.cst (.d (.bool false)))), none⟩] []) (
   .ret)) (
   .skip))) (
 .seq (
  .region false [⟨(some 24), (.mv (.tmp 1)), none⟩,
    ⟨(some 25), (.fieldAddr 1 (.tmp 2)), none⟩,
    ⟨(some 26), (.load false 1 (.tmp 25)), none⟩,
    ⟨(some 27), (.idxAddr 2 (.tmp 24) (.tmp 26)), none⟩,
    ⟨(some 28), (.fieldAddr 0 (.tmp 27)), none⟩,
    ⟨(some 29), (.load false 1 (.tmp 28)), none⟩,
    ⟨(some 5), (.mv (.tmp 29)), none⟩] []) (
 .seq (
  .seq (
   .region false [⟨(some 30), (.fieldAddr 0 (.tmp 2)), none⟩, ⟨(some 31), (.load false 1 (.tmp 30)), none⟩] []) (
  .block 0 (
   .seq (
    .region false [⟨(some 33), (.bin .eql (.tmp 31) (.cst (.d (.int .i64 1)))), none⟩, ⟨(some 32), (.mv (.tmp 33)), none⟩] []) (
   .cond (.tmp 32) (
    .seq (
     .region false [⟨(some 34), (.mv (.tmp 5)), none⟩,
       ⟨(some 35), (.un .not (.tmp 34)), none⟩,
       ⟨(some 36), (.mv (.tmp 35)), none⟩,
       ⟨(some 37), (.fieldAddr 3 (.tmp 2)), (some (36, true))⟩,
       ⟨(some 38), (.load false 1 (.tmp 37)), (some (36, true))⟩,
       ⟨(some 39), (.bin .eql (.tmp 38) (.cst (.d (.int .i64 0)))), (some (36, true))⟩,
       ⟨(some 40), (.pick (.tmp 36) (.tmp 39) (.cst (.d (.bool false)))), none⟩,
       ⟨(some 4), (.mv (.tmp 40)), none⟩] []) (
    .ret)) (
    .seq (
     .region false [⟨(some 42), (.bin .eql (.tmp 31) (.cst (.d (.int .i64 2)))), none⟩, ⟨(some 41), (.mv (.tmp 42)), none⟩] []) (
    .cond (.tmp 41) (
     .seq (
      .region false [⟨(some 43), (.mv (.tmp 5)), none⟩,
        ⟨(some 44), (.un .not (.tmp 43)), none⟩,
        ⟨(some 45), (.mv (.tmp 44)), none⟩,
        ⟨(some 46), (.fieldAddr 2 (.tmp 2)), (some (45, true))⟩,
        ⟨(some 47), (.load false 1 (.tmp 46)), (some (45, true))⟩,
        ⟨(some 48), (.bin .eql (.tmp 47) (.cst (.d (.int .i64 0)))), (some (45, true))⟩,
        ⟨(some 49), (.pick (.tmp 45) (.tmp 48) (.cst (.d (.bool false)))), none⟩,
        ⟨(some 4), (.mv (.tmp 49)), none⟩] []) (
     .ret)) (
     .seq (
      .region false [⟨(some 51), (.bin .eql (.tmp 31) (.cst (.d (.int .i64 3)))), none⟩, ⟨(some 50), (.mv (.tmp 51)), none⟩] []) (
     .cond (.tmp 50) (
      .seq (
       .region false [⟨(some 52), (.mv (.tmp 5)), none⟩,
         ⟨(some 53), (.mv (.tmp 52)), none⟩,
         ⟨(some 54), (.fieldAddr 3 (.tmp 2)), (some (53, true))⟩,
         ⟨(some 55), (.load false 1 (.tmp 54)), (some (53, true))⟩,
         ⟨(some 56), (.bin .eql (.tmp 55) (.cst (.d (.int .i64 0)))), (some (53, true))⟩,
         ⟨(some 57), (.pick (.tmp 53) (.tmp 56) (.cst (.d (.bool false)))), none⟩,
         ⟨(some 4), (.mv (.tmp 57)), none⟩] []) (
      .ret)) (
      .seq (
       .region false [⟨(some 59), (.bin .eql (.tmp 31) (.cst (.d (.int .i64 4)))), none⟩, ⟨(some 58), (.mv (.tmp 59)), none⟩] []) (
      .cond (.tmp 58) (
       .seq (
        .region false [⟨(some 60), (.mv (.tmp 5)), none⟩,
          ⟨(some 61), (.mv (.tmp 60)), none⟩,
          ⟨(some 62), (.fieldAddr 2 (.tmp 2)), (some (61, true))⟩,
          ⟨(some 63), (.load false 1 (.tmp 62)), (some (61, true))⟩,
          ⟨(some 64), (.bin .eql (.tmp 63) (.cst (.d (.int .i64 0)))), (some (61, true))⟩,
          ⟨(some 65), (.pick (.tmp 61) (.tmp 64) (.cst (.d (.bool false)))), none⟩,
          ⟨(some 4), (.mv (.tmp 65)), none⟩] []) (
       .ret)) (
       .skip))))))))))) (
 .seq (
  .region false [⟨(some 66), (.fieldAddr 0 (.tmp 2)), none⟩,
    ⟨(some 67), (.load false 1 (.tmp 66)), none⟩,
    ⟨(some 68), (.bin .eql (.tmp 67) (.cst (.d (.int .i64 5)))), none⟩,
    ⟨(some 69), (.mv (.tmp 68)), none⟩,
    ⟨(some 70), (.mv (.tmp 5)), (some (69, true))⟩,
    ⟨(some 71), (.pick (.tmp 69) (.tmp 70) (.cst (.d (.bool false)))), none⟩,
    ⟨(some 4), (.mv (.tmp 71)), none⟩] []) (
 .ret))))))
def R_ref08_Right : List LRes := [(.tmp 4)]
def V_ref08_Right : List Nat := [0, 2, 8, 1, 23, 31, 32, 5, 41, 50, 58, 4]

def L_ref08_Reads : LCode :=
 .seq (
  .region false [⟨(some 1), (.box 0 (.tmp 0)), none⟩, ⟨(some 2), (.mv (.cst (.d (.bool false)))), none⟩] []) (
 .seq (
  .region false [⟨(some 3), (.fieldAddr 0 (.tmp 1)), none⟩,
    ⟨(some 4), (.load false 1 (.tmp 3)), none⟩,
    ⟨(some 5), (.bin .eql (.tmp 4) (.cst (.d (.int .i64 1)))), none⟩,
    ⟨(some 6), (.mv (.tmp 5)), none⟩,
    ⟨(some 7), (.fieldAddr 0 (.tmp 1)), (some (6, false))⟩,
    ⟨(some 8), (.load false 1 (.tmp 7)), (some (6, false))⟩,
    ⟨(some 9), (.bin .eql (.tmp 8) (.cst (.d (.int .i64 3)))), (some (6, false))⟩,
    ⟨(some 10), (.pick (.tmp 6) (.cst (.d (.bool true))) (.tmp 9)), none⟩,
    ⟨(some 11), (.mv (.tmp 10)), none⟩,
    ⟨(some 12), (.fieldAddr 0 (.tmp 1)), (some (11, false))⟩,
    ⟨(some 13), (.load false 1 (.tmp 12)), (some (11, false))⟩,
    ⟨(some 14), (.bin .eql (.tmp 13) (.cst (.d (.int .i64 5)))), (some (11, false))⟩,
    ⟨(some 15), (.pick (.tmp 11) (.cst (.d (.bool true))) (.tmp 14)), none⟩,
    ⟨(some 2), (.mv (.tmp 15)), none⟩] []) (
 .ret))
def R_ref08_Reads : List LRes := [(.tmp 2)]
def V_ref08_Reads : List Nat := [0, 1, 2]

def L_ref08_Writes : LCode :=
 .seq (
  .region false [⟨(some 1), (.box 0 (.tmp 0)), none⟩, ⟨(some 2), (.mv (.cst (.d (.bool false)))), none⟩] []) (
 .seq (
  .region false [⟨(some 3), (.fieldAddr 0 (.tmp 1)), none⟩,
    ⟨(some 4), (.load false 1 (.tmp 3)), none⟩,
    ⟨(some 5), (.bin .eql (.tmp 4) (.cst (.d (.int .i64 2)))), none⟩,
    ⟨(some 6), (.mv (.tmp 5)), none⟩,
    ⟨(some 7), (.fieldAddr 0 (.tmp 1)), (some (6, false))⟩,
    ⟨(some 8), (.load false 1 (.tmp 7)), (some (6, false))⟩,
    ⟨(some 9), (.bin .eql (.tmp 8) (.cst (.d (.int .i64 4)))), (some (6, false))⟩,
    ⟨(some 10), (.pick (.tmp 6) (.cst (.d (.bool true))) (.tmp 9)), none⟩,
    ⟨(some 11), (.mv (.tmp 10)), none⟩,
    ⟨(some 12), (.fieldAddr 0 (.tmp 1)), (some (11, false))⟩,
    ⟨(some 13), (.load false 1 (.tmp 12)), (some (11, false))⟩,
    ⟨(some 14), (.bin .eql (.tmp 13) (.cst (.d (.int .i64 5)))), (some (11, false))⟩,
    ⟨(some 15), (.pick (.tmp 11) (.cst (.d (.bool true))) (.tmp 14)), none⟩,
    ⟨(some 2), (.mv (.tmp 15)), none⟩] []) (
 .ret))
def R_ref08_Writes : List LRes := [(.tmp 2)]
def V_ref08_Writes : List Nat := [0, 1, 2]

def L_ref08_SameLocs : LCode :=
 .seq (
  .region false [⟨(some 4), (.mv (.cst (.d (.bool false)))), none⟩] []) (
 .seq (
  .seq (
   .region false [⟨(some 6), (.mv (.tmp 0)), none⟩,
     ⟨(some 7), (.len (.tmp 6)), none⟩,
     ⟨(some 8), (.mv (.tmp 1)), none⟩,
     ⟨(some 9), (.len (.tmp 8)), none⟩,
     ⟨(some 10), (.bin .neq (.tmp 7) (.tmp 9)), none⟩] []) (
  .cond (.tmp 10) (
   .seq (
    .region false [⟨(some 4), (.mv (.cst (.d (.bool false)))), none⟩] []) (
   .ret)) (
   .skip))) (
 .seq (
  .seq (
   .region false [⟨(some 5), (.mv (.cst (.d (.int .i64 0)))), none⟩] []) (
  .block 0 (
   .loop (
    .seq (
     .seq (
      .region false [⟨(some 11), (.mv (.tmp 5)), none⟩,
        ⟨(some 12), (.mv (.tmp 0)), none⟩,
        ⟨(some 13), (.len (.tmp 12)), none⟩,
        ⟨(some 14), (.bin .lss (.tmp 11) (.tmp 13)), none⟩] []) (
     .cond (.tmp 14) (
      .skip) (
      (.exit 0)))) (
    .seq (
     .block 1 (
      .seq (
       .region true [⟨(some 17), (.mv (.tmp 0)), none⟩,
         ⟨(some 18), (.mv (.tmp 5)), none⟩,
         ⟨(some 19), (.idxAddr 2 (.tmp 17) (.tmp 18)), none⟩,
         ⟨(some 20), (.load true 2 (.tmp 19)), none⟩,
         ⟨(some 21), (.mv (.tmp 1)), none⟩,
         ⟨(some 22), (.mv (.tmp 5)), none⟩,
         ⟨(some 23), (.idxAddr 2 (.tmp 21) (.tmp 22)), none⟩,
         ⟨(some 24), (.load true 2 (.tmp 23)), none⟩,
         ⟨(some 25), (.eq true (.flat [false, true]) (.tmp 20) (.tmp 24)), none⟩] []) (
      .cond (.tmp 25) (
       .seq (
        .region false [⟨(some 4), (.mv (.cst (.d (.bool false)))), none⟩] []) (
       .ret)) (
       .skip)))) (
    .region false [⟨(some 15), (.mv (.tmp 5)), none⟩,
      ⟨(some 16), (.bin .add (.tmp 15) (.cst (.d (.int .i64 1)))), none⟩,
      ⟨(some 5), (.mv (.tmp 16)), none⟩] [])))))) (
 .seq (
  .region false [⟨(some 4), (.mv (.cst (.d (.bool true)))), none⟩] []) (
 .ret))))
def R_ref08_SameLocs : List LRes := [(.tmp 4)]
def V_ref08_SameLocs : List Nat := [0, 1, 10, 5, 14, 25, 4]

end Go.Ago

/- Lowered functions of a package, callees by their numbers. Printed by a program of this session. Conditions: none. -/
set_option maxRecDepth 100000
set_option linter.unusedVariables false
namespace Go.Ago
def L_slices_BinarySearchFunc_api_Stamp_api_Rat : LCode :=
 .seq (
  .region false [⟨(some 4), (.box 0 (.tmp 1)), none⟩,
    ⟨(some 6), (.mv (.cst (.d (.int .i64 0)))), none⟩,
    ⟨(some 7), (.mv (.cst (.d (.bool false)))), none⟩] []) (
 .seq (
  .region false [⟨(some 12), (.mv (.tmp 0)), none⟩,
    ⟨(some 13), (.len (.tmp 12)), none⟩,
    ⟨(some 8), (.mv (.tmp 13)), none⟩] []) (
 .seq (
  .region false [⟨(some 14), (.mv (.tmp 8)), none⟩,
    ⟨(some 9), (.mv (.cst (.d (.int .i64 0)))), none⟩,
    ⟨(some 10), (.mv (.tmp 14)), none⟩] []) (
 .seq (
  .block 0 (
   .loop (
    .seq (
     .seq (
      .region false [⟨(some 15), (.mv (.tmp 9)), none⟩,
        ⟨(some 16), (.mv (.tmp 10)), none⟩,
        ⟨(some 17), (.bin .lss (.tmp 15) (.tmp 16)), none⟩] []) (
     .cond (.tmp 17) (
      .skip) (
      (.exit 0)))) (
    .block 1 (
     .seq (
      .region false [⟨(some 18), (.mv (.tmp 9)), none⟩,
        ⟨(some 19), (.mv (.tmp 10)), none⟩,
        ⟨(some 20), (.bin .add (.tmp 18) (.tmp 19)), none⟩,
        ⟨(some 21), (.conv .u64 (.tmp 20)), none⟩,
        ⟨(some 22), (.bin .shr (.tmp 21) (.cst (.d (.int .u64 1)))), none⟩,
        ⟨(some 23), (.conv .i64 (.tmp 22)), none⟩,
        ⟨(some 11), (.mv (.tmp 23)), none⟩] []) (
     .seq (
      .region true [⟨(some 24), (.mv (.tmp 2)), none⟩,
        ⟨(some 25), (.mv (.tmp 0)), none⟩,
        ⟨(some 26), (.mv (.tmp 11)), none⟩,
        ⟨(some 27), (.idxAddr 3 (.tmp 25) (.tmp 26)), none⟩,
        ⟨(some 28), (.load true 3 (.tmp 27)), none⟩,
        ⟨(some 29), (.load true 2 (.tmp 4)), none⟩,
        ⟨(some 30), (.call 0 false (.tmp 24) [(.tmp 28), (.tmp 29)]), none⟩,
        ⟨(some 31), (.bin .lss (.tmp 30) (.cst (.d (.int .i64 0)))), none⟩] []) (
     .cond (.tmp 31) (
      .region false [⟨(some 32), (.mv (.tmp 11)), none⟩,
        ⟨(some 33), (.bin .add (.tmp 32) (.cst (.d (.int .i64 1)))), none⟩,
        ⟨(some 9), (.mv (.tmp 33)), none⟩] []) (
      .region false [⟨(some 34), (.mv (.tmp 11)), none⟩, ⟨(some 10), (.mv (.tmp 34)), none⟩] [])))))))) (
 .seq (
  .region true [⟨(some 35), (.mv (.tmp 9)), none⟩,
    ⟨(some 36), (.mv (.tmp 9)), none⟩,
    ⟨(some 37), (.mv (.tmp 8)), none⟩,
    ⟨(some 38), (.bin .lss (.tmp 36) (.tmp 37)), none⟩,
    ⟨(some 39), (.mv (.tmp 38)), none⟩,
    ⟨(some 40), (.mv (.tmp 2)), (some (39, true))⟩,
    ⟨(some 41), (.mv (.tmp 0)), (some (39, true))⟩,
    ⟨(some 42), (.mv (.tmp 9)), (some (39, true))⟩,
    ⟨(some 43), (.idxAddr 3 (.tmp 41) (.tmp 42)), (some (39, true))⟩,
    ⟨(some 44), (.load true 3 (.tmp 43)), (some (39, true))⟩,
    ⟨(some 45), (.load true 2 (.tmp 4)), (some (39, true))⟩,
    ⟨(some 46), (.call 0 false (.tmp 40) [(.tmp 44), (.tmp 45)]), (some (39, true))⟩,
    ⟨(some 47), (.bin .eql (.tmp 46) (.cst (.d (.int .i64 0)))), (some (39, true))⟩,
    ⟨(some 48), (.pick (.tmp 39) (.tmp 47) (.cst (.d (.bool false)))), none⟩,
    ⟨(some 6), (.mv (.tmp 35)), none⟩,
    ⟨(some 7), (.mv (.tmp 48)), none⟩] []) (
 .ret)))))
def R_slices_BinarySearchFunc_api_Stamp_api_Rat : List LRes := [(.tmp 6), (.tmp 7)]
def V_slices_BinarySearchFunc_api_Stamp_api_Rat : List Nat := [1, 0, 8, 9, 10, 17, 2, 11, 4, 31, 6, 7]

def L_slices_overlaps_api_Stamp : LCode :=
 .skip
def R_slices_overlaps_api_Stamp : List LRes := []
def V_slices_overlaps_api_Stamp : List Nat := []

def L_slices_rotateRight_api_Stamp (n_slices_rotateLeft_api_Stamp : Nat) : LCode :=
 .region false [⟨(some 4), (.mv (.tmp 0)), none⟩,
   ⟨(some 5), (.mv (.tmp 0)), none⟩,
   ⟨(some 6), (.len (.tmp 5)), none⟩,
   ⟨(some 7), (.mv (.tmp 1)), none⟩,
   ⟨(some 8), (.bin .sub (.tmp 6) (.tmp 7)), none⟩,
   ⟨(some 9), (.call 0 false (.cst (.d (.fn n_slices_rotateLeft_api_Stamp))) [(.tmp 4), (.tmp 8)]), none⟩] []
def R_slices_rotateRight_api_Stamp : List LRes := []
def V_slices_rotateRight_api_Stamp : List Nat := [0, 1]

def L_slices_rotateLeft_api_Stamp (n_slices_Reverse_api_Stamp : Nat) : LCode :=
 .seq (
  .region false [⟨(some 4), (.mv (.tmp 0)), none⟩,
    ⟨(some 5), (.mv (.tmp 1)), none⟩,
    ⟨(some 6), (.slice 3 (.tmp 4) none (some (.tmp 5)) none), none⟩,
    ⟨(some 7), (.call 0 false (.cst (.d (.fn n_slices_Reverse_api_Stamp))) [(.tmp 6)]), none⟩] []) (
 .seq (
  .region false [⟨(some 8), (.mv (.tmp 0)), none⟩,
    ⟨(some 9), (.mv (.tmp 1)), none⟩,
    ⟨(some 10), (.slice 3 (.tmp 8) (some (.tmp 9)) none none), none⟩,
    ⟨(some 11), (.call 0 false (.cst (.d (.fn n_slices_Reverse_api_Stamp))) [(.tmp 10)]), none⟩] []) (
 .region false [⟨(some 12), (.mv (.tmp 0)), none⟩, ⟨(some 13), (.call 0 false (.cst (.d (.fn n_slices_Reverse_api_Stamp))) [(.tmp 12)]), none⟩] []))
def R_slices_rotateLeft_api_Stamp : List LRes := []
def V_slices_rotateLeft_api_Stamp : List Nat := [0, 1]

def L_slices_Reverse_api_Stamp : LCode :=
 .seq (
  .region false [⟨(some 4), (.mv (.tmp 0)), none⟩,
    ⟨(some 5), (.len (.tmp 4)), none⟩,
    ⟨(some 6), (.bin .sub (.tmp 5) (.cst (.d (.int .i64 1)))), none⟩,
    ⟨(some 2), (.mv (.cst (.d (.int .i64 0)))), none⟩,
    ⟨(some 3), (.mv (.tmp 6)), none⟩] []) (
 .block 0 (
  .loop (
   .seq (
    .seq (
     .region false [⟨(some 7), (.mv (.tmp 2)), none⟩,
       ⟨(some 8), (.mv (.tmp 3)), none⟩,
       ⟨(some 9), (.bin .lss (.tmp 7) (.tmp 8)), none⟩] []) (
    .cond (.tmp 9) (
     .skip) (
     (.exit 0)))) (
   .seq (
    .block 1 (
     .region true [⟨(some 14), (.mv (.tmp 0)), none⟩,
       ⟨(some 15), (.mv (.tmp 2)), none⟩,
       ⟨(some 16), (.mv (.tmp 0)), none⟩,
       ⟨(some 17), (.mv (.tmp 3)), none⟩,
       ⟨(some 18), (.mv (.tmp 0)), none⟩,
       ⟨(some 19), (.mv (.tmp 3)), none⟩,
       ⟨(some 20), (.idxAddr 3 (.tmp 18) (.tmp 19)), none⟩,
       ⟨(some 21), (.load true 3 (.tmp 20)), none⟩,
       ⟨(some 22), (.mv (.tmp 0)), none⟩,
       ⟨(some 23), (.mv (.tmp 2)), none⟩,
       ⟨(some 24), (.idxAddr 3 (.tmp 22) (.tmp 23)), none⟩,
       ⟨(some 25), (.load true 3 (.tmp 24)), none⟩,
       ⟨(some 26), (.idxAddr 3 (.tmp 14) (.tmp 15)), none⟩,
       ⟨none, (.store 3 (.tmp 26) (.tmp 21)), none⟩,
       ⟨(some 27), (.idxAddr 3 (.tmp 16) (.tmp 17)), none⟩,
       ⟨none, (.store 3 (.tmp 27) (.tmp 25)), none⟩] [])) (
   .region false [⟨(some 10), (.mv (.tmp 2)), none⟩,
     ⟨(some 11), (.bin .add (.tmp 10) (.cst (.d (.int .i64 1)))), none⟩,
     ⟨(some 12), (.mv (.tmp 3)), none⟩,
     ⟨(some 13), (.bin .sub (.tmp 12) (.cst (.d (.int .i64 1)))), none⟩,
     ⟨(some 2), (.mv (.tmp 11)), none⟩,
     ⟨(some 3), (.mv (.tmp 13)), none⟩] [])))))
def R_slices_Reverse_api_Stamp : List LRes := []
def V_slices_Reverse_api_Stamp : List Nat := [0, 2, 3, 9]

def L_slices_Clone_int64 : LCode :=
 .seq (
  .region false [⟨(some 2), (.mv (.cst (.d (.list [] true)))), none⟩] []) (
 .seq (
  .seq (
   .nilq [⟨(some 3), (.mv (.tmp 0)), none⟩] false 4 (.tmp 3)) (
  .cond (.tmp 4) (
   .seq (
    .region false [⟨(some 2), (.mv (.cst (.d (.list [] true)))), none⟩] []) (
   .ret)) (
   .skip))) (
 .seq (
  .region false [⟨(some 5), (.mv (.cst (.d (.list [] true)))), none⟩,
    ⟨(some 6), (.mv (.tmp 0)), none⟩,
    ⟨(some 7), (.append 0 1 8 (.tmp 5) (.tmp 6)), none⟩,
    ⟨(some 2), (.mv (.tmp 7)), none⟩] []) (
 .ret)))
def R_slices_Clone_int64 : List LRes := [(.tmp 2)]
def V_slices_Clone_int64 : List Nat := [0, 4, 2]

def L_slices_Clone_api_Loc : LCode :=
 .seq (
  .region false [⟨(some 2), (.mv (.cst (.d (.list [] true)))), none⟩] []) (
 .seq (
  .seq (
   .nilq [⟨(some 3), (.mv (.tmp 0)), none⟩] false 4 (.tmp 3)) (
  .cond (.tmp 4) (
   .seq (
    .region false [⟨(some 2), (.mv (.cst (.d (.list [] true)))), none⟩] []) (
   .ret)) (
   .skip))) (
 .seq (
  .region false [⟨(some 5), (.mv (.cst (.d (.list [] true)))), none⟩,
    ⟨(some 6), (.mv (.tmp 0)), none⟩,
    ⟨(some 7), (.append 0 2 16 (.tmp 5) (.tmp 6)), none⟩,
    ⟨(some 2), (.mv (.tmp 7)), none⟩] []) (
 .ret)))
def R_slices_Clone_api_Loc : List LRes := [(.tmp 2)]
def V_slices_Clone_api_Loc : List Nat := [0, 4, 2]

def L_slices_Clone_api_Rat : LCode :=
 .seq (
  .region false [⟨(some 2), (.mv (.cst (.d (.list [] true)))), none⟩] []) (
 .seq (
  .seq (
   .nilq [⟨(some 3), (.mv (.tmp 0)), none⟩] false 4 (.tmp 3)) (
  .cond (.tmp 4) (
   .seq (
    .region false [⟨(some 2), (.mv (.cst (.d (.list [] true)))), none⟩] []) (
   .ret)) (
   .skip))) (
 .seq (
  .region false [⟨(some 5), (.mv (.cst (.d (.list [] true)))), none⟩,
    ⟨(some 6), (.mv (.tmp 0)), none⟩,
    ⟨(some 7), (.append 0 2 16 (.tmp 5) (.tmp 6)), none⟩,
    ⟨(some 2), (.mv (.tmp 7)), none⟩] []) (
 .ret)))
def R_slices_Clone_api_Rat : List LRes := [(.tmp 2)]
def V_slices_Clone_api_Rat : List Nat := [0, 4, 2]

def L_slices_Clone_api_Stamp_api_Stamp : LCode :=
 .seq (
  .region false [⟨(some 2), (.mv (.cst (.d (.list [] true)))), none⟩] []) (
 .seq (
  .seq (
   .nilq [⟨(some 3), (.mv (.tmp 0)), none⟩] false 4 (.tmp 3)) (
  .cond (.tmp 4) (
   .seq (
    .region false [⟨(some 2), (.mv (.cst (.d (.list [] true)))), none⟩] []) (
   .ret)) (
   .skip))) (
 .seq (
  .region false [⟨(some 5), (.mv (.cst (.d (.list [] true)))), none⟩,
    ⟨(some 6), (.mv (.tmp 0)), none⟩,
    ⟨(some 7), (.append 0 1 24 (.tmp 5) (.tmp 6)), none⟩,
    ⟨(some 2), (.mv (.tmp 7)), none⟩] []) (
 .ret)))
def R_slices_Clone_api_Stamp_api_Stamp : List LRes := [(.tmp 2)]
def V_slices_Clone_api_Stamp_api_Stamp : List Nat := [0, 4, 2]

def L_slices_Clone_api_Rat_api_Rat : LCode :=
 .seq (
  .region false [⟨(some 2), (.mv (.cst (.d (.list [] true)))), none⟩] []) (
 .seq (
  .seq (
   .nilq [⟨(some 3), (.mv (.tmp 0)), none⟩] false 4 (.tmp 3)) (
  .cond (.tmp 4) (
   .seq (
    .region false [⟨(some 2), (.mv (.cst (.d (.list [] true)))), none⟩] []) (
   .ret)) (
   .skip))) (
 .seq (
  .region false [⟨(some 5), (.mv (.cst (.d (.list [] true)))), none⟩,
    ⟨(some 6), (.mv (.tmp 0)), none⟩,
    ⟨(some 7), (.append 0 1 24 (.tmp 5) (.tmp 6)), none⟩,
    ⟨(some 2), (.mv (.tmp 7)), none⟩] []) (
 .ret)))
def R_slices_Clone_api_Rat_api_Rat : List LRes := [(.tmp 2)]
def V_slices_Clone_api_Rat_api_Rat : List Nat := [0, 4, 2]

def L_slices_Clone_api_Stamp : LCode :=
 .seq (
  .region false [⟨(some 2), (.mv (.cst (.d (.list [] true)))), none⟩] []) (
 .seq (
  .seq (
   .nilq [⟨(some 3), (.mv (.tmp 0)), none⟩] false 4 (.tmp 3)) (
  .cond (.tmp 4) (
   .seq (
    .region false [⟨(some 2), (.mv (.cst (.d (.list [] true)))), none⟩] []) (
   .ret)) (
   .skip))) (
 .seq (
  .region false [⟨(some 5), (.mv (.cst (.d (.list [] true)))), none⟩,
    ⟨(some 6), (.mv (.tmp 0)), none⟩,
    ⟨(some 7), (.append 0 3 24 (.tmp 5) (.tmp 6)), none⟩,
    ⟨(some 2), (.mv (.tmp 7)), none⟩] []) (
 .ret)))
def R_slices_Clone_api_Stamp : List LRes := [(.tmp 2)]
def V_slices_Clone_api_Stamp : List Nat := [0, 4, 2]

end Go.Ago

/- Lowered functions of a package, callees by their numbers. Printed by a program of this session. Conditions: none. -/
set_option maxRecDepth 100000
set_option linter.unusedVariables false
namespace Go.Ago
def L_rel_Of : LCode :=
 .seq (
  .region false [⟨(some 4), (.mv (.cst (.d (.list [] true)))), none⟩, ⟨(some 5), (.mv (.cst (.d (.int .i64 0)))), none⟩] []) (
 .seq (
  .seq (
   .region false [⟨(some 9), (.mv (.tmp 0)), none⟩,
     ⟨(some 10), (.bin .lss (.tmp 9) (.cst (.d (.int .i64 0)))), none⟩,
     ⟨(some 11), (.mv (.tmp 10)), none⟩,
     ⟨(some 12), (.mv (.tmp 0)), (some (11, false))⟩,
     ⟨(some 13), (.bin .gtr (.tmp 12) (.cst (.d (.int .i64 64)))), (some (11, false))⟩,
     ⟨(some 14), (.pick (.tmp 11) (.cst (.d (.bool true))) (.tmp 13)), none⟩] []) (
  .cond (.tmp 14) (
   .seq (
    .region false [⟨(some 4), (.mv (.cst (.d (.list [] true)))), none⟩, ⟨(some 5), (.mv (.cst (.d (.int .i64 1)))), none⟩] []) (
   .ret)) (
   .skip))) (
 .seq (
  .region false [⟨(some 15), (.mv (.tmp 0)), none⟩,
    ⟨(some 16), (.mkslice 0 1 8 [(.d (.int .u64 0))] (.tmp 15) (.tmp 15)), none⟩,
    ⟨(some 6), (.mv (.tmp 16)), none⟩] []) (
 .seq (
  .seq (
   .region false [⟨(some 17), (.mv (.tmp 1)), none⟩,
     ⟨(some 18), (.len (.tmp 17)), none⟩,
     ⟨(some 19), (.mv (.cst (.d (.int .i64 0)))), none⟩] []) (
  .block 0 (
   .loop (
    .seq (
     .region false [⟨(some 20), (.bin .lss (.tmp 19) (.tmp 18)), none⟩] []) (
    .seq (
     .cond (.tmp 20) (
      .skip) (
      (.exit 0))) (
    .seq (
     .block 1 (
      .seq (
       .region false [⟨(some 21), (.idxAddr 2 (.tmp 17) (.tmp 19)), none⟩,
         ⟨(some 22), (.load true 2 (.tmp 21)), none⟩,
         ⟨(some 8), (.alloc 0 2 [(.d (.int .i64 0)), (.d (.int .i64 0))]), none⟩,
         ⟨none, (.store 2 (.tmp 8) (.tmp 22)), none⟩] []) (
      .seq (
       .seq (
        .region false [⟨(some 23), (.idxArrAddr 2 1 (.tmp 8) (.cst (.d (.int .i64 0)))), none⟩,
          ⟨(some 24), (.load false 1 (.tmp 23)), none⟩,
          ⟨(some 25), (.bin .lss (.tmp 24) (.cst (.d (.int .i64 0)))), none⟩,
          ⟨(some 26), (.mv (.tmp 25)), none⟩,
          ⟨(some 27), (.idxArrAddr 2 1 (.tmp 8) (.cst (.d (.int .i64 0)))), (some (26, false))⟩,
          ⟨(some 28), (.load false 1 (.tmp 27)), (some (26, false))⟩,
          ⟨(some 29), (.mv (.tmp 0)), (some (26, false))⟩,
          ⟨(some 30), (.bin .geq (.tmp 28) (.tmp 29)), (some (26, false))⟩,
          ⟨(some 31), (.pick (.tmp 26) (.cst (.d (.bool true))) (.tmp 30)), none⟩,
          ⟨(some 32), (.mv (.tmp 31)), none⟩,
          ⟨(some 33), (.idxArrAddr 2 1 (.tmp 8) (.cst (.d (.int .i64 1)))), (some (32, false))⟩,
          ⟨(some 34), (.load false 1 (.tmp 33)), (some (32, false))⟩,
          ⟨(some 35), (.bin .lss (.tmp 34) (.cst (.d (.int .i64 0)))), (some (32, false))⟩,
          ⟨(some 36), (.pick (.tmp 32) (.cst (.d (.bool true))) (.tmp 35)), none⟩,
          ⟨(some 37), (.mv (.tmp 36)), none⟩,
          ⟨(some 38), (.idxArrAddr 2 1 (.tmp 8) (.cst (.d (.int .i64 1)))), (some (37, false))⟩,
          ⟨(some 39), (.load false 1 (.tmp 38)), (some (37, false))⟩,
          ⟨(some 40), (.mv (.tmp 0)), (some (37, false))⟩,
          ⟨(some 41), (.bin .geq (.tmp 39) (.tmp 40)), (some (37, false))⟩,
          ⟨(some 42), (.pick (.tmp 37) (.cst (.d (.bool true))) (.tmp 41)), none⟩] []) (
       .cond (.tmp 42) (
        .seq (
         .region false [⟨(some 4), (.mv (.cst (.d (.list [] true)))), none⟩, ⟨(some 5), (.mv (.cst (.d (.int .i64 2)))), none⟩] []) (
        .ret)) (
        .skip))) (
      .region true [⟨(some 43), (.mv (.tmp 6)), none⟩,
        ⟨(some 44), (.idxArrAddr 2 1 (.tmp 8) (.cst (.d (.int .i64 0)))), none⟩,
        ⟨(some 45), (.load false 1 (.tmp 44)), none⟩,
        ⟨(some 46), (.idxAddr 1 (.tmp 43) (.tmp 45)), none⟩,
        ⟨(some 47), (.load false 1 (.tmp 46)), none⟩,
        ⟨(some 48), (.idxArrAddr 2 1 (.tmp 8) (.cst (.d (.int .i64 1)))), none⟩,
        ⟨(some 49), (.load false 1 (.tmp 48)), none⟩,
        ⟨(some 50), (.conv .u64 (.tmp 49)), none⟩,
        ⟨(some 51), (.bin .shl (.cst (.d (.int .u64 1))) (.tmp 50)), none⟩,
        ⟨(some 52), (.bin .or (.tmp 47) (.tmp 51)), none⟩,
        ⟨(some 53), (.idxAddr 1 (.tmp 43) (.tmp 45)), none⟩,
        ⟨none, (.store 1 (.tmp 53) (.tmp 52)), none⟩] [])))) (
    .region false [⟨(some 54), (.bin .add (.tmp 19) (.cst (.d (.int .i64 1)))), none⟩, ⟨(some 19), (.mv (.tmp 54)), none⟩] []))))))) (
 .seq (
  .region false [⟨(some 55), (.mv (.tmp 6)), none⟩,
    ⟨(some 4), (.mv (.tmp 55)), none⟩,
    ⟨(some 5), (.mv (.cst (.d (.int .i64 0)))), none⟩] []) (
 .ret)))))
def R_rel_Of : List LRes := [(.tmp 4), (.tmp 5)]
def V_rel_Of : List Nat := [0, 14, 1, 19, 18, 20, 17, 8, 42, 6, 4, 5]

def L_rel_Order (n_rel_Back : Nat) : LCode :=
 .seq (
  .region false [⟨(some 2), (.mv (.cst (.d (.list [] true)))), none⟩, ⟨(some 3), (.mv (.cst (.d (.bool false)))), none⟩] []) (
 .seq (
  .region false [⟨(some 8), (.mv (.tmp 0)), none⟩,
    ⟨(some 9), (.call 0 true (.cst (.d (.fn n_rel_Back))) [(.tmp 8)]), none⟩,
    ⟨(some 4), (.mv (.tmp 9)), none⟩] []) (
 .seq (
  .region false [⟨(some 5), (.mv (.cst (.d (.list [] true)))), none⟩] []) (
 .seq (
  .region false [⟨(some 6), (.mv (.cst (.d (.int .u64 0)))), none⟩] []) (
 .seq (
  .seq (
   .region false [⟨(some 10), (.mv (.tmp 4)), none⟩,
     ⟨(some 11), (.len (.tmp 10)), none⟩,
     ⟨(some 12), (.mv (.cst (.d (.int .i64 0)))), none⟩] []) (
  .block 0 (
   .loop (
    .seq (
     .region false [⟨(some 13), (.bin .lss (.tmp 12) (.tmp 11)), none⟩] []) (
    .seq (
     .cond (.tmp 13) (
      .skip) (
      (.exit 0))) (
    .seq (
     .block 1 (
      .seq (
       .region false [⟨(some 7), (.mv (.cst (.d (.int .i64 0)))), none⟩] []) (
      .seq (
       .block 2 (
        .loop (
         .seq (
          .seq (
           .region false [⟨(some 14), (.mv (.tmp 7)), none⟩,
             ⟨(some 15), (.mv (.tmp 4)), none⟩,
             ⟨(some 16), (.len (.tmp 15)), none⟩,
             ⟨(some 17), (.bin .lss (.tmp 14) (.tmp 16)), none⟩,
             ⟨(some 18), (.mv (.tmp 17)), none⟩,
             ⟨(some 19), (.mv (.tmp 6)), (some (18, true))⟩,
             ⟨(some 20), (.mv (.tmp 7)), (some (18, true))⟩,
             ⟨(some 21), (.conv .u64 (.tmp 20)), (some (18, true))⟩,
             ⟨(some 22), (.bin .shr (.tmp 19) (.tmp 21)), (some (18, true))⟩,
             ⟨(some 23), (.bin .and (.tmp 22) (.cst (.d (.int .u64 1)))), (some (18, true))⟩,
             ⟨(some 24), (.bin .eql (.tmp 23) (.cst (.d (.int .u64 1)))), (some (18, true))⟩,
             ⟨(some 25), (.mv (.tmp 24)), (some (18, true))⟩,
             ⟨(some 26), (.mv (.tmp 4)), (some (25, false))⟩,
             ⟨(some 27), (.mv (.tmp 7)), (some (25, false))⟩,
             ⟨(some 28), (.idxAddr 1 (.tmp 26) (.tmp 27)), (some (25, false))⟩,
             ⟨(some 29), (.load false 1 (.tmp 28)), (some (25, false))⟩,
             ⟨(some 30), (.mv (.tmp 6)), (some (25, false))⟩,
             ⟨(some 31), (.bin .andNot (.tmp 29) (.tmp 30)), (some (25, false))⟩,
             ⟨(some 32), (.bin .neq (.tmp 31) (.cst (.d (.int .u64 0)))), (some (25, false))⟩,
             ⟨(some 33), (.pick (.tmp 25) (.cst (.d (.bool true))) (.tmp 32)), (some (18, true))⟩,
             ⟨(some 34), (.pick (.tmp 18) (.tmp 33) (.cst (.d (.bool false)))), none⟩] []) (
          .cond (.tmp 34) (
           .skip) (
           (.exit 2)))) (
         .block 3 (
          .region false [⟨(some 35), (.mv (.tmp 7)), none⟩,
            ⟨(some 36), (.bin .add (.tmp 35) (.cst (.d (.int .i64 1)))), none⟩,
            ⟨(some 7), (.mv (.tmp 36)), none⟩] []))))) (
      .seq (
       .seq (
        .region false [⟨(some 37), (.mv (.tmp 7)), none⟩,
          ⟨(some 38), (.mv (.tmp 4)), none⟩,
          ⟨(some 39), (.len (.tmp 38)), none⟩,
          ⟨(some 40), (.bin .eql (.tmp 37) (.tmp 39)), none⟩] []) (
       .cond (.tmp 40) (
        .seq (
         .region false [⟨(some 2), (.mv (.cst (.d (.list [] true)))), none⟩, ⟨(some 3), (.mv (.cst (.d (.bool false)))), none⟩] []) (
        .ret)) (
        .skip))) (
      .seq (
       .region false [⟨(some 41), (.mv (.tmp 6)), none⟩,
         ⟨(some 42), (.mv (.tmp 7)), none⟩,
         ⟨(some 43), (.conv .u64 (.tmp 42)), none⟩,
         ⟨(some 44), (.bin .shl (.cst (.d (.int .u64 1))) (.tmp 43)), none⟩,
         ⟨(some 45), (.bin .or (.tmp 41) (.tmp 44)), none⟩,
         ⟨(some 6), (.mv (.tmp 45)), none⟩] []) (
      .region false [⟨(some 46), (.mv (.tmp 5)), none⟩,
        ⟨(some 47), (.mv (.tmp 7)), none⟩,
        ⟨(some 48), (.bslice 0 1 1 [(.d (.int .i64 0))] [(0, (.tmp 47))]), none⟩,
        ⟨(some 49), (.append 1 1 8 (.tmp 46) (.tmp 48)), none⟩,
        ⟨(some 5), (.mv (.tmp 49)), none⟩] [])))))) (
    .region false [⟨(some 50), (.bin .add (.tmp 12) (.cst (.d (.int .i64 1)))), none⟩, ⟨(some 12), (.mv (.tmp 50)), none⟩] []))))))) (
 .seq (
  .region false [⟨(some 51), (.mv (.tmp 5)), none⟩,
    ⟨(some 2), (.mv (.tmp 51)), none⟩,
    ⟨(some 3), (.mv (.cst (.d (.bool true)))), none⟩] []) (
 .ret))))))
def R_rel_Order : List LRes := [(.tmp 2), (.tmp 3)]
def V_rel_Order : List Nat := [0, 4, 12, 11, 13, 7, 6, 34, 40, 5, 2, 3]

def L_rel_Ring (n_rel_Plus : Nat) : LCode :=
 .seq (
  .region false [⟨(some 2), (.mv (.cst (.d (.bool false)))), none⟩] []) (
 .seq (
  .seq (
   .region false [⟨(some 5), (.mv (.tmp 0)), none⟩,
     ⟨(some 6), (.call 0 true (.cst (.d (.fn n_rel_Plus))) [(.tmp 5)]), none⟩,
     ⟨(some 7), (.len (.tmp 6)), none⟩,
     ⟨(some 8), (.mv (.cst (.d (.int .i64 0)))), none⟩] []) (
  .block 0 (
   .loop (
    .seq (
     .region false [⟨(some 9), (.bin .lss (.tmp 8) (.tmp 7)), none⟩] []) (
    .seq (
     .cond (.tmp 9) (
      .skip) (
      (.exit 0))) (
    .seq (
     .block 1 (
      .seq (
       .region false [⟨(some 10), (.mv (.tmp 8)), none⟩,
         ⟨(some 11), (.idxAddr 1 (.tmp 6) (.tmp 8)), none⟩,
         ⟨(some 12), (.load false 1 (.tmp 11)), none⟩,
         ⟨(some 3), (.mv (.tmp 10)), none⟩,
         ⟨(some 4), (.mv (.tmp 12)), none⟩] []) (
      .seq (
       .region false [⟨(some 13), (.mv (.tmp 4)), none⟩,
         ⟨(some 14), (.mv (.tmp 3)), none⟩,
         ⟨(some 15), (.conv .u64 (.tmp 14)), none⟩,
         ⟨(some 16), (.bin .shr (.tmp 13) (.tmp 15)), none⟩,
         ⟨(some 17), (.bin .and (.tmp 16) (.cst (.d (.int .u64 1)))), none⟩,
         ⟨(some 18), (.bin .eql (.tmp 17) (.cst (.d (.int .u64 1)))), none⟩] []) (
      .cond (.tmp 18) (
       .seq (
        .region false [⟨(some 2), (.mv (.cst (.d (.bool true)))), none⟩] []) (
       .ret)) (
       .skip))))) (
    .region false [⟨(some 19), (.bin .add (.tmp 8) (.cst (.d (.int .i64 1)))), none⟩, ⟨(some 8), (.mv (.tmp 19)), none⟩] []))))))) (
 .seq (
  .region false [⟨(some 2), (.mv (.cst (.d (.bool false)))), none⟩] []) (
 .ret)))
def R_rel_Ring : List LRes := [(.tmp 2)]
def V_rel_Ring : List Nat := [0, 8, 7, 9, 6, 4, 3, 18, 2]

def L_rel_Has (n_rel_size : Nat) : LCode :=
 .seq (
  .region false [⟨(some 6), (.mv (.cst (.d (.bool false)))), none⟩] []) (
 .seq (
  .region false [⟨(some 8), (.mv (.tmp 0)), none⟩,
    ⟨(some 9), (.call 0 false (.cst (.d (.fn n_rel_size))) [(.tmp 8)]), none⟩,
    ⟨(some 7), (.mv (.tmp 9)), none⟩] []) (
 .seq (
  .region false [⟨(some 10), (.mv (.tmp 1)), none⟩,
    ⟨(some 11), (.bin .geq (.tmp 10) (.cst (.d (.int .i64 0)))), none⟩,
    ⟨(some 12), (.mv (.tmp 11)), none⟩,
    ⟨(some 13), (.mv (.tmp 1)), (some (12, true))⟩,
    ⟨(some 14), (.mv (.tmp 7)), (some (12, true))⟩,
    ⟨(some 15), (.bin .lss (.tmp 13) (.tmp 14)), (some (12, true))⟩,
    ⟨(some 16), (.pick (.tmp 12) (.tmp 15) (.cst (.d (.bool false)))), none⟩,
    ⟨(some 17), (.mv (.tmp 16)), none⟩,
    ⟨(some 18), (.mv (.tmp 2)), (some (17, true))⟩,
    ⟨(some 19), (.bin .geq (.tmp 18) (.cst (.d (.int .i64 0)))), (some (17, true))⟩,
    ⟨(some 20), (.pick (.tmp 17) (.tmp 19) (.cst (.d (.bool false)))), none⟩,
    ⟨(some 21), (.mv (.tmp 20)), none⟩,
    ⟨(some 22), (.mv (.tmp 2)), (some (21, true))⟩,
    ⟨(some 23), (.mv (.tmp 7)), (some (21, true))⟩,
    ⟨(some 24), (.bin .lss (.tmp 22) (.tmp 23)), (some (21, true))⟩,
    ⟨(some 25), (.pick (.tmp 21) (.tmp 24) (.cst (.d (.bool false)))), none⟩,
    ⟨(some 26), (.mv (.tmp 25)), none⟩,
    ⟨(some 27), (.mv (.tmp 0)), (some (26, true))⟩,
    ⟨(some 28), (.mv (.tmp 1)), (some (26, true))⟩,
    ⟨(some 29), (.idxAddr 1 (.tmp 27) (.tmp 28)), (some (26, true))⟩,
    ⟨(some 30), (.load false 1 (.tmp 29)), (some (26, true))⟩,
    ⟨(some 31), (.mv (.tmp 2)), (some (26, true))⟩,
    ⟨(some 32), (.conv .u64 (.tmp 31)), (some (26, true))⟩,
    ⟨(some 33), (.bin .shr (.tmp 30) (.tmp 32)), (some (26, true))⟩,
    ⟨(some 34), (.bin .and (.tmp 33) (.cst (.d (.int .u64 1)))), (some (26, true))⟩,
    ⟨(some 35), (.bin .eql (.tmp 34) (.cst (.d (.int .u64 1)))), (some (26, true))⟩,
    ⟨(some 36), (.pick (.tmp 26) (.tmp 35) (.cst (.d (.bool false)))), none⟩,
    ⟨(some 6), (.mv (.tmp 36)), none⟩] []) (
 .ret)))
def R_rel_Has : List LRes := [(.tmp 6)]
def V_rel_Has : List Nat := [0, 1, 7, 2, 6]

def L_rel_Back (n_rel_size : Nat) (n_rel_row : Nat) (n_math_bits_TrailingZeros64 : Nat) : LCode :=
 .seq (
  .region false [⟨(some 2), (.mv (.cst (.d (.list [] true)))), none⟩] []) (
 .seq (
  .region false [⟨(some 6), (.mv (.tmp 0)), none⟩,
    ⟨(some 7), (.call 0 false (.cst (.d (.fn n_rel_size))) [(.tmp 6)]), none⟩,
    ⟨(some 8), (.mkslice 0 1 8 [(.d (.int .u64 0))] (.tmp 7) (.tmp 7)), none⟩,
    ⟨(some 3), (.mv (.tmp 8)), none⟩] []) (
 .seq (
  .seq (
   .region false [⟨(some 9), (.mv (.tmp 3)), none⟩,
     ⟨(some 10), (.len (.tmp 9)), none⟩,
     ⟨(some 11), (.mv (.cst (.d (.int .i64 0)))), none⟩] []) (
  .block 0 (
   .loop (
    .seq (
     .region false [⟨(some 12), (.bin .lss (.tmp 11) (.tmp 10)), none⟩] []) (
    .seq (
     .cond (.tmp 12) (
      .skip) (
      (.exit 0))) (
    .seq (
     .block 1 (
      .seq (
       .region false [⟨(some 13), (.mv (.tmp 11)), none⟩, ⟨(some 4), (.mv (.tmp 13)), none⟩] []) (
      .seq (
       .region false [⟨(some 14), (.mv (.tmp 0)), none⟩,
         ⟨(some 15), (.mv (.tmp 4)), none⟩,
         ⟨(some 16), (.call 0 false (.cst (.d (.fn n_rel_row))) [(.tmp 14), (.tmp 15)]), none⟩,
         ⟨(some 5), (.mv (.tmp 16)), none⟩] []) (
      .block 2 (
       .loop (
        .seq (
         .seq (
          .region false [⟨(some 17), (.mv (.tmp 5)), none⟩, ⟨(some 18), (.bin .neq (.tmp 17) (.cst (.d (.int .u64 0)))), none⟩] []) (
         .cond (.tmp 18) (
          .skip) (
          (.exit 2)))) (
        .seq (
         .block 3 (
          .region false [⟨(some 23), (.mv (.tmp 3)), none⟩,
            ⟨(some 24), (.mv (.tmp 5)), none⟩,
            ⟨(some 25), (.call 0 false (.cst (.d (.fn n_math_bits_TrailingZeros64))) [(.tmp 24)]), none⟩,
            ⟨(some 26), (.idxAddr 1 (.tmp 23) (.tmp 25)), none⟩,
            ⟨(some 27), (.load false 1 (.tmp 26)), none⟩,
            ⟨(some 28), (.mv (.tmp 4)), none⟩,
            ⟨(some 29), (.conv .u64 (.tmp 28)), none⟩,
            ⟨(some 30), (.bin .shl (.cst (.d (.int .u64 1))) (.tmp 29)), none⟩,
            ⟨(some 31), (.bin .or (.tmp 27) (.tmp 30)), none⟩,
            ⟨(some 32), (.idxAddr 1 (.tmp 23) (.tmp 25)), none⟩,
            ⟨none, (.store 1 (.tmp 32) (.tmp 31)), none⟩] [])) (
        .region false [⟨(some 19), (.mv (.tmp 5)), none⟩,
          ⟨(some 20), (.mv (.tmp 5)), none⟩,
          ⟨(some 21), (.bin .sub (.tmp 20) (.cst (.d (.int .u64 1)))), none⟩,
          ⟨(some 22), (.bin .and (.tmp 19) (.tmp 21)), none⟩,
          ⟨(some 5), (.mv (.tmp 22)), none⟩] [])))))))) (
    .region false [⟨(some 33), (.bin .add (.tmp 11) (.cst (.d (.int .i64 1)))), none⟩, ⟨(some 11), (.mv (.tmp 33)), none⟩] []))))))) (
 .seq (
  .region false [⟨(some 34), (.mv (.tmp 3)), none⟩, ⟨(some 2), (.mv (.tmp 34)), none⟩] []) (
 .ret))))
def R_rel_Back : List LRes := [(.tmp 2)]
def V_rel_Back : List Nat := [0, 3, 11, 10, 12, 4, 5, 18, 2]

def L_rel_Plus (n_rel_lay : Nat) (n_rel_Plus_1 : Nat) : LCode :=
 .seq (
  .region false [⟨(some 2), (.mv (.cst (.d (.list [] true)))), none⟩] []) (
 .seq (
  .region false [⟨(some 6), (.mv (.tmp 0)), none⟩,
    ⟨(some 7), (.call 0 true (.cst (.d (.fn n_rel_lay))) [(.tmp 6), (.cst (.d (.list [] true))), (.cst (.d (.fn n_rel_Plus_1)))]), none⟩,
    ⟨(some 3), (.mv (.tmp 7)), none⟩] []) (
 .seq (
  .seq (
   .region false [⟨(some 8), (.mv (.tmp 3)), none⟩,
     ⟨(some 9), (.len (.tmp 8)), none⟩,
     ⟨(some 10), (.mv (.cst (.d (.int .i64 0)))), none⟩] []) (
  .block 0 (
   .loop (
    .seq (
     .region false [⟨(some 11), (.bin .lss (.tmp 10) (.tmp 9)), none⟩] []) (
    .seq (
     .cond (.tmp 11) (
      .skip) (
      (.exit 0))) (
    .seq (
     .block 1 (
      .seq (
       .region false [⟨(some 12), (.mv (.tmp 10)), none⟩, ⟨(some 4), (.mv (.tmp 12)), none⟩] []) (
      .seq (
       .region false [⟨(some 13), (.mv (.tmp 3)), none⟩,
         ⟨(some 14), (.len (.tmp 13)), none⟩,
         ⟨(some 15), (.mv (.cst (.d (.int .i64 0)))), none⟩] []) (
      .block 2 (
       .loop (
        .seq (
         .region false [⟨(some 16), (.bin .lss (.tmp 15) (.tmp 14)), none⟩] []) (
        .seq (
         .cond (.tmp 16) (
          .skip) (
          (.exit 2))) (
        .seq (
         .block 3 (
          .seq (
           .region false [⟨(some 17), (.mv (.tmp 15)), none⟩, ⟨(some 5), (.mv (.tmp 17)), none⟩] []) (
          .seq (
           .region false [⟨(some 18), (.mv (.tmp 3)), none⟩,
             ⟨(some 19), (.mv (.tmp 5)), none⟩,
             ⟨(some 20), (.idxAddr 1 (.tmp 18) (.tmp 19)), none⟩,
             ⟨(some 21), (.load false 1 (.tmp 20)), none⟩,
             ⟨(some 22), (.mv (.tmp 4)), none⟩,
             ⟨(some 23), (.conv .u64 (.tmp 22)), none⟩,
             ⟨(some 24), (.bin .shr (.tmp 21) (.tmp 23)), none⟩,
             ⟨(some 25), (.bin .and (.tmp 24) (.cst (.d (.int .u64 1)))), none⟩,
             ⟨(some 26), (.bin .eql (.tmp 25) (.cst (.d (.int .u64 1)))), none⟩] []) (
          .cond (.tmp 26) (
           .region true [⟨(some 27), (.mv (.tmp 3)), none⟩,
             ⟨(some 28), (.mv (.tmp 5)), none⟩,
             ⟨(some 29), (.idxAddr 1 (.tmp 27) (.tmp 28)), none⟩,
             ⟨(some 30), (.load false 1 (.tmp 29)), none⟩,
             ⟨(some 31), (.mv (.tmp 3)), none⟩,
             ⟨(some 32), (.mv (.tmp 4)), none⟩,
             ⟨(some 33), (.idxAddr 1 (.tmp 31) (.tmp 32)), none⟩,
             ⟨(some 34), (.load false 1 (.tmp 33)), none⟩,
             ⟨(some 35), (.bin .or (.tmp 30) (.tmp 34)), none⟩,
             ⟨(some 36), (.idxAddr 1 (.tmp 27) (.tmp 28)), none⟩,
             ⟨none, (.store 1 (.tmp 36) (.tmp 35)), none⟩] []) (
           .skip))))) (
        .region false [⟨(some 37), (.bin .add (.tmp 15) (.cst (.d (.int .i64 1)))), none⟩, ⟨(some 15), (.mv (.tmp 37)), none⟩] []))))))))) (
    .region false [⟨(some 38), (.bin .add (.tmp 10) (.cst (.d (.int .i64 1)))), none⟩, ⟨(some 10), (.mv (.tmp 38)), none⟩] []))))))) (
 .seq (
  .region false [⟨(some 39), (.mv (.tmp 3)), none⟩, ⟨(some 2), (.mv (.tmp 39)), none⟩] []) (
 .ret))))
def R_rel_Plus : List LRes := [(.tmp 2)]
def V_rel_Plus : List Nat := [0, 3, 10, 9, 11, 15, 14, 16, 5, 4, 26, 2]

def L_rel_Union (n_rel_lay : Nat) (n_rel_Union_1 : Nat) : LCode :=
 .seq (
  .region false [⟨(some 4), (.mv (.cst (.d (.list [] true)))), none⟩] []) (
 .seq (
  .region false [⟨(some 5), (.mv (.tmp 0)), none⟩,
    ⟨(some 6), (.mv (.tmp 1)), none⟩,
    ⟨(some 7), (.call 0 true (.cst (.d (.fn n_rel_lay))) [(.tmp 5), (.tmp 6), (.cst (.d (.fn n_rel_Union_1)))]), none⟩,
    ⟨(some 4), (.mv (.tmp 7)), none⟩] []) (
 .ret))
def R_rel_Union : List LRes := [(.tmp 4)]
def V_rel_Union : List Nat := [0, 1, 4]

def L_rel_Then (n_rel_size : Nat) (n_rel_row : Nat) (n_math_bits_TrailingZeros64 : Nat) : LCode :=
 .seq (
  .region false [⟨(some 4), (.mv (.cst (.d (.list [] true)))), none⟩] []) (
 .seq (
  .region false [⟨(some 8), (.mv (.tmp 0)), none⟩,
    ⟨(some 9), (.call 0 false (.cst (.d (.fn n_rel_size))) [(.tmp 8)]), none⟩,
    ⟨(some 10), (.mv (.tmp 1)), none⟩,
    ⟨(some 11), (.call 0 false (.cst (.d (.fn n_rel_size))) [(.tmp 10)]), none⟩,
    ⟨(some 12), (.maxi (.tmp 9) (.tmp 11)), none⟩,
    ⟨(some 13), (.mkslice 0 1 8 [(.d (.int .u64 0))] (.tmp 12) (.tmp 12)), none⟩,
    ⟨(some 5), (.mv (.tmp 13)), none⟩] []) (
 .seq (
  .seq (
   .region false [⟨(some 14), (.mv (.tmp 5)), none⟩,
     ⟨(some 15), (.len (.tmp 14)), none⟩,
     ⟨(some 16), (.mv (.cst (.d (.int .i64 0)))), none⟩] []) (
  .block 0 (
   .loop (
    .seq (
     .region false [⟨(some 17), (.bin .lss (.tmp 16) (.tmp 15)), none⟩] []) (
    .seq (
     .cond (.tmp 17) (
      .skip) (
      (.exit 0))) (
    .seq (
     .block 1 (
      .seq (
       .region false [⟨(some 18), (.mv (.tmp 16)), none⟩, ⟨(some 6), (.mv (.tmp 18)), none⟩] []) (
      .seq (
       .region false [⟨(some 19), (.mv (.tmp 0)), none⟩,
         ⟨(some 20), (.mv (.tmp 6)), none⟩,
         ⟨(some 21), (.call 0 false (.cst (.d (.fn n_rel_row))) [(.tmp 19), (.tmp 20)]), none⟩,
         ⟨(some 7), (.mv (.tmp 21)), none⟩] []) (
      .block 2 (
       .loop (
        .seq (
         .seq (
          .region false [⟨(some 22), (.mv (.tmp 7)), none⟩, ⟨(some 23), (.bin .neq (.tmp 22) (.cst (.d (.int .u64 0)))), none⟩] []) (
         .cond (.tmp 23) (
          .skip) (
          (.exit 2)))) (
        .seq (
         .block 3 (
          .region true [⟨(some 28), (.mv (.tmp 5)), none⟩,
            ⟨(some 29), (.mv (.tmp 6)), none⟩,
            ⟨(some 30), (.idxAddr 1 (.tmp 28) (.tmp 29)), none⟩,
            ⟨(some 31), (.load false 1 (.tmp 30)), none⟩,
            ⟨(some 32), (.mv (.tmp 1)), none⟩,
            ⟨(some 33), (.mv (.tmp 7)), none⟩,
            ⟨(some 34), (.call 0 false (.cst (.d (.fn n_math_bits_TrailingZeros64))) [(.tmp 33)]), none⟩,
            ⟨(some 35), (.call 0 false (.cst (.d (.fn n_rel_row))) [(.tmp 32), (.tmp 34)]), none⟩,
            ⟨(some 36), (.bin .or (.tmp 31) (.tmp 35)), none⟩,
            ⟨(some 37), (.idxAddr 1 (.tmp 28) (.tmp 29)), none⟩,
            ⟨none, (.store 1 (.tmp 37) (.tmp 36)), none⟩] [(3, 6), (3, 7)])) (
        .region false [⟨(some 24), (.mv (.tmp 7)), none⟩,
          ⟨(some 25), (.mv (.tmp 7)), none⟩,
          ⟨(some 26), (.bin .sub (.tmp 25) (.cst (.d (.int .u64 1)))), none⟩,
          ⟨(some 27), (.bin .and (.tmp 24) (.tmp 26)), none⟩,
          ⟨(some 7), (.mv (.tmp 27)), none⟩] [])))))))) (
    .region false [⟨(some 38), (.bin .add (.tmp 16) (.cst (.d (.int .i64 1)))), none⟩, ⟨(some 16), (.mv (.tmp 38)), none⟩] []))))))) (
 .seq (
  .region false [⟨(some 39), (.mv (.tmp 5)), none⟩, ⟨(some 4), (.mv (.tmp 39)), none⟩] []) (
 .ret))))
def R_rel_Then : List LRes := [(.tmp 4)]
def V_rel_Then : List Nat := [0, 1, 5, 16, 15, 17, 6, 7, 23, 4]

def L_rel_Minus (n_rel_lay : Nat) (n_rel_Minus_1 : Nat) : LCode :=
 .seq (
  .region false [⟨(some 4), (.mv (.cst (.d (.list [] true)))), none⟩] []) (
 .seq (
  .region false [⟨(some 5), (.mv (.tmp 0)), none⟩,
    ⟨(some 6), (.mv (.tmp 1)), none⟩,
    ⟨(some 7), (.call 0 true (.cst (.d (.fn n_rel_lay))) [(.tmp 5), (.tmp 6), (.cst (.d (.fn n_rel_Minus_1)))]), none⟩,
    ⟨(some 4), (.mv (.tmp 7)), none⟩] []) (
 .ret))
def R_rel_Minus : List LRes := [(.tmp 4)]
def V_rel_Minus : List Nat := [0, 1, 4]

def L_rel_Inter (n_rel_lay : Nat) (n_rel_Inter_1 : Nat) : LCode :=
 .seq (
  .region false [⟨(some 4), (.mv (.cst (.d (.list [] true)))), none⟩] []) (
 .seq (
  .region false [⟨(some 5), (.mv (.tmp 0)), none⟩,
    ⟨(some 6), (.mv (.tmp 1)), none⟩,
    ⟨(some 7), (.call 0 true (.cst (.d (.fn n_rel_lay))) [(.tmp 5), (.tmp 6), (.cst (.d (.fn n_rel_Inter_1)))]), none⟩,
    ⟨(some 4), (.mv (.tmp 7)), none⟩] []) (
 .ret))
def R_rel_Inter : List LRes := [(.tmp 4)]
def V_rel_Inter : List Nat := [0, 1, 4]

def L_rel_Star (n_rel_Plus : Nat) : LCode :=
 .seq (
  .region false [⟨(some 2), (.mv (.cst (.d (.list [] true)))), none⟩] []) (
 .seq (
  .region false [⟨(some 5), (.mv (.tmp 0)), none⟩,
    ⟨(some 6), (.call 0 true (.cst (.d (.fn n_rel_Plus))) [(.tmp 5)]), none⟩,
    ⟨(some 3), (.mv (.tmp 6)), none⟩] []) (
 .seq (
  .seq (
   .region false [⟨(some 7), (.mv (.tmp 3)), none⟩,
     ⟨(some 8), (.len (.tmp 7)), none⟩,
     ⟨(some 9), (.mv (.cst (.d (.int .i64 0)))), none⟩] []) (
  .block 0 (
   .loop (
    .seq (
     .region false [⟨(some 10), (.bin .lss (.tmp 9) (.tmp 8)), none⟩] []) (
    .seq (
     .cond (.tmp 10) (
      .skip) (
      (.exit 0))) (
    .seq (
     .block 1 (
      .seq (
       .region false [⟨(some 11), (.mv (.tmp 9)), none⟩, ⟨(some 4), (.mv (.tmp 11)), none⟩] []) (
      .region false [⟨(some 12), (.mv (.tmp 3)), none⟩,
        ⟨(some 13), (.mv (.tmp 4)), none⟩,
        ⟨(some 14), (.idxAddr 1 (.tmp 12) (.tmp 13)), none⟩,
        ⟨(some 15), (.load false 1 (.tmp 14)), none⟩,
        ⟨(some 16), (.mv (.tmp 4)), none⟩,
        ⟨(some 17), (.conv .u64 (.tmp 16)), none⟩,
        ⟨(some 18), (.bin .shl (.cst (.d (.int .u64 1))) (.tmp 17)), none⟩,
        ⟨(some 19), (.bin .or (.tmp 15) (.tmp 18)), none⟩,
        ⟨(some 20), (.idxAddr 1 (.tmp 12) (.tmp 13)), none⟩,
        ⟨none, (.store 1 (.tmp 20) (.tmp 19)), none⟩] []))) (
    .region false [⟨(some 21), (.bin .add (.tmp 9) (.cst (.d (.int .i64 1)))), none⟩, ⟨(some 9), (.mv (.tmp 21)), none⟩] []))))))) (
 .seq (
  .region false [⟨(some 22), (.mv (.tmp 3)), none⟩, ⟨(some 2), (.mv (.tmp 22)), none⟩] []) (
 .ret))))
def R_rel_Star : List LRes := [(.tmp 2)]
def V_rel_Star : List Nat := [0, 3, 9, 8, 10, 4, 2]

def L_rel_size : LCode :=
 .seq (
  .region false [⟨(some 2), (.mv (.cst (.d (.int .i64 0)))), none⟩] []) (
 .seq (
  .region false [⟨(some 3), (.mv (.tmp 0)), none⟩,
    ⟨(some 4), (.len (.tmp 3)), none⟩,
    ⟨(some 5), (.mini (.tmp 4) (.cst (.d (.int .i64 64)))), none⟩,
    ⟨(some 2), (.mv (.tmp 5)), none⟩] []) (
 .ret))
def R_rel_size : List LRes := [(.tmp 2)]
def V_rel_size : List Nat := [0, 2]

def L_rel_row (n_rel_size : Nat) (n_rel_all : Nat) : LCode :=
 .seq (
  .region false [⟨(some 4), (.mv (.cst (.d (.int .u64 0)))), none⟩] []) (
 .seq (
  .seq (
   .region false [⟨(some 6), (.mv (.tmp 0)), none⟩,
     ⟨(some 7), (.call 0 false (.cst (.d (.fn n_rel_size))) [(.tmp 6)]), none⟩,
     ⟨(some 5), (.mv (.tmp 7)), none⟩] []) (
  .seq (
   .region false [⟨(some 8), (.mv (.tmp 1)), none⟩,
     ⟨(some 9), (.mv (.tmp 5)), none⟩,
     ⟨(some 10), (.bin .lss (.tmp 8) (.tmp 9)), none⟩] []) (
  .cond (.tmp 10) (
   .seq (
    .region true [⟨(some 11), (.mv (.tmp 0)), none⟩,
      ⟨(some 12), (.mv (.tmp 1)), none⟩,
      ⟨(some 13), (.idxAddr 1 (.tmp 11) (.tmp 12)), none⟩,
      ⟨(some 14), (.load false 1 (.tmp 13)), none⟩,
      ⟨(some 15), (.mv (.tmp 5)), none⟩,
      ⟨(some 16), (.call 0 false (.cst (.d (.fn n_rel_all))) [(.tmp 15)]), none⟩,
      ⟨(some 17), (.bin .and (.tmp 14) (.tmp 16)), none⟩,
      ⟨(some 4), (.mv (.tmp 17)), none⟩] [(3, 5)]) (
   .ret)) (
   .skip)))) (
 .seq (
  .region false [⟨(some 4), (.mv (.cst (.d (.int .u64 0)))), none⟩] []) (
 .ret)))
def R_rel_row : List LRes := [(.tmp 4)]
def V_rel_row : List Nat := [0, 1, 5, 10, 4]

def L_rel_lay (n_rel_size : Nat) (n_rel_row : Nat) : LCode :=
 .seq (
  .region false [⟨(some 6), (.mv (.cst (.d (.list [] true)))), none⟩] []) (
 .seq (
  .region false [⟨(some 9), (.mv (.tmp 0)), none⟩,
    ⟨(some 10), (.call 0 false (.cst (.d (.fn n_rel_size))) [(.tmp 9)]), none⟩,
    ⟨(some 11), (.mv (.tmp 1)), none⟩,
    ⟨(some 12), (.call 0 false (.cst (.d (.fn n_rel_size))) [(.tmp 11)]), none⟩,
    ⟨(some 13), (.maxi (.tmp 10) (.tmp 12)), none⟩,
    ⟨(some 14), (.mkslice 0 1 8 [(.d (.int .u64 0))] (.tmp 13) (.tmp 13)), none⟩,
    ⟨(some 7), (.mv (.tmp 14)), none⟩] []) (
 .seq (
  .seq (
   .region false [⟨(some 15), (.mv (.tmp 7)), none⟩,
     ⟨(some 16), (.len (.tmp 15)), none⟩,
     ⟨(some 17), (.mv (.cst (.d (.int .i64 0)))), none⟩] []) (
  .block 0 (
   .loop (
    .seq (
     .region false [⟨(some 18), (.bin .lss (.tmp 17) (.tmp 16)), none⟩] []) (
    .seq (
     .cond (.tmp 18) (
      .skip) (
      (.exit 0))) (
    .seq (
     .block 1 (
      .seq (
       .region false [⟨(some 19), (.mv (.tmp 17)), none⟩, ⟨(some 8), (.mv (.tmp 19)), none⟩] []) (
      .region false [⟨(some 20), (.mv (.tmp 7)), none⟩,
        ⟨(some 21), (.mv (.tmp 8)), none⟩,
        ⟨(some 22), (.mv (.tmp 2)), none⟩,
        ⟨(some 23), (.mv (.tmp 0)), none⟩,
        ⟨(some 24), (.mv (.tmp 8)), none⟩,
        ⟨(some 25), (.call 0 false (.cst (.d (.fn n_rel_row))) [(.tmp 23), (.tmp 24)]), none⟩,
        ⟨(some 26), (.mv (.tmp 1)), none⟩,
        ⟨(some 27), (.mv (.tmp 8)), none⟩,
        ⟨(some 28), (.call 0 false (.cst (.d (.fn n_rel_row))) [(.tmp 26), (.tmp 27)]), none⟩,
        ⟨(some 29), (.call 0 false (.tmp 22) [(.tmp 25), (.tmp 28)]), none⟩,
        ⟨(some 30), (.idxAddr 1 (.tmp 20) (.tmp 21)), none⟩,
        ⟨none, (.store 1 (.tmp 30) (.tmp 29)), none⟩] []))) (
    .region false [⟨(some 31), (.bin .add (.tmp 17) (.cst (.d (.int .i64 1)))), none⟩, ⟨(some 17), (.mv (.tmp 31)), none⟩] []))))))) (
 .seq (
  .region false [⟨(some 32), (.mv (.tmp 7)), none⟩, ⟨(some 6), (.mv (.tmp 32)), none⟩] []) (
 .ret))))
def R_rel_lay : List LRes := [(.tmp 6)]
def V_rel_lay : List Nat := [0, 1, 7, 17, 16, 18, 8, 2, 6]

def L_rel_Plus_1 : LCode :=
 .seq (
  .region false [⟨(some 4), (.mv (.cst (.d (.int .u64 0)))), none⟩] []) (
 .seq (
  .region false [⟨(some 5), (.mv (.tmp 0)), none⟩, ⟨(some 4), (.mv (.tmp 5)), none⟩] []) (
 .ret))
def R_rel_Plus_1 : List LRes := [(.tmp 4)]
def V_rel_Plus_1 : List Nat := [0, 4]

def L_rel_Union_1 : LCode :=
 .seq (
  .region false [⟨(some 4), (.mv (.cst (.d (.int .u64 0)))), none⟩] []) (
 .seq (
  .region false [⟨(some 5), (.mv (.tmp 0)), none⟩,
    ⟨(some 6), (.mv (.tmp 1)), none⟩,
    ⟨(some 7), (.bin .or (.tmp 5) (.tmp 6)), none⟩,
    ⟨(some 4), (.mv (.tmp 7)), none⟩] []) (
 .ret))
def R_rel_Union_1 : List LRes := [(.tmp 4)]
def V_rel_Union_1 : List Nat := [0, 1, 4]

def L_rel_Minus_1 : LCode :=
 .seq (
  .region false [⟨(some 4), (.mv (.cst (.d (.int .u64 0)))), none⟩] []) (
 .seq (
  .region false [⟨(some 5), (.mv (.tmp 0)), none⟩,
    ⟨(some 6), (.mv (.tmp 1)), none⟩,
    ⟨(some 7), (.bin .andNot (.tmp 5) (.tmp 6)), none⟩,
    ⟨(some 4), (.mv (.tmp 7)), none⟩] []) (
 .ret))
def R_rel_Minus_1 : List LRes := [(.tmp 4)]
def V_rel_Minus_1 : List Nat := [0, 1, 4]

def L_rel_Inter_1 : LCode :=
 .seq (
  .region false [⟨(some 4), (.mv (.cst (.d (.int .u64 0)))), none⟩] []) (
 .seq (
  .region false [⟨(some 5), (.mv (.tmp 0)), none⟩,
    ⟨(some 6), (.mv (.tmp 1)), none⟩,
    ⟨(some 7), (.bin .and (.tmp 5) (.tmp 6)), none⟩,
    ⟨(some 4), (.mv (.tmp 7)), none⟩] []) (
 .ret))
def R_rel_Inter_1 : List LRes := [(.tmp 4)]
def V_rel_Inter_1 : List Nat := [0, 1, 4]

def L_rel_all : LCode :=
 .seq (
  .region false [⟨(some 2), (.mv (.cst (.d (.int .u64 0)))), none⟩] []) (
 .seq (
  .seq (
   .region false [⟨(some 3), (.mv (.tmp 0)), none⟩, ⟨(some 4), (.bin .geq (.tmp 3) (.cst (.d (.int .i64 64)))), none⟩] []) (
  .cond (.tmp 4) (
   .seq (
    .region false [⟨(some 2), (.mv (.cst (.d (.int .u64 18446744073709551615)))), none⟩] []) (
   .ret)) (
   .skip))) (
 .seq (
  .region false [⟨(some 5), (.mv (.tmp 0)), none⟩,
    ⟨(some 6), (.conv .u64 (.tmp 5)), none⟩,
    ⟨(some 7), (.bin .shl (.cst (.d (.int .u64 1))) (.tmp 6)), none⟩,
    ⟨(some 8), (.bin .sub (.tmp 7) (.cst (.d (.int .u64 1)))), none⟩,
    ⟨(some 2), (.mv (.tmp 8)), none⟩] []) (
 .ret)))
def R_rel_all : List LRes := [(.tmp 2)]
def V_rel_all : List Nat := [0, 4, 2]

end Go.Ago

/- Lowered functions of a package, callees by their numbers. Printed by a program of this session. Conditions: none. -/
set_option maxRecDepth 100000
set_option linter.unusedVariables false
namespace Go.Ago
def L_math_Inf : LCode :=
 .seq (
  .region false [⟨(some 2), (.mv (.cst (.d (.flt .f64 0)))), none⟩] []) (
 .seq (
  .region false [⟨(some 3), (.mv (.cst (.d (.int .u64 0)))), none⟩] []) (
 .seq (
  .seq (
   .region false [⟨(some 4), (.mv (.tmp 0)), none⟩, ⟨(some 5), (.bin .geq (.tmp 4) (.cst (.d (.int .i64 0)))), none⟩] []) (
  .cond (.tmp 5) (
   .region false [⟨(some 3), (.mv (.cst (.d (.int .u64 9218868437227405312)))), none⟩] []) (
   .region false [⟨(some 3), (.mv (.cst (.d (.int .u64 18442240474082181120)))), none⟩] []))) (
 .seq (
  .region false [⟨(some 6), (.mv (.tmp 3)), none⟩,
    ⟨(some 7), (.fl .ofBits (.tmp 6) (.tmp 6)), none⟩,
    ⟨(some 2), (.mv (.tmp 7)), none⟩] []) (
 .ret))))
def R_math_Inf : List LRes := [(.tmp 2)]
def V_math_Inf : List Nat := [0, 5, 3, 2]

def L_math_Signbit : LCode :=
 .seq (
  .region false [⟨(some 2), (.mv (.cst (.d (.bool false)))), none⟩] []) (
 .seq (
  .region false [⟨(some 3), (.mv (.tmp 0)), none⟩,
    ⟨(some 4), (.fl .bits (.tmp 3) (.tmp 3)), none⟩,
    ⟨(some 5), (.conv .i64 (.tmp 4)), none⟩,
    ⟨(some 6), (.bin .lss (.tmp 5) (.cst (.d (.int .i64 0)))), none⟩,
    ⟨(some 2), (.mv (.tmp 6)), none⟩] []) (
 .ret))
def R_math_Signbit : List LRes := [(.tmp 2)]
def V_math_Signbit : List Nat := [0, 2]

def L_math_bits_TrailingZeros64 : LCode :=
 .seq (
  .region false [⟨(some 2), (.mv (.cst (.d (.int .i64 0)))), none⟩] []) (
 .seq (
  .seq (
   .region false [⟨(some 3), (.mv (.tmp 0)), none⟩, ⟨(some 4), (.bin .eql (.tmp 3) (.cst (.d (.int .u64 0)))), none⟩] []) (
  .cond (.tmp 4) (
   .seq (
    .region false [⟨(some 2), (.mv (.cst (.d (.int .i64 64)))), none⟩] []) (
   .ret)) (
   .skip))) (
 .seq (
  .region false [⟨(some 5), (.mv (.tmp 0)), none⟩,
    ⟨(some 6), (.mv (.tmp 0)), none⟩,
    ⟨(some 7), (.un .neg (.tmp 6)), none⟩,
    ⟨(some 8), (.bin .and (.tmp 5) (.tmp 7)), none⟩,
    ⟨(some 9), (.bin .mul (.tmp 8) (.cst (.d (.int .u64 285870213051353865)))), none⟩,
    ⟨(some 10), (.bin .shr (.tmp 9) (.cst (.d (.int .u64 58)))), none⟩,
    ⟨(some 11), (.idxArrAddr 64 1 (.cst (.dptr tabCells 0)) (.tmp 10)), none⟩,
    ⟨(some 12), (.load false 1 (.tmp 11)), none⟩,
    ⟨(some 13), (.conv .i64 (.tmp 12)), none⟩,
    ⟨(some 2), (.mv (.tmp 13)), none⟩] []) (
 .ret)))
def R_math_bits_TrailingZeros64 : List LRes := [(.tmp 2)]
def V_math_bits_TrailingZeros64 : List Nat := [0, 4, 2]

end Go.Ago

/- Lowered functions of a package, callees by their numbers. Printed by a program of this session. Conditions: none. -/
set_option maxRecDepth 100000
set_option linter.unusedVariables false
namespace Go.Ago
def L_ref02_Of (n_ref02_Put : Nat) : LCode :=
 .seq (
  .region false [⟨(some 4), (.mv (.cst (.d (.list [] true)))), none⟩, ⟨(some 5), (.mv (.cst (.d (.int .i64 0)))), none⟩] []) (
 .seq (
  .seq (
   .region false [⟨(some 10), (.mv (.tmp 0)), none⟩,
     ⟨(some 11), (.bin .lss (.tmp 10) (.cst (.d (.int .i64 0)))), none⟩,
     ⟨(some 12), (.mv (.tmp 11)), none⟩,
     ⟨(some 13), (.mv (.tmp 0)), (some (12, false))⟩,
     ⟨(some 14), (.bin .gtr (.tmp 13) (.cst (.d (.int .i64 64)))), (some (12, false))⟩,
     ⟨(some 15), (.pick (.tmp 12) (.cst (.d (.bool true))) (.tmp 14)), none⟩] []) (
  .cond (.tmp 15) (
   .seq (
    .region false [⟨(some 4), (.mv (.cst (.d (.list [] true)))), none⟩, ⟨(some 5), (.mv (.cst (.d (.int .i64 1)))), none⟩] []) (
   .ret)) (
   .skip))) (
 .seq (
  .region false [⟨(some 16), (.mv (.tmp 0)), none⟩,
    ⟨(some 17), (.mkslice 0 1 8 [(.d (.int .u64 0))] (.tmp 16) (.tmp 16)), none⟩,
    ⟨(some 6), (.mv (.tmp 17)), none⟩] []) (
 .seq (
  .seq (
   .region false [⟨(some 7), (.mv (.cst (.d (.int .i64 0)))), none⟩] []) (
  .block 0 (
   .loop (
    .seq (
     .seq (
      .region false [⟨(some 18), (.mv (.tmp 7)), none⟩,
        ⟨(some 19), (.mv (.tmp 1)), none⟩,
        ⟨(some 20), (.len (.tmp 19)), none⟩,
        ⟨(some 21), (.bin .lss (.tmp 18) (.tmp 20)), none⟩] []) (
     .cond (.tmp 21) (
      .skip) (
      (.exit 0)))) (
    .seq (
     .block 1 (
      .seq (
       .region true [⟨(some 24), (.mv (.tmp 1)), none⟩,
         ⟨(some 25), (.mv (.tmp 7)), none⟩,
         ⟨(some 26), (.idxAddr 2 (.tmp 24) (.tmp 25)), none⟩,
         ⟨(some 27), (.idxArrAddr 2 1 (.tmp 26) (.cst (.d (.int .i64 0)))), none⟩,
         ⟨(some 28), (.load false 1 (.tmp 27)), none⟩,
         ⟨(some 29), (.mv (.tmp 1)), none⟩,
         ⟨(some 30), (.mv (.tmp 7)), none⟩,
         ⟨(some 31), (.idxAddr 2 (.tmp 29) (.tmp 30)), none⟩,
         ⟨(some 32), (.idxArrAddr 2 1 (.tmp 31) (.cst (.d (.int .i64 1)))), none⟩,
         ⟨(some 33), (.load false 1 (.tmp 32)), none⟩,
         ⟨(some 8), (.mv (.tmp 28)), none⟩,
         ⟨(some 9), (.mv (.tmp 33)), none⟩] []) (
      .seq (
       .seq (
        .region false [⟨(some 34), (.mv (.tmp 8)), none⟩,
          ⟨(some 35), (.bin .lss (.tmp 34) (.cst (.d (.int .i64 0)))), none⟩,
          ⟨(some 36), (.mv (.tmp 35)), none⟩,
          ⟨(some 37), (.mv (.tmp 9)), (some (36, false))⟩,
          ⟨(some 38), (.bin .lss (.tmp 37) (.cst (.d (.int .i64 0)))), (some (36, false))⟩,
          ⟨(some 39), (.pick (.tmp 36) (.cst (.d (.bool true))) (.tmp 38)), none⟩,
          ⟨(some 40), (.mv (.tmp 39)), none⟩,
          ⟨(some 41), (.mv (.tmp 8)), (some (40, false))⟩,
          ⟨(some 42), (.mv (.tmp 0)), (some (40, false))⟩,
          ⟨(some 43), (.bin .geq (.tmp 41) (.tmp 42)), (some (40, false))⟩,
          ⟨(some 44), (.pick (.tmp 40) (.cst (.d (.bool true))) (.tmp 43)), none⟩,
          ⟨(some 45), (.mv (.tmp 44)), none⟩,
          ⟨(some 46), (.mv (.tmp 9)), (some (45, false))⟩,
          ⟨(some 47), (.mv (.tmp 0)), (some (45, false))⟩,
          ⟨(some 48), (.bin .geq (.tmp 46) (.tmp 47)), (some (45, false))⟩,
          ⟨(some 49), (.pick (.tmp 45) (.cst (.d (.bool true))) (.tmp 48)), none⟩] []) (
       .cond (.tmp 49) (
        .seq (
         .region false [⟨(some 4), (.mv (.cst (.d (.list [] true)))), none⟩, ⟨(some 5), (.mv (.cst (.d (.int .i64 2)))), none⟩] []) (
        .ret)) (
        .skip))) (
      .region false [⟨(some 50), (.mv (.tmp 6)), none⟩,
        ⟨(some 51), (.mv (.tmp 8)), none⟩,
        ⟨(some 52), (.mv (.tmp 9)), none⟩,
        ⟨(some 53), (.call 0 false (.cst (.d (.fn n_ref02_Put))) [(.tmp 50), (.tmp 51), (.tmp 52)]), none⟩] [])))) (
    .region false [⟨(some 22), (.mv (.tmp 7)), none⟩,
      ⟨(some 23), (.bin .add (.tmp 22) (.cst (.d (.int .i64 1)))), none⟩,
      ⟨(some 7), (.mv (.tmp 23)), none⟩] [])))))) (
 .seq (
  .region false [⟨(some 54), (.mv (.tmp 6)), none⟩,
    ⟨(some 4), (.mv (.tmp 54)), none⟩,
    ⟨(some 5), (.mv (.cst (.d (.int .i64 0)))), none⟩] []) (
 .ret)))))
def R_ref02_Of : List LRes := [(.tmp 4), (.tmp 5)]
def V_ref02_Of : List Nat := [0, 15, 7, 1, 21, 8, 9, 49, 6, 4, 5]

def L_ref02_Same : LCode :=
 .seq (
  .region false [⟨(some 4), (.mv (.cst (.d (.bool false)))), none⟩] []) (
 .seq (
  .seq (
   .region false [⟨(some 6), (.mv (.tmp 0)), none⟩,
     ⟨(some 7), (.len (.tmp 6)), none⟩,
     ⟨(some 8), (.mv (.tmp 1)), none⟩,
     ⟨(some 9), (.len (.tmp 8)), none⟩,
     ⟨(some 10), (.bin .neq (.tmp 7) (.tmp 9)), none⟩] []) (
  .cond (.tmp 10) (
   .seq (
    .region false [⟨(some 4), (.mv (.cst (.d (.bool false)))), none⟩] []) (
   .ret)) (
   .skip))) (
 .seq (
  .seq (
   .region false [⟨(some 5), (.mv (.cst (.d (.int .i64 0)))), none⟩] []) (
  .block 0 (
   .loop (
    .seq (
     .seq (
      .region false [⟨(some 11), (.mv (.tmp 5)), none⟩,
        ⟨(some 12), (.mv (.tmp 0)), none⟩,
        ⟨(some 13), (.len (.tmp 12)), none⟩,
        ⟨(some 14), (.bin .lss (.tmp 11) (.tmp 13)), none⟩] []) (
     .cond (.tmp 14) (
      .skip) (
      (.exit 0)))) (
    .seq (
     .block 1 (
      .seq (
       .region true [⟨(some 17), (.mv (.tmp 0)), none⟩,
         ⟨(some 18), (.mv (.tmp 5)), none⟩,
         ⟨(some 19), (.idxAddr 1 (.tmp 17) (.tmp 18)), none⟩,
         ⟨(some 20), (.load false 1 (.tmp 19)), none⟩,
         ⟨(some 21), (.mv (.tmp 1)), none⟩,
         ⟨(some 22), (.mv (.tmp 5)), none⟩,
         ⟨(some 23), (.idxAddr 1 (.tmp 21) (.tmp 22)), none⟩,
         ⟨(some 24), (.load false 1 (.tmp 23)), none⟩,
         ⟨(some 25), (.bin .neq (.tmp 20) (.tmp 24)), none⟩] []) (
      .cond (.tmp 25) (
       .seq (
        .region false [⟨(some 4), (.mv (.cst (.d (.bool false)))), none⟩] []) (
       .ret)) (
       .skip)))) (
    .region false [⟨(some 15), (.mv (.tmp 5)), none⟩,
      ⟨(some 16), (.bin .add (.tmp 15) (.cst (.d (.int .i64 1)))), none⟩,
      ⟨(some 5), (.mv (.tmp 16)), none⟩] [])))))) (
 .seq (
  .region false [⟨(some 4), (.mv (.cst (.d (.bool true)))), none⟩] []) (
 .ret))))
def R_ref02_Same : List LRes := [(.tmp 4)]
def V_ref02_Same : List Nat := [0, 1, 10, 5, 14, 25, 4]

def L_ref02_Copy : LCode :=
 .seq (
  .region false [⟨(some 2), (.mv (.cst (.d (.list [] true)))), none⟩] []) (
 .seq (
  .region false [⟨(some 3), (.mv (.cst (.d (.list [] true)))), none⟩,
    ⟨(some 4), (.mv (.tmp 0)), none⟩,
    ⟨(some 5), (.append 0 1 8 (.tmp 3) (.tmp 4)), none⟩,
    ⟨(some 2), (.mv (.tmp 5)), none⟩] []) (
 .ret))
def R_ref02_Copy : List LRes := [(.tmp 2)]
def V_ref02_Copy : List Nat := [0, 2]

def L_ref02_Lay (n_ref02_Has : Nat) (n_ref02_Put : Nat) (n_ref02_most : Nat) : LCode :=
 .seq (
  .region false [⟨(some 6), (.mv (.cst (.d (.list [] true)))), none⟩] []) (
 .seq (
  .region false [⟨(some 13), (.mv (.tmp 0)), none⟩,
    ⟨(some 14), (.mv (.tmp 1)), none⟩,
    ⟨(some 15), (.call 0 false (.cst (.d (.fn n_ref02_most))) [(.tmp 13), (.tmp 14)]), none⟩,
    ⟨(some 7), (.mv (.tmp 15)), none⟩] []) (
 .seq (
  .region false [⟨(some 16), (.mv (.tmp 7)), none⟩,
    ⟨(some 17), (.mkslice 0 1 8 [(.d (.int .u64 0))] (.tmp 16) (.tmp 16)), none⟩,
    ⟨(some 8), (.mv (.tmp 17)), none⟩] []) (
 .seq (
  .seq (
   .region false [⟨(some 9), (.mv (.cst (.d (.int .i64 0)))), none⟩] []) (
  .block 0 (
   .loop (
    .seq (
     .seq (
      .region false [⟨(some 18), (.mv (.tmp 9)), none⟩,
        ⟨(some 19), (.mv (.tmp 7)), none⟩,
        ⟨(some 20), (.bin .lss (.tmp 18) (.tmp 19)), none⟩] []) (
     .cond (.tmp 20) (
      .skip) (
      (.exit 0)))) (
    .seq (
     .block 1 (
      .seq (
       .region false [⟨(some 10), (.mv (.cst (.d (.int .i64 0)))), none⟩] []) (
      .block 2 (
       .loop (
        .seq (
         .seq (
          .region false [⟨(some 23), (.mv (.tmp 10)), none⟩,
            ⟨(some 24), (.mv (.tmp 7)), none⟩,
            ⟨(some 25), (.bin .lss (.tmp 23) (.tmp 24)), none⟩] []) (
         .cond (.tmp 25) (
          .skip) (
          (.exit 2)))) (
        .seq (
         .block 3 (
          .seq (
           .region false [⟨(some 28), (.mv (.tmp 0)), none⟩,
             ⟨(some 29), (.mv (.tmp 9)), none⟩,
             ⟨(some 30), (.mv (.tmp 10)), none⟩,
             ⟨(some 31), (.call 0 false (.cst (.d (.fn n_ref02_Has))) [(.tmp 28), (.tmp 29), (.tmp 30)]), none⟩,
             ⟨(some 32), (.mv (.tmp 1)), none⟩,
             ⟨(some 33), (.mv (.tmp 9)), none⟩,
             ⟨(some 34), (.mv (.tmp 10)), none⟩,
             ⟨(some 35), (.call 0 false (.cst (.d (.fn n_ref02_Has))) [(.tmp 32), (.tmp 33), (.tmp 34)]), none⟩,
             ⟨(some 11), (.mv (.tmp 31)), none⟩,
             ⟨(some 12), (.mv (.tmp 35)), none⟩] []) (
          .seq (
           .region false [⟨(some 36), (.mv (.tmp 2)), none⟩,
             ⟨(some 37), (.bin .eql (.tmp 36) (.cst (.d (.int .i64 0)))), none⟩,
             ⟨(some 38), (.mv (.tmp 37)), none⟩,
             ⟨(some 39), (.mv (.tmp 11)), (some (38, true))⟩,
             ⟨(some 40), (.mv (.tmp 39)), (some (38, true))⟩,
             ⟨(some 41), (.mv (.tmp 12)), (some (40, false))⟩,
             ⟨(some 42), (.pick (.tmp 40) (.cst (.d (.bool true))) (.tmp 41)), (some (38, true))⟩,
             ⟨(some 43), (.pick (.tmp 38) (.tmp 42) (.cst (.d (.bool false)))), none⟩,
             ⟨(some 44), (.mv (.tmp 43)), none⟩,
             ⟨(some 45), (.mv (.tmp 2)), (some (44, false))⟩,
             ⟨(some 46), (.bin .eql (.tmp 45) (.cst (.d (.int .i64 1)))), (some (44, false))⟩,
             ⟨(some 47), (.mv (.tmp 46)), (some (44, false))⟩,
             ⟨(some 48), (.mv (.tmp 11)), (some (47, true))⟩,
             ⟨(some 49), (.pick (.tmp 47) (.tmp 48) (.cst (.d (.bool false)))), (some (44, false))⟩,
             ⟨(some 50), (.mv (.tmp 49)), (some (44, false))⟩,
             ⟨(some 51), (.mv (.tmp 12)), (some (50, true))⟩,
             ⟨(some 52), (.pick (.tmp 50) (.tmp 51) (.cst (.d (.bool false)))), (some (44, false))⟩,
             ⟨(some 53), (.pick (.tmp 44) (.cst (.d (.bool true))) (.tmp 52)), none⟩,
             ⟨(some 54), (.mv (.tmp 53)), none⟩,
             ⟨(some 55), (.mv (.tmp 2)), (some (54, false))⟩,
             ⟨(some 56), (.bin .eql (.tmp 55) (.cst (.d (.int .i64 2)))), (some (54, false))⟩,
             ⟨(some 57), (.mv (.tmp 56)), (some (54, false))⟩,
             ⟨(some 58), (.mv (.tmp 11)), (some (57, true))⟩,
             ⟨(some 59), (.pick (.tmp 57) (.tmp 58) (.cst (.d (.bool false)))), (some (54, false))⟩,
             ⟨(some 60), (.mv (.tmp 59)), (some (54, false))⟩,
             ⟨(some 61), (.mv (.tmp 12)), (some (60, true))⟩,
             ⟨(some 62), (.un .not (.tmp 61)), (some (60, true))⟩,
             ⟨(some 63), (.pick (.tmp 60) (.tmp 62) (.cst (.d (.bool false)))), (some (54, false))⟩,
             ⟨(some 64), (.pick (.tmp 54) (.cst (.d (.bool true))) (.tmp 63)), none⟩] []) (
          .cond (.tmp 64) (
           .region false [⟨(some 65), (.mv (.tmp 8)), none⟩,
             ⟨(some 66), (.mv (.tmp 9)), none⟩,
             ⟨(some 67), (.mv (.tmp 10)), none⟩,
             ⟨(some 68), (.call 0 false (.cst (.d (.fn n_ref02_Put))) [(.tmp 65), (.tmp 66), (.tmp 67)]), none⟩] []) (
           .skip))))) (
        .region false [⟨(some 26), (.mv (.tmp 10)), none⟩,
          ⟨(some 27), (.bin .add (.tmp 26) (.cst (.d (.int .i64 1)))), none⟩,
          ⟨(some 10), (.mv (.tmp 27)), none⟩] []))))))) (
    .region false [⟨(some 21), (.mv (.tmp 9)), none⟩,
      ⟨(some 22), (.bin .add (.tmp 21) (.cst (.d (.int .i64 1)))), none⟩,
      ⟨(some 9), (.mv (.tmp 22)), none⟩] [])))))) (
 .seq (
  .region false [⟨(some 69), (.mv (.tmp 8)), none⟩, ⟨(some 6), (.mv (.tmp 69)), none⟩] []) (
 .ret)))))
def R_ref02_Lay : List LRes := [(.tmp 6)]
def V_ref02_Lay : List Nat := [0, 1, 7, 9, 20, 10, 25, 2, 11, 12, 64, 8, 6]

def L_ref02_Then (n_ref02_Has : Nat) (n_ref02_Put : Nat) (n_ref02_most : Nat) : LCode :=
 .seq (
  .region false [⟨(some 4), (.mv (.cst (.d (.list [] true)))), none⟩] []) (
 .seq (
  .region false [⟨(some 10), (.mv (.tmp 0)), none⟩,
    ⟨(some 11), (.mv (.tmp 1)), none⟩,
    ⟨(some 12), (.call 0 false (.cst (.d (.fn n_ref02_most))) [(.tmp 10), (.tmp 11)]), none⟩,
    ⟨(some 5), (.mv (.tmp 12)), none⟩] []) (
 .seq (
  .region false [⟨(some 13), (.mv (.tmp 5)), none⟩,
    ⟨(some 14), (.mkslice 0 1 8 [(.d (.int .u64 0))] (.tmp 13) (.tmp 13)), none⟩,
    ⟨(some 6), (.mv (.tmp 14)), none⟩] []) (
 .seq (
  .seq (
   .region false [⟨(some 7), (.mv (.cst (.d (.int .i64 0)))), none⟩] []) (
  .block 0 (
   .loop (
    .seq (
     .seq (
      .region false [⟨(some 15), (.mv (.tmp 7)), none⟩,
        ⟨(some 16), (.mv (.tmp 5)), none⟩,
        ⟨(some 17), (.bin .lss (.tmp 15) (.tmp 16)), none⟩] []) (
     .cond (.tmp 17) (
      .skip) (
      (.exit 0)))) (
    .seq (
     .block 1 (
      .seq (
       .region false [⟨(some 8), (.mv (.cst (.d (.int .i64 0)))), none⟩] []) (
      .block 2 (
       .loop (
        .seq (
         .seq (
          .region false [⟨(some 20), (.mv (.tmp 8)), none⟩,
            ⟨(some 21), (.mv (.tmp 5)), none⟩,
            ⟨(some 22), (.bin .lss (.tmp 20) (.tmp 21)), none⟩] []) (
         .cond (.tmp 22) (
          .skip) (
          (.exit 2)))) (
        .seq (
         .block 3 (
          .seq (
           .seq (
            .region false [⟨(some 25), (.mv (.tmp 0)), none⟩,
              ⟨(some 26), (.mv (.tmp 7)), none⟩,
              ⟨(some 27), (.mv (.tmp 8)), none⟩,
              ⟨(some 28), (.call 0 false (.cst (.d (.fn n_ref02_Has))) [(.tmp 25), (.tmp 26), (.tmp 27)]), none⟩,
              ⟨(some 29), (.un .not (.tmp 28)), none⟩] []) (
           .cond (.tmp 29) (
            (.exit 3)) (
            .skip))) (
          .seq (
           .region false [⟨(some 9), (.mv (.cst (.d (.int .i64 0)))), none⟩] []) (
          .block 4 (
           .loop (
            .seq (
             .seq (
              .region false [⟨(some 30), (.mv (.tmp 9)), none⟩,
                ⟨(some 31), (.mv (.tmp 5)), none⟩,
                ⟨(some 32), (.bin .lss (.tmp 30) (.tmp 31)), none⟩] []) (
             .cond (.tmp 32) (
              .skip) (
              (.exit 4)))) (
            .seq (
             .block 5 (
              .seq (
               .region false [⟨(some 35), (.mv (.tmp 1)), none⟩,
                 ⟨(some 36), (.mv (.tmp 8)), none⟩,
                 ⟨(some 37), (.mv (.tmp 9)), none⟩,
                 ⟨(some 38), (.call 0 false (.cst (.d (.fn n_ref02_Has))) [(.tmp 35), (.tmp 36), (.tmp 37)]), none⟩] []) (
              .cond (.tmp 38) (
               .region false [⟨(some 39), (.mv (.tmp 6)), none⟩,
                 ⟨(some 40), (.mv (.tmp 7)), none⟩,
                 ⟨(some 41), (.mv (.tmp 9)), none⟩,
                 ⟨(some 42), (.call 0 false (.cst (.d (.fn n_ref02_Put))) [(.tmp 39), (.tmp 40), (.tmp 41)]), none⟩] []) (
               .skip)))) (
            .region false [⟨(some 33), (.mv (.tmp 9)), none⟩,
              ⟨(some 34), (.bin .add (.tmp 33) (.cst (.d (.int .i64 1)))), none⟩,
              ⟨(some 9), (.mv (.tmp 34)), none⟩] [])))))))) (
        .region false [⟨(some 23), (.mv (.tmp 8)), none⟩,
          ⟨(some 24), (.bin .add (.tmp 23) (.cst (.d (.int .i64 1)))), none⟩,
          ⟨(some 8), (.mv (.tmp 24)), none⟩] []))))))) (
    .region false [⟨(some 18), (.mv (.tmp 7)), none⟩,
      ⟨(some 19), (.bin .add (.tmp 18) (.cst (.d (.int .i64 1)))), none⟩,
      ⟨(some 7), (.mv (.tmp 19)), none⟩] [])))))) (
 .seq (
  .region false [⟨(some 43), (.mv (.tmp 6)), none⟩, ⟨(some 4), (.mv (.tmp 43)), none⟩] []) (
 .ret)))))
def R_ref02_Then : List LRes := [(.tmp 4)]
def V_ref02_Then : List Nat := [0, 1, 5, 7, 17, 8, 22, 29, 9, 32, 38, 6, 4]

def L_ref02_Has (n_ref02_Size : Nat) : LCode :=
 .seq (
  .region false [⟨(some 6), (.mv (.cst (.d (.bool false)))), none⟩] []) (
 .seq (
  .region false [⟨(some 8), (.mv (.tmp 0)), none⟩,
    ⟨(some 9), (.call 0 false (.cst (.d (.fn n_ref02_Size))) [(.tmp 8)]), none⟩,
    ⟨(some 7), (.mv (.tmp 9)), none⟩] []) (
 .seq (
  .seq (
   .region false [⟨(some 10), (.mv (.tmp 1)), none⟩,
     ⟨(some 11), (.bin .lss (.tmp 10) (.cst (.d (.int .i64 0)))), none⟩,
     ⟨(some 12), (.mv (.tmp 11)), none⟩,
     ⟨(some 13), (.mv (.tmp 1)), (some (12, false))⟩,
     ⟨(some 14), (.mv (.tmp 7)), (some (12, false))⟩,
     ⟨(some 15), (.bin .geq (.tmp 13) (.tmp 14)), (some (12, false))⟩,
     ⟨(some 16), (.pick (.tmp 12) (.cst (.d (.bool true))) (.tmp 15)), none⟩,
     ⟨(some 17), (.mv (.tmp 16)), none⟩,
     ⟨(some 18), (.mv (.tmp 2)), (some (17, false))⟩,
     ⟨(some 19), (.bin .lss (.tmp 18) (.cst (.d (.int .i64 0)))), (some (17, false))⟩,
     ⟨(some 20), (.pick (.tmp 17) (.cst (.d (.bool true))) (.tmp 19)), none⟩,
     ⟨(some 21), (.mv (.tmp 20)), none⟩,
     ⟨(some 22), (.mv (.tmp 2)), (some (21, false))⟩,
     ⟨(some 23), (.mv (.tmp 7)), (some (21, false))⟩,
     ⟨(some 24), (.bin .geq (.tmp 22) (.tmp 23)), (some (21, false))⟩,
     ⟨(some 25), (.pick (.tmp 21) (.cst (.d (.bool true))) (.tmp 24)), none⟩] []) (
  .cond (.tmp 25) (
   .seq (
    .region false [⟨(some 6), (.mv (.cst (.d (.bool false)))), none⟩] []) (
   .ret)) (
   .skip))) (
 .seq (
  .region false [⟨(some 26), (.mv (.tmp 0)), none⟩,
    ⟨(some 27), (.mv (.tmp 1)), none⟩,
    ⟨(some 28), (.idxAddr 1 (.tmp 26) (.tmp 27)), none⟩,
    ⟨(some 29), (.load false 1 (.tmp 28)), none⟩,
    ⟨(some 30), (.mv (.tmp 2)), none⟩,
    ⟨(some 31), (.conv .u64 (.tmp 30)), none⟩,
    ⟨(some 32), (.bin .shl (.cst (.d (.int .u64 1))) (.tmp 31)), none⟩,
    ⟨(some 33), (.bin .quo (.tmp 29) (.tmp 32)), none⟩,
    ⟨(some 34), (.bin .rem (.tmp 33) (.cst (.d (.int .u64 2)))), none⟩,
    ⟨(some 35), (.bin .eql (.tmp 34) (.cst (.d (.int .u64 1)))), none⟩,
    ⟨(some 6), (.mv (.tmp 35)), none⟩] []) (
 .ret))))
def R_ref02_Has : List LRes := [(.tmp 6)]
def V_ref02_Has : List Nat := [0, 1, 7, 2, 25, 6]

def L_ref02_Back (n_ref02_Has : Nat) (n_ref02_Put : Nat) (n_ref02_Size : Nat) : LCode :=
 .seq (
  .region false [⟨(some 2), (.mv (.cst (.d (.list [] true)))), none⟩] []) (
 .seq (
  .region false [⟨(some 7), (.mv (.tmp 0)), none⟩,
    ⟨(some 8), (.call 0 false (.cst (.d (.fn n_ref02_Size))) [(.tmp 7)]), none⟩,
    ⟨(some 3), (.mv (.tmp 8)), none⟩] []) (
 .seq (
  .region false [⟨(some 9), (.mv (.tmp 3)), none⟩,
    ⟨(some 10), (.mkslice 0 1 8 [(.d (.int .u64 0))] (.tmp 9) (.tmp 9)), none⟩,
    ⟨(some 4), (.mv (.tmp 10)), none⟩] []) (
 .seq (
  .seq (
   .region false [⟨(some 5), (.mv (.cst (.d (.int .i64 0)))), none⟩] []) (
  .block 0 (
   .loop (
    .seq (
     .seq (
      .region false [⟨(some 11), (.mv (.tmp 5)), none⟩,
        ⟨(some 12), (.mv (.tmp 3)), none⟩,
        ⟨(some 13), (.bin .lss (.tmp 11) (.tmp 12)), none⟩] []) (
     .cond (.tmp 13) (
      .skip) (
      (.exit 0)))) (
    .seq (
     .block 1 (
      .seq (
       .region false [⟨(some 6), (.mv (.cst (.d (.int .i64 0)))), none⟩] []) (
      .block 2 (
       .loop (
        .seq (
         .seq (
          .region false [⟨(some 16), (.mv (.tmp 6)), none⟩,
            ⟨(some 17), (.mv (.tmp 3)), none⟩,
            ⟨(some 18), (.bin .lss (.tmp 16) (.tmp 17)), none⟩] []) (
         .cond (.tmp 18) (
          .skip) (
          (.exit 2)))) (
        .seq (
         .block 3 (
          .seq (
           .region false [⟨(some 21), (.mv (.tmp 0)), none⟩,
             ⟨(some 22), (.mv (.tmp 5)), none⟩,
             ⟨(some 23), (.mv (.tmp 6)), none⟩,
             ⟨(some 24), (.call 0 false (.cst (.d (.fn n_ref02_Has))) [(.tmp 21), (.tmp 22), (.tmp 23)]), none⟩] []) (
          .cond (.tmp 24) (
           .region false [⟨(some 25), (.mv (.tmp 4)), none⟩,
             ⟨(some 26), (.mv (.tmp 6)), none⟩,
             ⟨(some 27), (.mv (.tmp 5)), none⟩,
             ⟨(some 28), (.call 0 false (.cst (.d (.fn n_ref02_Put))) [(.tmp 25), (.tmp 26), (.tmp 27)]), none⟩] []) (
           .skip)))) (
        .region false [⟨(some 19), (.mv (.tmp 6)), none⟩,
          ⟨(some 20), (.bin .add (.tmp 19) (.cst (.d (.int .i64 1)))), none⟩,
          ⟨(some 6), (.mv (.tmp 20)), none⟩] []))))))) (
    .region false [⟨(some 14), (.mv (.tmp 5)), none⟩,
      ⟨(some 15), (.bin .add (.tmp 14) (.cst (.d (.int .i64 1)))), none⟩,
      ⟨(some 5), (.mv (.tmp 15)), none⟩] [])))))) (
 .seq (
  .region false [⟨(some 29), (.mv (.tmp 4)), none⟩, ⟨(some 2), (.mv (.tmp 29)), none⟩] []) (
 .ret)))))
def R_ref02_Back : List LRes := [(.tmp 2)]
def V_ref02_Back : List Nat := [0, 3, 5, 13, 6, 18, 24, 4, 2]

def L_ref02_Order (n_ref02_Has : Nat) (n_ref02_Size : Nat) : LCode :=
 .seq (
  .region false [⟨(some 2), (.mv (.cst (.d (.list [] true)))), none⟩, ⟨(some 3), (.mv (.cst (.d (.bool false)))), none⟩] []) (
 .seq (
  .region false [⟨(some 11), (.mv (.tmp 0)), none⟩,
    ⟨(some 12), (.call 0 false (.cst (.d (.fn n_ref02_Size))) [(.tmp 11)]), none⟩,
    ⟨(some 4), (.mv (.tmp 12)), none⟩] []) (
 .seq (
  .region false [⟨(some 5), (.mv (.cst (.d (.list [] true)))), none⟩] []) (
 .seq (
  .region false [⟨(some 13), (.mv (.tmp 4)), none⟩,
    ⟨(some 14), (.mkslice 0 1 1 [(.d (.bool false))] (.tmp 13) (.tmp 13)), none⟩,
    ⟨(some 6), (.mv (.tmp 14)), none⟩] []) (
 .seq (
  .block 0 (
   .loop (
    .seq (
     .seq (
      .region false [⟨(some 15), (.mv (.tmp 5)), none⟩,
        ⟨(some 16), (.len (.tmp 15)), none⟩,
        ⟨(some 17), (.mv (.tmp 4)), none⟩,
        ⟨(some 18), (.bin .lss (.tmp 16) (.tmp 17)), none⟩] []) (
     .cond (.tmp 18) (
      .skip) (
      (.exit 0)))) (
    .block 1 (
     .seq (
      .region false [⟨(some 7), (.mv (.cst (.d (.int .i64 (-1))))), none⟩] []) (
     .seq (
      .seq (
       .region false [⟨(some 19), (.mv (.tmp 4)), none⟩,
         ⟨(some 20), (.bin .sub (.tmp 19) (.cst (.d (.int .i64 1)))), none⟩,
         ⟨(some 8), (.mv (.tmp 20)), none⟩] []) (
      .block 2 (
       .loop (
        .seq (
         .seq (
          .region false [⟨(some 21), (.mv (.tmp 8)), none⟩, ⟨(some 22), (.bin .geq (.tmp 21) (.cst (.d (.int .i64 0)))), none⟩] []) (
         .cond (.tmp 22) (
          .skip) (
          (.exit 2)))) (
        .seq (
         .block 3 (
          .seq (
           .region false [⟨(some 25), (.mv (.tmp 6)), none⟩,
             ⟨(some 26), (.mv (.tmp 8)), none⟩,
             ⟨(some 27), (.idxAddr 1 (.tmp 25) (.tmp 26)), none⟩,
             ⟨(some 28), (.load false 1 (.tmp 27)), none⟩,
             ⟨(some 29), (.un .not (.tmp 28)), none⟩,
             ⟨(some 9), (.mv (.tmp 29)), none⟩] []) (
          .seq (
           .seq (
            .region false [⟨(some 10), (.mv (.cst (.d (.int .i64 0)))), none⟩] []) (
           .block 4 (
            .loop (
             .seq (
              .seq (
               .region false [⟨(some 30), (.mv (.tmp 10)), none⟩,
                 ⟨(some 31), (.mv (.tmp 4)), none⟩,
                 ⟨(some 32), (.bin .lss (.tmp 30) (.tmp 31)), none⟩] []) (
              .cond (.tmp 32) (
               .skip) (
               (.exit 4)))) (
             .seq (
              .block 5 (
               .seq (
                .region false [⟨(some 35), (.mv (.tmp 6)), none⟩,
                  ⟨(some 36), (.mv (.tmp 10)), none⟩,
                  ⟨(some 37), (.idxAddr 1 (.tmp 35) (.tmp 36)), none⟩,
                  ⟨(some 38), (.load false 1 (.tmp 37)), none⟩,
                  ⟨(some 39), (.un .not (.tmp 38)), none⟩,
                  ⟨(some 40), (.mv (.tmp 39)), none⟩,
                  ⟨(some 41), (.mv (.tmp 0)), (some (40, true))⟩,
                  ⟨(some 42), (.mv (.tmp 10)), (some (40, true))⟩,
                  ⟨(some 43), (.mv (.tmp 8)), (some (40, true))⟩,
                  ⟨(some 44), (.call 0 false (.cst (.d (.fn n_ref02_Has))) [(.tmp 41), (.tmp 42), (.tmp 43)]), (some (40, true))⟩,
                  ⟨(some 45), (.pick (.tmp 40) (.tmp 44) (.cst (.d (.bool false)))), none⟩] []) (
               .cond (.tmp 45) (
                .region false [⟨(some 9), (.mv (.cst (.d (.bool false)))), none⟩] []) (
                .skip)))) (
             .region false [⟨(some 33), (.mv (.tmp 10)), none⟩,
               ⟨(some 34), (.bin .add (.tmp 33) (.cst (.d (.int .i64 1)))), none⟩,
               ⟨(some 10), (.mv (.tmp 34)), none⟩] [])))))) (
          .seq (
           .region false [⟨(some 46), (.mv (.tmp 9)), none⟩] []) (
          .cond (.tmp 46) (
           .region false [⟨(some 47), (.mv (.tmp 8)), none⟩, ⟨(some 7), (.mv (.tmp 47)), none⟩] []) (
           .skip)))))) (
        .region false [⟨(some 23), (.mv (.tmp 8)), none⟩,
          ⟨(some 24), (.bin .sub (.tmp 23) (.cst (.d (.int .i64 1)))), none⟩,
          ⟨(some 8), (.mv (.tmp 24)), none⟩] [])))))) (
     .seq (
      .seq (
       .region false [⟨(some 48), (.mv (.tmp 7)), none⟩, ⟨(some 49), (.bin .lss (.tmp 48) (.cst (.d (.int .i64 0)))), none⟩] []) (
      .cond (.tmp 49) (
       .seq (
        .region false [⟨(some 2), (.mv (.cst (.d (.list [] true)))), none⟩, ⟨(some 3), (.mv (.cst (.d (.bool false)))), none⟩] []) (
       .ret)) (
       .skip))) (
     .seq (
      .region false [⟨(some 50), (.mv (.tmp 6)), none⟩,
        ⟨(some 51), (.mv (.tmp 7)), none⟩,
        ⟨(some 52), (.idxAddr 1 (.tmp 50) (.tmp 51)), none⟩,
        ⟨none, (.store 1 (.tmp 52) (.cst (.d (.bool true)))), none⟩] []) (
     .region false [⟨(some 53), (.mv (.tmp 5)), none⟩,
       ⟨(some 54), (.mv (.tmp 7)), none⟩,
       ⟨(some 55), (.bslice 0 1 1 [(.d (.int .i64 0))] [(0, (.tmp 54))]), none⟩,
       ⟨(some 56), (.append 1 1 8 (.tmp 53) (.tmp 55)), none⟩,
       ⟨(some 5), (.mv (.tmp 56)), none⟩] []))))))))) (
 .seq (
  .region false [⟨(some 57), (.mv (.tmp 5)), none⟩,
    ⟨(some 2), (.mv (.tmp 57)), none⟩,
    ⟨(some 3), (.mv (.cst (.d (.bool true)))), none⟩] []) (
 .ret))))))
def R_ref02_Order : List LRes := [(.tmp 2), (.tmp 3)]
def V_ref02_Order : List Nat := [0, 4, 5, 18, 8, 22, 6, 10, 32, 45, 9, 46, 7, 49, 2, 3]

def L_ref02_Plus (n_ref02_Has : Nat) (n_ref02_Put : Nat) (n_ref02_Size : Nat) : LCode :=
 .seq (
  .region false [⟨(some 2), (.mv (.cst (.d (.list [] true)))), none⟩] []) (
 .seq (
  .region false [⟨(some 10), (.mv (.tmp 0)), none⟩,
    ⟨(some 11), (.call 0 false (.cst (.d (.fn n_ref02_Size))) [(.tmp 10)]), none⟩,
    ⟨(some 3), (.mv (.tmp 11)), none⟩] []) (
 .seq (
  .region false [⟨(some 12), (.mv (.tmp 3)), none⟩,
    ⟨(some 13), (.mkslice 0 1 8 [(.d (.int .u64 0))] (.tmp 12) (.tmp 12)), none⟩,
    ⟨(some 4), (.mv (.tmp 13)), none⟩] []) (
 .seq (
  .seq (
   .region false [⟨(some 5), (.mv (.cst (.d (.int .i64 0)))), none⟩] []) (
  .block 0 (
   .loop (
    .seq (
     .seq (
      .region false [⟨(some 14), (.mv (.tmp 5)), none⟩,
        ⟨(some 15), (.mv (.tmp 3)), none⟩,
        ⟨(some 16), (.bin .lss (.tmp 14) (.tmp 15)), none⟩] []) (
     .cond (.tmp 16) (
      .skip) (
      (.exit 0)))) (
    .seq (
     .block 1 (
      .seq (
       .region false [⟨(some 6), (.mv (.cst (.d (.list [] true)))), none⟩] []) (
      .seq (
       .seq (
        .region false [⟨(some 7), (.mv (.cst (.d (.int .i64 0)))), none⟩] []) (
       .block 2 (
        .loop (
         .seq (
          .seq (
           .region false [⟨(some 19), (.mv (.tmp 7)), none⟩,
             ⟨(some 20), (.mv (.tmp 3)), none⟩,
             ⟨(some 21), (.bin .lss (.tmp 19) (.tmp 20)), none⟩] []) (
          .cond (.tmp 21) (
           .skip) (
           (.exit 2)))) (
         .seq (
          .block 3 (
           .seq (
            .region false [⟨(some 24), (.mv (.tmp 0)), none⟩,
              ⟨(some 25), (.mv (.tmp 5)), none⟩,
              ⟨(some 26), (.mv (.tmp 7)), none⟩,
              ⟨(some 27), (.call 0 false (.cst (.d (.fn n_ref02_Has))) [(.tmp 24), (.tmp 25), (.tmp 26)]), none⟩] []) (
           .cond (.tmp 27) (
            .seq (
             .region false [⟨(some 28), (.mv (.tmp 4)), none⟩,
               ⟨(some 29), (.mv (.tmp 5)), none⟩,
               ⟨(some 30), (.mv (.tmp 7)), none⟩,
               ⟨(some 31), (.call 0 false (.cst (.d (.fn n_ref02_Put))) [(.tmp 28), (.tmp 29), (.tmp 30)]), none⟩] []) (
            .region false [⟨(some 32), (.mv (.tmp 6)), none⟩,
              ⟨(some 33), (.mv (.tmp 7)), none⟩,
              ⟨(some 34), (.bslice 0 1 1 [(.d (.int .i64 0))] [(0, (.tmp 33))]), none⟩,
              ⟨(some 35), (.append 1 1 8 (.tmp 32) (.tmp 34)), none⟩,
              ⟨(some 6), (.mv (.tmp 35)), none⟩] [])) (
            .skip)))) (
         .region false [⟨(some 22), (.mv (.tmp 7)), none⟩,
           ⟨(some 23), (.bin .add (.tmp 22) (.cst (.d (.int .i64 1)))), none⟩,
           ⟨(some 7), (.mv (.tmp 23)), none⟩] [])))))) (
      .block 4 (
       .loop (
        .seq (
         .seq (
          .region false [⟨(some 36), (.mv (.tmp 6)), none⟩,
            ⟨(some 37), (.len (.tmp 36)), none⟩,
            ⟨(some 38), (.bin .gtr (.tmp 37) (.cst (.d (.int .i64 0)))), none⟩] []) (
         .cond (.tmp 38) (
          .skip) (
          (.exit 4)))) (
        .block 5 (
         .seq (
          .region false [⟨(some 39), (.mv (.tmp 6)), none⟩,
            ⟨(some 40), (.idxAddr 1 (.tmp 39) (.cst (.d (.int .i64 0)))), none⟩,
            ⟨(some 41), (.load false 1 (.tmp 40)), none⟩,
            ⟨(some 8), (.mv (.tmp 41)), none⟩] []) (
         .seq (
          .region false [⟨(some 42), (.mv (.tmp 6)), none⟩,
            ⟨(some 43), (.slice 1 (.tmp 42) (some (.cst (.d (.int .i64 1)))) none none), none⟩,
            ⟨(some 6), (.mv (.tmp 43)), none⟩] []) (
         .seq (
          .region false [⟨(some 9), (.mv (.cst (.d (.int .i64 0)))), none⟩] []) (
         .block 6 (
          .loop (
           .seq (
            .seq (
             .region false [⟨(some 44), (.mv (.tmp 9)), none⟩,
               ⟨(some 45), (.mv (.tmp 3)), none⟩,
               ⟨(some 46), (.bin .lss (.tmp 44) (.tmp 45)), none⟩] []) (
            .cond (.tmp 46) (
             .skip) (
             (.exit 6)))) (
           .seq (
            .block 7 (
             .seq (
              .region false [⟨(some 49), (.mv (.tmp 0)), none⟩,
                ⟨(some 50), (.mv (.tmp 8)), none⟩,
                ⟨(some 51), (.mv (.tmp 9)), none⟩,
                ⟨(some 52), (.call 0 false (.cst (.d (.fn n_ref02_Has))) [(.tmp 49), (.tmp 50), (.tmp 51)]), none⟩,
                ⟨(some 53), (.mv (.tmp 52)), none⟩,
                ⟨(some 54), (.mv (.tmp 4)), (some (53, true))⟩,
                ⟨(some 55), (.mv (.tmp 5)), (some (53, true))⟩,
                ⟨(some 56), (.mv (.tmp 9)), (some (53, true))⟩,
                ⟨(some 57), (.call 0 false (.cst (.d (.fn n_ref02_Has))) [(.tmp 54), (.tmp 55), (.tmp 56)]), (some (53, true))⟩,
                ⟨(some 58), (.un .not (.tmp 57)), (some (53, true))⟩,
                ⟨(some 59), (.pick (.tmp 53) (.tmp 58) (.cst (.d (.bool false)))), none⟩] []) (
             .cond (.tmp 59) (
              .seq (
               .region false [⟨(some 60), (.mv (.tmp 4)), none⟩,
                 ⟨(some 61), (.mv (.tmp 5)), none⟩,
                 ⟨(some 62), (.mv (.tmp 9)), none⟩,
                 ⟨(some 63), (.call 0 false (.cst (.d (.fn n_ref02_Put))) [(.tmp 60), (.tmp 61), (.tmp 62)]), none⟩] []) (
              .region false [⟨(some 64), (.mv (.tmp 6)), none⟩,
                ⟨(some 65), (.mv (.tmp 9)), none⟩,
                ⟨(some 66), (.bslice 0 1 1 [(.d (.int .i64 0))] [(0, (.tmp 65))]), none⟩,
                ⟨(some 67), (.append 1 1 8 (.tmp 64) (.tmp 66)), none⟩,
                ⟨(some 6), (.mv (.tmp 67)), none⟩] [])) (
              .skip)))) (
           .region false [⟨(some 47), (.mv (.tmp 9)), none⟩,
             ⟨(some 48), (.bin .add (.tmp 47) (.cst (.d (.int .i64 1)))), none⟩,
             ⟨(some 9), (.mv (.tmp 48)), none⟩] []))))))))))))))) (
    .region false [⟨(some 17), (.mv (.tmp 5)), none⟩,
      ⟨(some 18), (.bin .add (.tmp 17) (.cst (.d (.int .i64 1)))), none⟩,
      ⟨(some 5), (.mv (.tmp 18)), none⟩] [])))))) (
 .seq (
  .region false [⟨(some 68), (.mv (.tmp 4)), none⟩, ⟨(some 2), (.mv (.tmp 68)), none⟩] []) (
 .ret)))))
def R_ref02_Plus : List LRes := [(.tmp 2)]
def V_ref02_Plus : List Nat := [0, 3, 5, 16, 7, 21, 27, 4, 6, 38, 9, 46, 8, 59, 2]

def L_ref02_Star (n_ref02_Plus : Nat) (n_ref02_Put : Nat) : LCode :=
 .seq (
  .region false [⟨(some 2), (.mv (.cst (.d (.list [] true)))), none⟩] []) (
 .seq (
  .region false [⟨(some 5), (.mv (.tmp 0)), none⟩,
    ⟨(some 6), (.call 0 true (.cst (.d (.fn n_ref02_Plus))) [(.tmp 5)]), none⟩,
    ⟨(some 3), (.mv (.tmp 6)), none⟩] []) (
 .seq (
  .seq (
   .region false [⟨(some 4), (.mv (.cst (.d (.int .i64 0)))), none⟩] []) (
  .block 0 (
   .loop (
    .seq (
     .seq (
      .region false [⟨(some 7), (.mv (.tmp 4)), none⟩,
        ⟨(some 8), (.mv (.tmp 3)), none⟩,
        ⟨(some 9), (.len (.tmp 8)), none⟩,
        ⟨(some 10), (.bin .lss (.tmp 7) (.tmp 9)), none⟩] []) (
     .cond (.tmp 10) (
      .skip) (
      (.exit 0)))) (
    .seq (
     .block 1 (
      .region false [⟨(some 13), (.mv (.tmp 3)), none⟩,
        ⟨(some 14), (.mv (.tmp 4)), none⟩,
        ⟨(some 15), (.mv (.tmp 4)), none⟩,
        ⟨(some 16), (.call 0 false (.cst (.d (.fn n_ref02_Put))) [(.tmp 13), (.tmp 14), (.tmp 15)]), none⟩] [])) (
    .region false [⟨(some 11), (.mv (.tmp 4)), none⟩,
      ⟨(some 12), (.bin .add (.tmp 11) (.cst (.d (.int .i64 1)))), none⟩,
      ⟨(some 4), (.mv (.tmp 12)), none⟩] [])))))) (
 .seq (
  .region false [⟨(some 17), (.mv (.tmp 3)), none⟩, ⟨(some 2), (.mv (.tmp 17)), none⟩] []) (
 .ret))))
def R_ref02_Star : List LRes := [(.tmp 2)]
def V_ref02_Star : List Nat := [0, 4, 3, 10, 2]

def L_ref02_Ring (n_ref02_Has : Nat) (n_ref02_Plus : Nat) : LCode :=
 .seq (
  .region false [⟨(some 2), (.mv (.cst (.d (.bool false)))), none⟩] []) (
 .seq (
  .region false [⟨(some 5), (.mv (.tmp 0)), none⟩,
    ⟨(some 6), (.call 0 true (.cst (.d (.fn n_ref02_Plus))) [(.tmp 5)]), none⟩,
    ⟨(some 3), (.mv (.tmp 6)), none⟩] []) (
 .seq (
  .seq (
   .region false [⟨(some 4), (.mv (.cst (.d (.int .i64 0)))), none⟩] []) (
  .block 0 (
   .loop (
    .seq (
     .seq (
      .region false [⟨(some 7), (.mv (.tmp 4)), none⟩,
        ⟨(some 8), (.mv (.tmp 3)), none⟩,
        ⟨(some 9), (.len (.tmp 8)), none⟩,
        ⟨(some 10), (.bin .lss (.tmp 7) (.tmp 9)), none⟩] []) (
     .cond (.tmp 10) (
      .skip) (
      (.exit 0)))) (
    .seq (
     .block 1 (
      .seq (
       .region false [⟨(some 13), (.mv (.tmp 3)), none⟩,
         ⟨(some 14), (.mv (.tmp 4)), none⟩,
         ⟨(some 15), (.mv (.tmp 4)), none⟩,
         ⟨(some 16), (.call 0 false (.cst (.d (.fn n_ref02_Has))) [(.tmp 13), (.tmp 14), (.tmp 15)]), none⟩] []) (
      .cond (.tmp 16) (
       .seq (
        .region false [⟨(some 2), (.mv (.cst (.d (.bool true)))), none⟩] []) (
       .ret)) (
       .skip)))) (
    .region false [⟨(some 11), (.mv (.tmp 4)), none⟩,
      ⟨(some 12), (.bin .add (.tmp 11) (.cst (.d (.int .i64 1)))), none⟩,
      ⟨(some 4), (.mv (.tmp 12)), none⟩] [])))))) (
 .seq (
  .region false [⟨(some 2), (.mv (.cst (.d (.bool false)))), none⟩] []) (
 .ret))))
def R_ref02_Ring : List LRes := [(.tmp 2)]
def V_ref02_Ring : List Nat := [0, 4, 3, 10, 16, 2]

def L_ref02_SameInts : LCode :=
 .seq (
  .region false [⟨(some 4), (.mv (.cst (.d (.bool false)))), none⟩] []) (
 .seq (
  .seq (
   .region false [⟨(some 6), (.mv (.tmp 0)), none⟩,
     ⟨(some 7), (.len (.tmp 6)), none⟩,
     ⟨(some 8), (.mv (.tmp 1)), none⟩,
     ⟨(some 9), (.len (.tmp 8)), none⟩,
     ⟨(some 10), (.bin .neq (.tmp 7) (.tmp 9)), none⟩] []) (
  .cond (.tmp 10) (
   .seq (
    .region false [⟨(some 4), (.mv (.cst (.d (.bool false)))), none⟩] []) (
   .ret)) (
   .skip))) (
 .seq (
  .seq (
   .region false [⟨(some 5), (.mv (.cst (.d (.int .i64 0)))), none⟩] []) (
  .block 0 (
   .loop (
    .seq (
     .seq (
      .region false [⟨(some 11), (.mv (.tmp 5)), none⟩,
        ⟨(some 12), (.mv (.tmp 0)), none⟩,
        ⟨(some 13), (.len (.tmp 12)), none⟩,
        ⟨(some 14), (.bin .lss (.tmp 11) (.tmp 13)), none⟩] []) (
     .cond (.tmp 14) (
      .skip) (
      (.exit 0)))) (
    .seq (
     .block 1 (
      .seq (
       .region true [⟨(some 17), (.mv (.tmp 0)), none⟩,
         ⟨(some 18), (.mv (.tmp 5)), none⟩,
         ⟨(some 19), (.idxAddr 1 (.tmp 17) (.tmp 18)), none⟩,
         ⟨(some 20), (.load false 1 (.tmp 19)), none⟩,
         ⟨(some 21), (.mv (.tmp 1)), none⟩,
         ⟨(some 22), (.mv (.tmp 5)), none⟩,
         ⟨(some 23), (.idxAddr 1 (.tmp 21) (.tmp 22)), none⟩,
         ⟨(some 24), (.load false 1 (.tmp 23)), none⟩,
         ⟨(some 25), (.bin .neq (.tmp 20) (.tmp 24)), none⟩] []) (
      .cond (.tmp 25) (
       .seq (
        .region false [⟨(some 4), (.mv (.cst (.d (.bool false)))), none⟩] []) (
       .ret)) (
       .skip)))) (
    .region false [⟨(some 15), (.mv (.tmp 5)), none⟩,
      ⟨(some 16), (.bin .add (.tmp 15) (.cst (.d (.int .i64 1)))), none⟩,
      ⟨(some 5), (.mv (.tmp 16)), none⟩] [])))))) (
 .seq (
  .region false [⟨(some 4), (.mv (.cst (.d (.bool true)))), none⟩] []) (
 .ret))))
def R_ref02_SameInts : List LRes := [(.tmp 4)]
def V_ref02_SameInts : List Nat := [0, 1, 10, 5, 14, 25, 4]

def L_ref02_Put (n_ref02_Has : Nat) : LCode :=
 .seq (
  .region false [⟨(some 6), (.mv (.tmp 0)), none⟩,
    ⟨(some 7), (.mv (.tmp 1)), none⟩,
    ⟨(some 8), (.mv (.tmp 2)), none⟩,
    ⟨(some 9), (.call 0 false (.cst (.d (.fn n_ref02_Has))) [(.tmp 6), (.tmp 7), (.tmp 8)]), none⟩,
    ⟨(some 10), (.un .not (.tmp 9)), none⟩] []) (
 .cond (.tmp 10) (
  .region false [⟨(some 11), (.mv (.tmp 0)), none⟩,
    ⟨(some 12), (.mv (.tmp 1)), none⟩,
    ⟨(some 13), (.idxAddr 1 (.tmp 11) (.tmp 12)), none⟩,
    ⟨(some 14), (.load false 1 (.tmp 13)), none⟩,
    ⟨(some 15), (.mv (.tmp 2)), none⟩,
    ⟨(some 16), (.conv .u64 (.tmp 15)), none⟩,
    ⟨(some 17), (.bin .shl (.cst (.d (.int .u64 1))) (.tmp 16)), none⟩,
    ⟨(some 18), (.bin .add (.tmp 14) (.tmp 17)), none⟩,
    ⟨(some 19), (.idxAddr 1 (.tmp 11) (.tmp 12)), none⟩,
    ⟨none, (.store 1 (.tmp 19) (.tmp 18)), none⟩] []) (
  .skip))
def R_ref02_Put : List LRes := []
def V_ref02_Put : List Nat := [0, 1, 2, 10]

def L_ref02_most (n_ref02_Size : Nat) : LCode :=
 .seq (
  .region false [⟨(some 4), (.mv (.cst (.d (.int .i64 0)))), none⟩] []) (
 .seq (
  .seq (
   .region false [⟨(some 5), (.mv (.tmp 0)), none⟩,
     ⟨(some 6), (.call 0 false (.cst (.d (.fn n_ref02_Size))) [(.tmp 5)]), none⟩,
     ⟨(some 7), (.mv (.tmp 1)), none⟩,
     ⟨(some 8), (.call 0 false (.cst (.d (.fn n_ref02_Size))) [(.tmp 7)]), none⟩,
     ⟨(some 9), (.bin .gtr (.tmp 6) (.tmp 8)), none⟩] []) (
  .cond (.tmp 9) (
   .seq (
    .region false [⟨(some 10), (.mv (.tmp 0)), none⟩,
      ⟨(some 11), (.call 0 false (.cst (.d (.fn n_ref02_Size))) [(.tmp 10)]), none⟩,
      ⟨(some 4), (.mv (.tmp 11)), none⟩] []) (
   .ret)) (
   .skip))) (
 .seq (
  .region false [⟨(some 12), (.mv (.tmp 1)), none⟩,
    ⟨(some 13), (.call 0 false (.cst (.d (.fn n_ref02_Size))) [(.tmp 12)]), none⟩,
    ⟨(some 4), (.mv (.tmp 13)), none⟩] []) (
 .ret)))
def R_ref02_most : List LRes := [(.tmp 4)]
def V_ref02_most : List Nat := [0, 1, 9, 4]

def L_ref02_Size : LCode :=
 .seq (
  .region false [⟨(some 2), (.mv (.cst (.d (.int .i64 0)))), none⟩] []) (
 .seq (
  .seq (
   .region false [⟨(some 3), (.mv (.tmp 0)), none⟩,
     ⟨(some 4), (.len (.tmp 3)), none⟩,
     ⟨(some 5), (.bin .gtr (.tmp 4) (.cst (.d (.int .i64 64)))), none⟩] []) (
  .cond (.tmp 5) (
   .seq (
    .region false [⟨(some 2), (.mv (.cst (.d (.int .i64 64)))), none⟩] []) (
   .ret)) (
   .skip))) (
 .seq (
  .region false [⟨(some 6), (.mv (.tmp 0)), none⟩,
    ⟨(some 7), (.len (.tmp 6)), none⟩,
    ⟨(some 2), (.mv (.tmp 7)), none⟩] []) (
 .ret)))
def R_ref02_Size : List LRes := [(.tmp 2)]
def V_ref02_Size : List Nat := [0, 5, 2]

end Go.Ago

/- Lowered functions of a package, callees by their numbers. Printed by a program of this session. Conditions: none. -/
set_option maxRecDepth 100000
set_option linter.unusedVariables false
namespace Go.Ago
def L_law02_RelOf (n_law02_awake : Nat) (n_rel_Of : Nat) (n_ref02_Of : Nat) (n_ref02_Same : Nat) : LCode :=
 .seq (
  .region false [⟨(some 4), (.mv (.cst (.d (.bool false)))), none⟩] []) (
 .seq (
  .seq (
   .region false [⟨(some 9), (.call 0 false (.cst (.d (.fn n_law02_awake))) []), none⟩, ⟨(some 10), (.un .not (.tmp 9)), none⟩] []) (
  .cond (.tmp 10) (
   .seq (
    .region false [⟨(some 4), (.mv (.cst (.d (.bool false)))), none⟩] []) (
   .ret)) (
   .skip))) (
 .seq (
  .region false [⟨(some 11), (.mv (.tmp 1)), none⟩,
    ⟨(some 12), (.mv (.tmp 1)), none⟩,
    ⟨(some 13), (.len (.tmp 12)), none⟩,
    ⟨(some 14), (.mini (.tmp 13) (.cst (.d (.int .i64 200)))), none⟩,
    ⟨(some 15), (.slice 2 (.tmp 11) none (some (.tmp 14)) none), none⟩,
    ⟨(some 1), (.mv (.tmp 15)), none⟩] []) (
 .seq (
  .region false [⟨(some 17), (.mv (.tmp 0)), none⟩,
    ⟨(some 18), (.mv (.tmp 1)), none⟩,
    ⟨(some 19), (.call 0 false (.cst (.d (.fn n_rel_Of))) [(.tmp 17), (.tmp 18)]), none⟩,
    ⟨(some 16), (.mv (.tmp 19)), none⟩,
    ⟨(some 20), (.extract 0 (.tmp 16)), none⟩,
    ⟨(some 21), (.extract 1 (.tmp 16)), none⟩,
    ⟨(some 5), (.mv (.tmp 20)), none⟩,
    ⟨(some 6), (.mv (.tmp 21)), none⟩] []) (
 .seq (
  .region false [⟨(some 23), (.mv (.tmp 0)), none⟩,
    ⟨(some 24), (.mv (.tmp 1)), none⟩,
    ⟨(some 25), (.call 0 false (.cst (.d (.fn n_ref02_Of))) [(.tmp 23), (.tmp 24)]), none⟩,
    ⟨(some 22), (.mv (.tmp 25)), none⟩,
    ⟨(some 26), (.extract 0 (.tmp 22)), none⟩,
    ⟨(some 27), (.extract 1 (.tmp 22)), none⟩,
    ⟨(some 7), (.mv (.tmp 26)), none⟩,
    ⟨(some 8), (.mv (.tmp 27)), none⟩] []) (
 .seq (
  .region false [⟨(some 28), (.mv (.tmp 6)), none⟩,
    ⟨(some 29), (.mv (.tmp 8)), none⟩,
    ⟨(some 30), (.bin .eql (.tmp 28) (.tmp 29)), none⟩,
    ⟨(some 31), (.mv (.tmp 30)), none⟩,
    ⟨(some 32), (.mv (.tmp 5)), (some (31, true))⟩,
    ⟨(some 33), (.mv (.tmp 7)), (some (31, true))⟩,
    ⟨(some 34), (.call 0 false (.cst (.d (.fn n_ref02_Same))) [(.tmp 32), (.tmp 33)]), (some (31, true))⟩,
    ⟨(some 35), (.pick (.tmp 31) (.tmp 34) (.cst (.d (.bool false)))), none⟩,
    ⟨(some 4), (.mv (.tmp 35)), none⟩] []) (
 .ret))))))
def R_law02_RelOf : List LRes := [(.tmp 4)]
def V_law02_RelOf : List Nat := [10, 1, 0, 6, 8, 5, 7, 4]

def L_law02_RelOrder (n_law02_awake : Nat) (n_law02_few : Nat) (n_rel_Order : Nat) (n_rel_Ring : Nat) (n_rel_Has : Nat) : LCode :=
 .seq (
  .region false [⟨(some 2), (.mv (.cst (.d (.bool false)))), none⟩] []) (
 .seq (
  .seq (
   .region false [⟨(some 7), (.call 0 false (.cst (.d (.fn n_law02_awake))) []), none⟩, ⟨(some 8), (.un .not (.tmp 7)), none⟩] []) (
  .cond (.tmp 8) (
   .seq (
    .region false [⟨(some 2), (.mv (.cst (.d (.bool false)))), none⟩] []) (
   .ret)) (
   .skip))) (
 .seq (
  .region false [⟨(some 9), (.mv (.tmp 0)), none⟩,
    ⟨(some 10), (.call 0 true (.cst (.d (.fn n_law02_few))) [(.tmp 9)]), none⟩,
    ⟨(some 0), (.mv (.tmp 10)), none⟩] []) (
 .seq (
  .region false [⟨(some 12), (.mv (.tmp 0)), none⟩,
    ⟨(some 13), (.call 0 false (.cst (.d (.fn n_rel_Order))) [(.tmp 12)]), none⟩,
    ⟨(some 11), (.mv (.tmp 13)), none⟩,
    ⟨(some 14), (.extract 0 (.tmp 11)), none⟩,
    ⟨(some 15), (.extract 1 (.tmp 11)), none⟩,
    ⟨(some 3), (.mv (.tmp 14)), none⟩,
    ⟨(some 4), (.mv (.tmp 15)), none⟩] []) (
 .seq (
  .seq (
   .region false [⟨(some 16), (.mv (.tmp 4)), none⟩,
     ⟨(some 17), (.mv (.tmp 0)), none⟩,
     ⟨(some 18), (.call 0 false (.cst (.d (.fn n_rel_Ring))) [(.tmp 17)]), none⟩,
     ⟨(some 19), (.eq false .bool (.tmp 16) (.tmp 18)), none⟩] []) (
  .cond (.tmp 19) (
   .seq (
    .region false [⟨(some 2), (.mv (.cst (.d (.bool false)))), none⟩] []) (
   .ret)) (
   .skip))) (
 .seq (
  .seq (
   .region false [⟨(some 20), (.mv (.tmp 4)), none⟩, ⟨(some 21), (.un .not (.tmp 20)), none⟩] []) (
  .cond (.tmp 21) (
   .seq (
    .region false [⟨(some 22), (.mv (.tmp 3)), none⟩,
      ⟨(some 23), (.len (.tmp 22)), none⟩,
      ⟨(some 24), (.bin .eql (.tmp 23) (.cst (.d (.int .i64 0)))), none⟩,
      ⟨(some 2), (.mv (.tmp 24)), none⟩] []) (
   .ret)) (
   .skip))) (
 .seq (
  .seq (
   .region false [⟨(some 5), (.mv (.cst (.d (.int .i64 0)))), none⟩] []) (
  .block 0 (
   .loop (
    .seq (
     .seq (
      .region false [⟨(some 25), (.mv (.tmp 5)), none⟩,
        ⟨(some 26), (.mv (.tmp 3)), none⟩,
        ⟨(some 27), (.len (.tmp 26)), none⟩,
        ⟨(some 28), (.bin .lss (.tmp 25) (.tmp 27)), none⟩] []) (
     .cond (.tmp 28) (
      .skip) (
      (.exit 0)))) (
    .seq (
     .block 1 (
      .seq (
       .region false [⟨(some 6), (.mv (.cst (.d (.int .i64 0)))), none⟩] []) (
      .block 2 (
       .loop (
        .seq (
         .seq (
          .region false [⟨(some 31), (.mv (.tmp 6)), none⟩,
            ⟨(some 32), (.mv (.tmp 5)), none⟩,
            ⟨(some 33), (.bin .leq (.tmp 31) (.tmp 32)), none⟩] []) (
         .cond (.tmp 33) (
          .skip) (
          (.exit 2)))) (
        .seq (
         .block 3 (
          .seq (
           .region true [⟨(some 36), (.mv (.tmp 0)), none⟩,
             ⟨(some 37), (.mv (.tmp 3)), none⟩,
             ⟨(some 38), (.mv (.tmp 5)), none⟩,
             ⟨(some 39), (.idxAddr 1 (.tmp 37) (.tmp 38)), none⟩,
             ⟨(some 40), (.load false 1 (.tmp 39)), none⟩,
             ⟨(some 41), (.mv (.tmp 3)), none⟩,
             ⟨(some 42), (.mv (.tmp 6)), none⟩,
             ⟨(some 43), (.idxAddr 1 (.tmp 41) (.tmp 42)), none⟩,
             ⟨(some 44), (.load false 1 (.tmp 43)), none⟩,
             ⟨(some 45), (.call 0 false (.cst (.d (.fn n_rel_Has))) [(.tmp 36), (.tmp 40), (.tmp 44)]), none⟩,
             ⟨(some 46), (.mv (.tmp 45)), none⟩,
             ⟨(some 47), (.mv (.tmp 6)), (some (46, false))⟩,
             ⟨(some 48), (.mv (.tmp 5)), (some (46, false))⟩,
             ⟨(some 49), (.bin .lss (.tmp 47) (.tmp 48)), (some (46, false))⟩,
             ⟨(some 50), (.mv (.tmp 49)), (some (46, false))⟩,
             ⟨(some 51), (.mv (.tmp 3)), (some (50, true))⟩,
             ⟨(some 52), (.mv (.tmp 6)), (some (50, true))⟩,
             ⟨(some 53), (.idxAddr 1 (.tmp 51) (.tmp 52)), (some (50, true))⟩,
             ⟨(some 54), (.load false 1 (.tmp 53)), (some (50, true))⟩,
             ⟨(some 55), (.mv (.tmp 3)), (some (50, true))⟩,
             ⟨(some 56), (.mv (.tmp 5)), (some (50, true))⟩,
             ⟨(some 57), (.idxAddr 1 (.tmp 55) (.tmp 56)), (some (50, true))⟩,
             ⟨(some 58), (.load false 1 (.tmp 57)), (some (50, true))⟩,
             ⟨(some 59), (.bin .eql (.tmp 54) (.tmp 58)), (some (50, true))⟩,
             ⟨(some 60), (.pick (.tmp 50) (.tmp 59) (.cst (.d (.bool false)))), (some (46, false))⟩,
             ⟨(some 61), (.pick (.tmp 46) (.cst (.d (.bool true))) (.tmp 60)), none⟩] []) (
          .cond (.tmp 61) (
           .seq (
            .region false [⟨(some 2), (.mv (.cst (.d (.bool false)))), none⟩] []) (
           .ret)) (
           .skip)))) (
        .region false [⟨(some 34), (.mv (.tmp 6)), none⟩,
          ⟨(some 35), (.bin .add (.tmp 34) (.cst (.d (.int .i64 1)))), none⟩,
          ⟨(some 6), (.mv (.tmp 35)), none⟩] []))))))) (
    .region false [⟨(some 29), (.mv (.tmp 5)), none⟩,
      ⟨(some 30), (.bin .add (.tmp 29) (.cst (.d (.int .i64 1)))), none⟩,
      ⟨(some 5), (.mv (.tmp 30)), none⟩] [])))))) (
 .seq (
  .region false [⟨(some 62), (.mv (.tmp 3)), none⟩,
    ⟨(some 63), (.len (.tmp 62)), none⟩,
    ⟨(some 64), (.mv (.tmp 0)), none⟩,
    ⟨(some 65), (.len (.tmp 64)), none⟩,
    ⟨(some 66), (.mini (.tmp 65) (.cst (.d (.int .i64 64)))), none⟩,
    ⟨(some 67), (.bin .eql (.tmp 63) (.tmp 66)), none⟩,
    ⟨(some 2), (.mv (.tmp 67)), none⟩] []) (
 .ret))))))))
def R_law02_RelOrder : List LRes := [(.tmp 2)]
def V_law02_RelOrder : List Nat := [8, 0, 4, 19, 21, 3, 5, 28, 6, 33, 61, 2]

def L_law02_RelTurned (n_law02_awake : Nat) (n_ref02_Same : Nat) (n_law02_few : Nat) (n_rel_Ring : Nat) (n_rel_Back : Nat) (n_rel_Plus : Nat) (n_rel_Union : Nat) : LCode :=
 .seq (
  .region false [⟨(some 2), (.mv (.cst (.d (.bool false)))), none⟩] []) (
 .seq (
  .seq (
   .region false [⟨(some 3), (.call 0 false (.cst (.d (.fn n_law02_awake))) []), none⟩, ⟨(some 4), (.un .not (.tmp 3)), none⟩] []) (
  .cond (.tmp 4) (
   .seq (
    .region false [⟨(some 2), (.mv (.cst (.d (.bool false)))), none⟩] []) (
   .ret)) (
   .skip))) (
 .seq (
  .region false [⟨(some 5), (.mv (.tmp 0)), none⟩,
    ⟨(some 6), (.call 0 true (.cst (.d (.fn n_law02_few))) [(.tmp 5)]), none⟩,
    ⟨(some 0), (.mv (.tmp 6)), none⟩] []) (
 .seq (
  .region false [⟨(some 7), (.mv (.tmp 0)), none⟩,
    ⟨(some 8), (.call 0 true (.cst (.d (.fn n_rel_Plus))) [(.tmp 7)]), none⟩,
    ⟨(some 9), (.call 1 true (.cst (.d (.fn n_rel_Back))) [(.tmp 8)]), none⟩,
    ⟨(some 10), (.mv (.tmp 0)), none⟩,
    ⟨(some 11), (.call 2 true (.cst (.d (.fn n_rel_Back))) [(.tmp 10)]), none⟩,
    ⟨(some 12), (.call 3 true (.cst (.d (.fn n_rel_Plus))) [(.tmp 11)]), none⟩,
    ⟨(some 13), (.call 4 false (.cst (.d (.fn n_ref02_Same))) [(.tmp 9), (.tmp 12)]), none⟩,
    ⟨(some 14), (.mv (.tmp 13)), none⟩,
    ⟨(some 15), (.mv (.tmp 0)), (some (14, true))⟩,
    ⟨(some 16), (.call 4 false (.cst (.d (.fn n_rel_Ring))) [(.tmp 15)]), (some (14, true))⟩,
    ⟨(some 17), (.mv (.tmp 0)), (some (14, true))⟩,
    ⟨(some 18), (.call 4 true (.cst (.d (.fn n_rel_Back))) [(.tmp 17)]), (some (14, true))⟩,
    ⟨(some 19), (.call 5 false (.cst (.d (.fn n_rel_Ring))) [(.tmp 18)]), (some (14, true))⟩,
    ⟨(some 20), (.eq false .bool (.tmp 16) (.tmp 19)), (some (14, true))⟩,
    ⟨(some 21), (.pick (.tmp 14) (.tmp 20) (.cst (.d (.bool false)))), none⟩,
    ⟨(some 22), (.mv (.tmp 21)), none⟩,
    ⟨(some 23), (.mv (.tmp 0)), (some (22, true))⟩,
    ⟨(some 24), (.call 5 true (.cst (.d (.fn n_rel_Back))) [(.tmp 23)]), (some (22, true))⟩,
    ⟨(some 25), (.call 6 true (.cst (.d (.fn n_rel_Back))) [(.tmp 24)]), (some (22, true))⟩,
    ⟨(some 26), (.mv (.tmp 0)), (some (22, true))⟩,
    ⟨(some 27), (.call 7 true (.cst (.d (.fn n_rel_Union))) [(.tmp 26), (.cst (.d (.list [] true)))]), (some (22, true))⟩,
    ⟨(some 28), (.call 8 false (.cst (.d (.fn n_ref02_Same))) [(.tmp 25), (.tmp 27)]), (some (22, true))⟩,
    ⟨(some 29), (.pick (.tmp 22) (.tmp 28) (.cst (.d (.bool false)))), none⟩,
    ⟨(some 2), (.mv (.tmp 29)), none⟩] []) (
 .ret))))
def R_law02_RelTurned : List LRes := [(.tmp 2)]
def V_law02_RelTurned : List Nat := [4, 0, 2]

def L_law02_RelLaws (n_law02_awake : Nat) (n_ref02_Same : Nat) (n_law02_few : Nat) (n_rel_Back : Nat) (n_rel_Plus : Nat) (n_rel_Union : Nat) (n_rel_Then : Nat) (n_rel_Minus : Nat) : LCode :=
 .seq (
  .region false [⟨(some 6), (.mv (.cst (.d (.bool false)))), none⟩] []) (
 .seq (
  .seq (
   .region false [⟨(some 9), (.call 0 false (.cst (.d (.fn n_law02_awake))) []), none⟩, ⟨(some 10), (.un .not (.tmp 9)), none⟩] []) (
  .cond (.tmp 10) (
   .seq (
    .region false [⟨(some 6), (.mv (.cst (.d (.bool false)))), none⟩] []) (
   .ret)) (
   .skip))) (
 .seq (
  .region false [⟨(some 11), (.mv (.tmp 0)), none⟩,
    ⟨(some 12), (.call 0 true (.cst (.d (.fn n_law02_few))) [(.tmp 11)]), none⟩,
    ⟨(some 13), (.mv (.tmp 1)), none⟩,
    ⟨(some 14), (.call 1 true (.cst (.d (.fn n_law02_few))) [(.tmp 13)]), none⟩,
    ⟨(some 15), (.mv (.tmp 2)), none⟩,
    ⟨(some 16), (.call 2 true (.cst (.d (.fn n_law02_few))) [(.tmp 15)]), none⟩,
    ⟨(some 0), (.mv (.tmp 12)), none⟩,
    ⟨(some 1), (.mv (.tmp 14)), none⟩,
    ⟨(some 2), (.mv (.tmp 16)), none⟩] []) (
 .seq (
  .region false [⟨(some 17), (.mv (.tmp 0)), none⟩,
    ⟨(some 18), (.len (.tmp 17)), none⟩,
    ⟨(some 19), (.mv (.tmp 1)), none⟩,
    ⟨(some 20), (.len (.tmp 19)), none⟩,
    ⟨(some 21), (.mv (.tmp 2)), none⟩,
    ⟨(some 22), (.len (.tmp 21)), none⟩,
    ⟨(some 23), (.max3 (.tmp 18) (.tmp 20) (.tmp 22)), none⟩,
    ⟨(some 7), (.mv (.tmp 23)), none⟩] []) (
 .seq (
  .block 0 (
   .loop (
    .seq (
     .seq (
      .region false [⟨(some 24), (.mv (.tmp 0)), none⟩,
        ⟨(some 25), (.len (.tmp 24)), none⟩,
        ⟨(some 26), (.mv (.tmp 7)), none⟩,
        ⟨(some 27), (.bin .lss (.tmp 25) (.tmp 26)), none⟩] []) (
     .cond (.tmp 27) (
      .skip) (
      (.exit 0)))) (
    .block 1 (
     .region false [⟨(some 28), (.mv (.tmp 0)), none⟩,
       ⟨(some 29), (.bslice 0 1 1 [(.d (.int .u64 0))] [(0, (.cst (.d (.int .u64 0))))]), none⟩,
       ⟨(some 30), (.append 1 1 8 (.tmp 28) (.tmp 29)), none⟩,
       ⟨(some 0), (.mv (.tmp 30)), none⟩] []))))) (
 .seq (
  .block 2 (
   .loop (
    .seq (
     .seq (
      .region false [⟨(some 31), (.mv (.tmp 1)), none⟩,
        ⟨(some 32), (.len (.tmp 31)), none⟩,
        ⟨(some 33), (.mv (.tmp 7)), none⟩,
        ⟨(some 34), (.bin .lss (.tmp 32) (.tmp 33)), none⟩] []) (
     .cond (.tmp 34) (
      .skip) (
      (.exit 2)))) (
    .block 3 (
     .region false [⟨(some 35), (.mv (.tmp 1)), none⟩,
       ⟨(some 36), (.bslice 0 1 1 [(.d (.int .u64 0))] [(0, (.cst (.d (.int .u64 0))))]), none⟩,
       ⟨(some 37), (.append 1 1 8 (.tmp 35) (.tmp 36)), none⟩,
       ⟨(some 1), (.mv (.tmp 37)), none⟩] []))))) (
 .seq (
  .block 4 (
   .loop (
    .seq (
     .seq (
      .region false [⟨(some 38), (.mv (.tmp 2)), none⟩,
        ⟨(some 39), (.len (.tmp 38)), none⟩,
        ⟨(some 40), (.mv (.tmp 7)), none⟩,
        ⟨(some 41), (.bin .lss (.tmp 39) (.tmp 40)), none⟩] []) (
     .cond (.tmp 41) (
      .skip) (
      (.exit 4)))) (
    .block 5 (
     .region false [⟨(some 42), (.mv (.tmp 2)), none⟩,
       ⟨(some 43), (.bslice 0 1 1 [(.d (.int .u64 0))] [(0, (.cst (.d (.int .u64 0))))]), none⟩,
       ⟨(some 44), (.append 1 1 8 (.tmp 42) (.tmp 43)), none⟩,
       ⟨(some 2), (.mv (.tmp 44)), none⟩] []))))) (
 .seq (
  .region false [⟨(some 45), (.mv (.tmp 0)), none⟩,
    ⟨(some 46), (.call 0 true (.cst (.d (.fn n_rel_Plus))) [(.tmp 45)]), none⟩,
    ⟨(some 8), (.mv (.tmp 46)), none⟩] []) (
 .seq (
  .region false [⟨(some 47), (.mv (.tmp 0)), none⟩,
    ⟨(some 48), (.mv (.tmp 1)), none⟩,
    ⟨(some 49), (.call 0 true (.cst (.d (.fn n_rel_Then))) [(.tmp 47), (.tmp 48)]), none⟩,
    ⟨(some 50), (.mv (.tmp 2)), none⟩,
    ⟨(some 51), (.call 1 true (.cst (.d (.fn n_rel_Then))) [(.tmp 49), (.tmp 50)]), none⟩,
    ⟨(some 52), (.mv (.tmp 0)), none⟩,
    ⟨(some 53), (.mv (.tmp 1)), none⟩,
    ⟨(some 54), (.mv (.tmp 2)), none⟩,
    ⟨(some 55), (.call 2 true (.cst (.d (.fn n_rel_Then))) [(.tmp 53), (.tmp 54)]), none⟩,
    ⟨(some 56), (.call 3 true (.cst (.d (.fn n_rel_Then))) [(.tmp 52), (.tmp 55)]), none⟩,
    ⟨(some 57), (.call 4 false (.cst (.d (.fn n_ref02_Same))) [(.tmp 51), (.tmp 56)]), none⟩,
    ⟨(some 58), (.mv (.tmp 57)), none⟩,
    ⟨(some 59), (.mv (.tmp 0)), (some (58, true))⟩,
    ⟨(some 60), (.mv (.tmp 1)), (some (58, true))⟩,
    ⟨(some 61), (.mv (.tmp 2)), (some (58, true))⟩,
    ⟨(some 62), (.call 4 true (.cst (.d (.fn n_rel_Union))) [(.tmp 60), (.tmp 61)]), (some (58, true))⟩,
    ⟨(some 63), (.call 5 true (.cst (.d (.fn n_rel_Then))) [(.tmp 59), (.tmp 62)]), (some (58, true))⟩,
    ⟨(some 64), (.mv (.tmp 0)), (some (58, true))⟩,
    ⟨(some 65), (.mv (.tmp 1)), (some (58, true))⟩,
    ⟨(some 66), (.call 6 true (.cst (.d (.fn n_rel_Then))) [(.tmp 64), (.tmp 65)]), (some (58, true))⟩,
    ⟨(some 67), (.mv (.tmp 0)), (some (58, true))⟩,
    ⟨(some 68), (.mv (.tmp 2)), (some (58, true))⟩,
    ⟨(some 69), (.call 7 true (.cst (.d (.fn n_rel_Then))) [(.tmp 67), (.tmp 68)]), (some (58, true))⟩,
    ⟨(some 70), (.call 8 true (.cst (.d (.fn n_rel_Union))) [(.tmp 66), (.tmp 69)]), (some (58, true))⟩,
    ⟨(some 71), (.call 9 false (.cst (.d (.fn n_ref02_Same))) [(.tmp 63), (.tmp 70)]), (some (58, true))⟩,
    ⟨(some 72), (.pick (.tmp 58) (.tmp 71) (.cst (.d (.bool false)))), none⟩,
    ⟨(some 73), (.mv (.tmp 72)), none⟩,
    ⟨(some 74), (.mv (.tmp 0)), (some (73, true))⟩,
    ⟨(some 75), (.mv (.tmp 1)), (some (73, true))⟩,
    ⟨(some 76), (.call 9 true (.cst (.d (.fn n_rel_Then))) [(.tmp 74), (.tmp 75)]), (some (73, true))⟩,
    ⟨(some 77), (.call 10 true (.cst (.d (.fn n_rel_Back))) [(.tmp 76)]), (some (73, true))⟩,
    ⟨(some 78), (.mv (.tmp 1)), (some (73, true))⟩,
    ⟨(some 79), (.call 11 true (.cst (.d (.fn n_rel_Back))) [(.tmp 78)]), (some (73, true))⟩,
    ⟨(some 80), (.mv (.tmp 0)), (some (73, true))⟩,
    ⟨(some 81), (.call 12 true (.cst (.d (.fn n_rel_Back))) [(.tmp 80)]), (some (73, true))⟩,
    ⟨(some 82), (.call 13 true (.cst (.d (.fn n_rel_Then))) [(.tmp 79), (.tmp 81)]), (some (73, true))⟩,
    ⟨(some 83), (.call 14 false (.cst (.d (.fn n_ref02_Same))) [(.tmp 77), (.tmp 82)]), (some (73, true))⟩,
    ⟨(some 84), (.pick (.tmp 73) (.tmp 83) (.cst (.d (.bool false)))), none⟩,
    ⟨(some 85), (.mv (.tmp 84)), none⟩,
    ⟨(some 86), (.mv (.tmp 8)), (some (85, true))⟩,
    ⟨(some 87), (.call 14 true (.cst (.d (.fn n_rel_Plus))) [(.tmp 86)]), (some (85, true))⟩,
    ⟨(some 88), (.mv (.tmp 8)), (some (85, true))⟩,
    ⟨(some 89), (.call 15 false (.cst (.d (.fn n_ref02_Same))) [(.tmp 87), (.tmp 88)]), (some (85, true))⟩,
    ⟨(some 90), (.pick (.tmp 85) (.tmp 89) (.cst (.d (.bool false)))), none⟩,
    ⟨(some 91), (.mv (.tmp 90)), none⟩,
    ⟨(some 92), (.mv (.tmp 0)), (some (91, true))⟩,
    ⟨(some 93), (.mv (.tmp 1)), (some (91, true))⟩,
    ⟨(some 94), (.call 15 true (.cst (.d (.fn n_rel_Union))) [(.tmp 92), (.tmp 93)]), (some (91, true))⟩,
    ⟨(some 95), (.mv (.tmp 1)), (some (91, true))⟩,
    ⟨(some 96), (.call 16 true (.cst (.d (.fn n_rel_Minus))) [(.tmp 94), (.tmp 95)]), (some (91, true))⟩,
    ⟨(some 97), (.mv (.tmp 0)), (some (91, true))⟩,
    ⟨(some 98), (.mv (.tmp 1)), (some (91, true))⟩,
    ⟨(some 99), (.call 17 true (.cst (.d (.fn n_rel_Minus))) [(.tmp 97), (.tmp 98)]), (some (91, true))⟩,
    ⟨(some 100), (.call 18 false (.cst (.d (.fn n_ref02_Same))) [(.tmp 96), (.tmp 99)]), (some (91, true))⟩,
    ⟨(some 101), (.pick (.tmp 91) (.tmp 100) (.cst (.d (.bool false)))), none⟩,
    ⟨(some 102), (.mv (.tmp 101)), none⟩,
    ⟨(some 103), (.mv (.tmp 0)), (some (102, true))⟩,
    ⟨(some 104), (.mv (.tmp 0)), (some (102, true))⟩,
    ⟨(some 105), (.mv (.tmp 8)), (some (102, true))⟩,
    ⟨(some 106), (.call 18 true (.cst (.d (.fn n_rel_Then))) [(.tmp 104), (.tmp 105)]), (some (102, true))⟩,
    ⟨(some 107), (.call 19 true (.cst (.d (.fn n_rel_Union))) [(.tmp 103), (.tmp 106)]), (some (102, true))⟩,
    ⟨(some 108), (.mv (.tmp 8)), (some (102, true))⟩,
    ⟨(some 109), (.call 20 false (.cst (.d (.fn n_ref02_Same))) [(.tmp 107), (.tmp 108)]), (some (102, true))⟩,
    ⟨(some 110), (.pick (.tmp 102) (.tmp 109) (.cst (.d (.bool false)))), none⟩,
    ⟨(some 6), (.mv (.tmp 110)), none⟩] []) (
 .ret)))))))))
def R_law02_RelLaws : List LRes := [(.tmp 6)]
def V_law02_RelLaws : List Nat := [10, 0, 1, 2, 7, 27, 34, 41, 8, 6]

def L_law02_RelAll (n_law02_awake : Nat) (n_ref02_Same : Nat) (n_law02_few : Nat) (n_rel_Has : Nat) (n_rel_Back : Nat) (n_rel_Union : Nat) (n_rel_Then : Nat) (n_rel_Minus : Nat) (n_ref02_Copy : Nat) (n_ref02_Lay : Nat) (n_rel_Inter : Nat) (n_ref02_Then : Nat) (n_ref02_Has : Nat) (n_ref02_Back : Nat) : LCode :=
 .seq (
  .region false [⟨(some 8), (.mv (.cst (.d (.bool false)))), none⟩] []) (
 .seq (
  .seq (
   .region false [⟨(some 11), (.call 0 false (.cst (.d (.fn n_law02_awake))) []), none⟩, ⟨(some 12), (.un .not (.tmp 11)), none⟩] []) (
  .cond (.tmp 12) (
   .seq (
    .region false [⟨(some 8), (.mv (.cst (.d (.bool false)))), none⟩] []) (
   .ret)) (
   .skip))) (
 .seq (
  .region false [⟨(some 13), (.mv (.tmp 0)), none⟩,
    ⟨(some 14), (.call 0 true (.cst (.d (.fn n_law02_few))) [(.tmp 13)]), none⟩,
    ⟨(some 15), (.mv (.tmp 1)), none⟩,
    ⟨(some 16), (.call 1 true (.cst (.d (.fn n_law02_few))) [(.tmp 15)]), none⟩,
    ⟨(some 0), (.mv (.tmp 14)), none⟩,
    ⟨(some 1), (.mv (.tmp 16)), none⟩] []) (
 .seq (
  .region false [⟨(some 17), (.mv (.tmp 0)), none⟩,
    ⟨(some 18), (.call 0 true (.cst (.d (.fn n_ref02_Copy))) [(.tmp 17)]), none⟩,
    ⟨(some 19), (.mv (.tmp 1)), none⟩,
    ⟨(some 20), (.call 1 true (.cst (.d (.fn n_ref02_Copy))) [(.tmp 19)]), none⟩,
    ⟨(some 9), (.mv (.tmp 18)), none⟩,
    ⟨(some 10), (.mv (.tmp 20)), none⟩] []) (
 .seq (
  .seq (
   .region false [⟨(some 21), (.mv (.tmp 9)), none⟩,
     ⟨(some 22), (.mv (.tmp 10)), none⟩,
     ⟨(some 23), (.call 0 true (.cst (.d (.fn n_rel_Union))) [(.tmp 21), (.tmp 22)]), none⟩,
     ⟨(some 24), (.mv (.tmp 0)), none⟩,
     ⟨(some 25), (.mv (.tmp 1)), none⟩,
     ⟨(some 26), (.call 1 true (.cst (.d (.fn n_ref02_Lay))) [(.tmp 24), (.tmp 25), (.cst (.d (.int .i64 0)))]), none⟩,
     ⟨(some 27), (.call 2 false (.cst (.d (.fn n_ref02_Same))) [(.tmp 23), (.tmp 26)]), none⟩,
     ⟨(some 28), (.un .not (.tmp 27)), none⟩,
     ⟨(some 29), (.mv (.tmp 28)), none⟩,
     ⟨(some 30), (.mv (.tmp 9)), (some (29, false))⟩,
     ⟨(some 31), (.mv (.tmp 10)), (some (29, false))⟩,
     ⟨(some 32), (.call 2 true (.cst (.d (.fn n_rel_Inter))) [(.tmp 30), (.tmp 31)]), (some (29, false))⟩,
     ⟨(some 33), (.mv (.tmp 0)), (some (29, false))⟩,
     ⟨(some 34), (.mv (.tmp 1)), (some (29, false))⟩,
     ⟨(some 35), (.call 3 true (.cst (.d (.fn n_ref02_Lay))) [(.tmp 33), (.tmp 34), (.cst (.d (.int .i64 1)))]), (some (29, false))⟩,
     ⟨(some 36), (.call 4 false (.cst (.d (.fn n_ref02_Same))) [(.tmp 32), (.tmp 35)]), (some (29, false))⟩,
     ⟨(some 37), (.un .not (.tmp 36)), (some (29, false))⟩,
     ⟨(some 38), (.pick (.tmp 29) (.cst (.d (.bool true))) (.tmp 37)), none⟩,
     ⟨(some 39), (.mv (.tmp 38)), none⟩,
     ⟨(some 40), (.mv (.tmp 9)), (some (39, false))⟩,
     ⟨(some 41), (.mv (.tmp 10)), (some (39, false))⟩,
     ⟨(some 42), (.call 4 true (.cst (.d (.fn n_rel_Minus))) [(.tmp 40), (.tmp 41)]), (some (39, false))⟩,
     ⟨(some 43), (.mv (.tmp 0)), (some (39, false))⟩,
     ⟨(some 44), (.mv (.tmp 1)), (some (39, false))⟩,
     ⟨(some 45), (.call 5 true (.cst (.d (.fn n_ref02_Lay))) [(.tmp 43), (.tmp 44), (.cst (.d (.int .i64 2)))]), (some (39, false))⟩,
     ⟨(some 46), (.call 6 false (.cst (.d (.fn n_ref02_Same))) [(.tmp 42), (.tmp 45)]), (some (39, false))⟩,
     ⟨(some 47), (.un .not (.tmp 46)), (some (39, false))⟩,
     ⟨(some 48), (.pick (.tmp 39) (.cst (.d (.bool true))) (.tmp 47)), none⟩,
     ⟨(some 49), (.mv (.tmp 48)), none⟩,
     ⟨(some 50), (.mv (.tmp 9)), (some (49, false))⟩,
     ⟨(some 51), (.mv (.tmp 10)), (some (49, false))⟩,
     ⟨(some 52), (.call 6 true (.cst (.d (.fn n_rel_Then))) [(.tmp 50), (.tmp 51)]), (some (49, false))⟩,
     ⟨(some 53), (.mv (.tmp 0)), (some (49, false))⟩,
     ⟨(some 54), (.mv (.tmp 1)), (some (49, false))⟩,
     ⟨(some 55), (.call 7 true (.cst (.d (.fn n_ref02_Then))) [(.tmp 53), (.tmp 54)]), (some (49, false))⟩,
     ⟨(some 56), (.call 8 false (.cst (.d (.fn n_ref02_Same))) [(.tmp 52), (.tmp 55)]), (some (49, false))⟩,
     ⟨(some 57), (.un .not (.tmp 56)), (some (49, false))⟩,
     ⟨(some 58), (.pick (.tmp 49) (.cst (.d (.bool true))) (.tmp 57)), none⟩] []) (
  .cond (.tmp 58) (
   .seq (
    .region false [⟨(some 8), (.mv (.cst (.d (.bool false)))), none⟩] []) (
   .ret)) (
   .skip))) (
 .seq (
  .region false [⟨(some 59), (.mv (.tmp 9)), none⟩,
    ⟨(some 60), (.mv (.tmp 2)), none⟩,
    ⟨(some 61), (.mv (.tmp 3)), none⟩,
    ⟨(some 62), (.call 0 false (.cst (.d (.fn n_rel_Has))) [(.tmp 59), (.tmp 60), (.tmp 61)]), none⟩,
    ⟨(some 63), (.mv (.tmp 0)), none⟩,
    ⟨(some 64), (.mv (.tmp 2)), none⟩,
    ⟨(some 65), (.mv (.tmp 3)), none⟩,
    ⟨(some 66), (.call 0 false (.cst (.d (.fn n_ref02_Has))) [(.tmp 63), (.tmp 64), (.tmp 65)]), none⟩,
    ⟨(some 67), (.eq false .bool (.tmp 62) (.tmp 66)), none⟩,
    ⟨(some 68), (.mv (.tmp 67)), none⟩,
    ⟨(some 69), (.mv (.tmp 9)), (some (68, true))⟩,
    ⟨(some 70), (.call 0 true (.cst (.d (.fn n_rel_Back))) [(.tmp 69)]), (some (68, true))⟩,
    ⟨(some 71), (.mv (.tmp 0)), (some (68, true))⟩,
    ⟨(some 72), (.call 1 true (.cst (.d (.fn n_ref02_Back))) [(.tmp 71)]), (some (68, true))⟩,
    ⟨(some 73), (.call 2 false (.cst (.d (.fn n_ref02_Same))) [(.tmp 70), (.tmp 72)]), (some (68, true))⟩,
    ⟨(some 74), (.pick (.tmp 68) (.tmp 73) (.cst (.d (.bool false)))), none⟩,
    ⟨(some 75), (.mv (.tmp 74)), none⟩,
    ⟨(some 76), (.mv (.tmp 9)), (some (75, true))⟩,
    ⟨(some 77), (.mv (.tmp 0)), (some (75, true))⟩,
    ⟨(some 78), (.call 2 false (.cst (.d (.fn n_ref02_Same))) [(.tmp 76), (.tmp 77)]), (some (75, true))⟩,
    ⟨(some 79), (.pick (.tmp 75) (.tmp 78) (.cst (.d (.bool false)))), none⟩,
    ⟨(some 80), (.mv (.tmp 79)), none⟩,
    ⟨(some 81), (.mv (.tmp 10)), (some (80, true))⟩,
    ⟨(some 82), (.mv (.tmp 1)), (some (80, true))⟩,
    ⟨(some 83), (.call 2 false (.cst (.d (.fn n_ref02_Same))) [(.tmp 81), (.tmp 82)]), (some (80, true))⟩,
    ⟨(some 84), (.pick (.tmp 80) (.tmp 83) (.cst (.d (.bool false)))), none⟩,
    ⟨(some 8), (.mv (.tmp 84)), none⟩] []) (
 .ret))))))
def R_law02_RelAll : List LRes := [(.tmp 8)]
def V_law02_RelAll : List Nat := [12, 0, 1, 9, 10, 58, 2, 3, 8]

def L_law02_RelWays (n_law02_awake : Nat) (n_ref02_Same : Nat) (n_law02_few : Nat) (n_rel_Order : Nat) (n_rel_Ring : Nat) (n_rel_Plus : Nat) (n_ref02_Order : Nat) (n_ref02_Plus : Nat) (n_rel_Star : Nat) (n_ref02_Star : Nat) (n_ref02_Ring : Nat) (n_ref02_SameInts : Nat) : LCode :=
 .seq (
  .region false [⟨(some 2), (.mv (.cst (.d (.bool false)))), none⟩] []) (
 .seq (
  .seq (
   .region false [⟨(some 7), (.call 0 false (.cst (.d (.fn n_law02_awake))) []), none⟩, ⟨(some 8), (.un .not (.tmp 7)), none⟩] []) (
  .cond (.tmp 8) (
   .seq (
    .region false [⟨(some 2), (.mv (.cst (.d (.bool false)))), none⟩] []) (
   .ret)) (
   .skip))) (
 .seq (
  .region false [⟨(some 9), (.mv (.tmp 0)), none⟩,
    ⟨(some 10), (.call 0 true (.cst (.d (.fn n_law02_few))) [(.tmp 9)]), none⟩,
    ⟨(some 0), (.mv (.tmp 10)), none⟩] []) (
 .seq (
  .region false [⟨(some 12), (.mv (.tmp 0)), none⟩,
    ⟨(some 13), (.call 0 false (.cst (.d (.fn n_rel_Order))) [(.tmp 12)]), none⟩,
    ⟨(some 11), (.mv (.tmp 13)), none⟩,
    ⟨(some 14), (.extract 0 (.tmp 11)), none⟩,
    ⟨(some 15), (.extract 1 (.tmp 11)), none⟩,
    ⟨(some 3), (.mv (.tmp 14)), none⟩,
    ⟨(some 4), (.mv (.tmp 15)), none⟩] []) (
 .seq (
  .region false [⟨(some 17), (.mv (.tmp 0)), none⟩,
    ⟨(some 18), (.call 0 false (.cst (.d (.fn n_ref02_Order))) [(.tmp 17)]), none⟩,
    ⟨(some 16), (.mv (.tmp 18)), none⟩,
    ⟨(some 19), (.extract 0 (.tmp 16)), none⟩,
    ⟨(some 20), (.extract 1 (.tmp 16)), none⟩,
    ⟨(some 5), (.mv (.tmp 19)), none⟩,
    ⟨(some 6), (.mv (.tmp 20)), none⟩] []) (
 .seq (
  .region false [⟨(some 21), (.mv (.tmp 0)), none⟩,
    ⟨(some 22), (.call 0 true (.cst (.d (.fn n_rel_Plus))) [(.tmp 21)]), none⟩,
    ⟨(some 23), (.mv (.tmp 0)), none⟩,
    ⟨(some 24), (.call 1 true (.cst (.d (.fn n_ref02_Plus))) [(.tmp 23)]), none⟩,
    ⟨(some 25), (.call 2 false (.cst (.d (.fn n_ref02_Same))) [(.tmp 22), (.tmp 24)]), none⟩,
    ⟨(some 26), (.mv (.tmp 25)), none⟩,
    ⟨(some 27), (.mv (.tmp 0)), (some (26, true))⟩,
    ⟨(some 28), (.call 2 true (.cst (.d (.fn n_rel_Star))) [(.tmp 27)]), (some (26, true))⟩,
    ⟨(some 29), (.mv (.tmp 0)), (some (26, true))⟩,
    ⟨(some 30), (.call 3 true (.cst (.d (.fn n_ref02_Star))) [(.tmp 29)]), (some (26, true))⟩,
    ⟨(some 31), (.call 4 false (.cst (.d (.fn n_ref02_Same))) [(.tmp 28), (.tmp 30)]), (some (26, true))⟩,
    ⟨(some 32), (.pick (.tmp 26) (.tmp 31) (.cst (.d (.bool false)))), none⟩,
    ⟨(some 33), (.mv (.tmp 32)), none⟩,
    ⟨(some 34), (.mv (.tmp 0)), (some (33, true))⟩,
    ⟨(some 35), (.call 4 false (.cst (.d (.fn n_rel_Ring))) [(.tmp 34)]), (some (33, true))⟩,
    ⟨(some 36), (.mv (.tmp 0)), (some (33, true))⟩,
    ⟨(some 37), (.call 4 false (.cst (.d (.fn n_ref02_Ring))) [(.tmp 36)]), (some (33, true))⟩,
    ⟨(some 38), (.eq false .bool (.tmp 35) (.tmp 37)), (some (33, true))⟩,
    ⟨(some 39), (.pick (.tmp 33) (.tmp 38) (.cst (.d (.bool false)))), none⟩,
    ⟨(some 40), (.mv (.tmp 39)), none⟩,
    ⟨(some 41), (.mv (.tmp 4)), (some (40, true))⟩,
    ⟨(some 42), (.mv (.tmp 6)), (some (40, true))⟩,
    ⟨(some 43), (.eq false .bool (.tmp 41) (.tmp 42)), (some (40, true))⟩,
    ⟨(some 44), (.pick (.tmp 40) (.tmp 43) (.cst (.d (.bool false)))), none⟩,
    ⟨(some 45), (.mv (.tmp 44)), none⟩,
    ⟨(some 46), (.mv (.tmp 3)), (some (45, true))⟩,
    ⟨(some 47), (.mv (.tmp 5)), (some (45, true))⟩,
    ⟨(some 48), (.call 4 false (.cst (.d (.fn n_ref02_SameInts))) [(.tmp 46), (.tmp 47)]), (some (45, true))⟩,
    ⟨(some 49), (.pick (.tmp 45) (.tmp 48) (.cst (.d (.bool false)))), none⟩,
    ⟨(some 2), (.mv (.tmp 49)), none⟩] []) (
 .ret))))))
def R_law02_RelWays : List LRes := [(.tmp 2)]
def V_law02_RelWays : List Nat := [8, 0, 4, 6, 3, 5, 2]

def L_law02_awake (n_rel_Of : Nat) (n_rel_Order : Nat) (n_rel_Has : Nat) (n_rel_Plus : Nat) : LCode :=
 .seq (
  .region false [⟨(some 0), (.mv (.cst (.d (.bool false)))), none⟩] []) (
 .seq (
  .region false [⟨(some 6), (.build [(.d (.int .i64 0)), (.d (.int .i64 0))] [(0, (1, (.cst (.d (.int .i64 0))))), (1, (1, (.cst (.d (.int .i64 1)))))]), none⟩,
    ⟨(some 7), (.build [(.d (.int .i64 0)), (.d (.int .i64 0))] [(0, (1, (.cst (.d (.int .i64 1))))), (1, (1, (.cst (.d (.int .i64 2)))))]), none⟩,
    ⟨(some 8), (.bslice 0 2 2 [(.d (.int .i64 0)), (.d (.int .i64 0))] [(0, (.tmp 6)), (1, (.tmp 7))]), none⟩,
    ⟨(some 9), (.call 1 false (.cst (.d (.fn n_rel_Of))) [(.cst (.d (.int .i64 3))), (.tmp 8)]), none⟩,
    ⟨(some 5), (.mv (.tmp 9)), none⟩,
    ⟨(some 10), (.extract 0 (.tmp 5)), none⟩,
    ⟨(some 11), (.extract 1 (.tmp 5)), none⟩,
    ⟨(some 1), (.mv (.tmp 10)), none⟩,
    ⟨(some 2), (.mv (.tmp 11)), none⟩] []) (
 .seq (
  .region false [⟨(some 13), (.mv (.tmp 1)), none⟩,
    ⟨(some 14), (.call 0 false (.cst (.d (.fn n_rel_Order))) [(.tmp 13)]), none⟩,
    ⟨(some 12), (.mv (.tmp 14)), none⟩,
    ⟨(some 15), (.extract 0 (.tmp 12)), none⟩,
    ⟨(some 16), (.extract 1 (.tmp 12)), none⟩,
    ⟨(some 3), (.mv (.tmp 15)), none⟩,
    ⟨(some 4), (.mv (.tmp 16)), none⟩] []) (
 .seq (
  .region false [⟨(some 17), (.mv (.tmp 2)), none⟩,
    ⟨(some 18), (.bin .eql (.tmp 17) (.cst (.d (.int .i64 0)))), none⟩,
    ⟨(some 19), (.mv (.tmp 18)), none⟩,
    ⟨(some 20), (.mv (.tmp 1)), (some (19, true))⟩,
    ⟨(some 21), (.call 0 true (.cst (.d (.fn n_rel_Plus))) [(.tmp 20)]), (some (19, true))⟩,
    ⟨(some 22), (.call 1 false (.cst (.d (.fn n_rel_Has))) [(.tmp 21), (.cst (.d (.int .i64 0))), (.cst (.d (.int .i64 2)))]), (some (19, true))⟩,
    ⟨(some 23), (.pick (.tmp 19) (.tmp 22) (.cst (.d (.bool false)))), none⟩,
    ⟨(some 24), (.mv (.tmp 23)), none⟩,
    ⟨(some 25), (.mv (.tmp 4)), (some (24, true))⟩,
    ⟨(some 26), (.pick (.tmp 24) (.tmp 25) (.cst (.d (.bool false)))), none⟩,
    ⟨(some 27), (.mv (.tmp 26)), none⟩,
    ⟨(some 28), (.mv (.tmp 3)), (some (27, true))⟩,
    ⟨(some 29), (.len (.tmp 28)), (some (27, true))⟩,
    ⟨(some 30), (.bin .eql (.tmp 29) (.cst (.d (.int .i64 3)))), (some (27, true))⟩,
    ⟨(some 31), (.pick (.tmp 27) (.tmp 30) (.cst (.d (.bool false)))), none⟩,
    ⟨(some 32), (.mv (.tmp 31)), none⟩,
    ⟨(some 33), (.mv (.tmp 3)), (some (32, true))⟩,
    ⟨(some 34), (.idxAddr 1 (.tmp 33) (.cst (.d (.int .i64 2)))), (some (32, true))⟩,
    ⟨(some 35), (.load false 1 (.tmp 34)), (some (32, true))⟩,
    ⟨(some 36), (.bin .eql (.tmp 35) (.cst (.d (.int .i64 2)))), (some (32, true))⟩,
    ⟨(some 37), (.pick (.tmp 32) (.tmp 36) (.cst (.d (.bool false)))), none⟩,
    ⟨(some 0), (.mv (.tmp 37)), none⟩] []) (
 .ret))))
def R_law02_awake : List LRes := [(.tmp 0)]
def V_law02_awake : List Nat := [1, 2, 4, 3, 0]

def L_law02_few (n_ref02_Copy : Nat) : LCode :=
 .seq (
  .region false [⟨(some 2), (.mv (.cst (.d (.list [] true)))), none⟩] []) (
 .seq (
  .region false [⟨(some 3), (.mv (.tmp 0)), none⟩,
    ⟨(some 4), (.mv (.tmp 0)), none⟩,
    ⟨(some 5), (.len (.tmp 4)), none⟩,
    ⟨(some 6), (.mini (.tmp 5) (.cst (.d (.int .i64 70)))), none⟩,
    ⟨(some 7), (.slice 1 (.tmp 3) none (some (.tmp 6)) none), none⟩,
    ⟨(some 8), (.call 0 true (.cst (.d (.fn n_ref02_Copy))) [(.tmp 7)]), none⟩,
    ⟨(some 2), (.mv (.tmp 8)), none⟩] []) (
 .ret))
def R_law02_few : List LRes := [(.tmp 2)]
def V_law02_few : List Nat := [0, 2]

end Go.Ago
