/- Lowered functions of a package, callees by their numbers. Printed by a program of this session. Conditions: none. -/
import Derived.Test.YtlphhmgfjdecjaaAgo27
set_option maxRecDepth 100000
set_option linter.unusedVariables false
namespace Go.Ago
def L_rat_Right : LCode :=
 .seq (
  .region false [⟨(some 1), (.box 0 (.tmp 0)), none⟩, ⟨(some 2), (.mv (.cst (.d (.bool false)))), none⟩] []) (
 .seq (
  .region false [⟨(some 3), (.fieldAddr 1 (.tmp 1)), none⟩,
    ⟨(some 4), (.load false 1 (.tmp 3)), none⟩,
    ⟨(some 5), (.bin .geq (.tmp 4) (.cst (.d (.int .i64 1)))), none⟩,
    ⟨(some 6), (.mv (.tmp 5)), none⟩,
    ⟨(some 7), (.fieldAddr 1 (.tmp 1)), (some (6, true))⟩,
    ⟨(some 8), (.load false 1 (.tmp 7)), (some (6, true))⟩,
    ⟨(some 9), (.bin .leq (.tmp 8) (.cst (.d (.int .i64 1024)))), (some (6, true))⟩,
    ⟨(some 10), (.pick (.tmp 6) (.tmp 9) (.cst (.d (.bool false)))), none⟩,
    ⟨(some 11), (.mv (.tmp 10)), none⟩,
    ⟨(some 12), (.fieldAddr 0 (.tmp 1)), (some (11, true))⟩,
    ⟨(some 13), (.load false 1 (.tmp 12)), (some (11, true))⟩,
    ⟨(some 14), (.bin .geq (.tmp 13) (.cst (.d (.int .i64 (-1048576))))), (some (11, true))⟩,
    ⟨(some 15), (.pick (.tmp 11) (.tmp 14) (.cst (.d (.bool false)))), none⟩,
    ⟨(some 16), (.mv (.tmp 15)), none⟩,
    ⟨(some 17), (.fieldAddr 0 (.tmp 1)), (some (16, true))⟩,
    ⟨(some 18), (.load false 1 (.tmp 17)), (some (16, true))⟩,
    ⟨(some 19), (.bin .leq (.tmp 18) (.cst (.d (.int .i64 1048576)))), (some (16, true))⟩,
    ⟨(some 20), (.pick (.tmp 16) (.tmp 19) (.cst (.d (.bool false)))), none⟩,
    ⟨(some 2), (.mv (.tmp 20)), none⟩] []) (
 .ret))
def R_rat_Right : List LRes := [(.tmp 2)]
def V_rat_Right : List Nat := [0, 1, 2]

def L_rat_Cmp (n_rat_Right : Nat) : LCode :=
 .seq (
  .region false [⟨(some 2), (.box 0 (.tmp 0)), none⟩,
    ⟨(some 3), (.box 1 (.tmp 1)), none⟩,
    ⟨(some 4), (.mv (.cst (.d (.int .i64 0)))), none⟩] []) (
 .seq (
  .seq (
   .region false [⟨(some 7), (.load true 2 (.tmp 2)), none⟩,
     ⟨(some 8), (.call 0 false (.cst (.d (.fn n_rat_Right))) [(.tmp 7)]), none⟩,
     ⟨(some 9), (.un .not (.tmp 8)), none⟩,
     ⟨(some 10), (.mv (.tmp 9)), none⟩,
     ⟨(some 11), (.load true 2 (.tmp 3)), (some (10, false))⟩,
     ⟨(some 12), (.call 0 false (.cst (.d (.fn n_rat_Right))) [(.tmp 11)]), (some (10, false))⟩,
     ⟨(some 13), (.un .not (.tmp 12)), (some (10, false))⟩,
     ⟨(some 14), (.pick (.tmp 10) (.cst (.d (.bool true))) (.tmp 13)), none⟩] []) (
  .cond (.tmp 14) (
   .seq (
    .region false [⟨(some 4), (.mv (.cst (.d (.int .i64 0)))), none⟩] []) (
   .ret)) (
   .skip))) (
 .seq (
  .region true [⟨(some 15), (.fieldAddr 0 (.tmp 2)), none⟩,
    ⟨(some 16), (.load false 1 (.tmp 15)), none⟩,
    ⟨(some 17), (.fieldAddr 1 (.tmp 3)), none⟩,
    ⟨(some 18), (.load false 1 (.tmp 17)), none⟩,
    ⟨(some 19), (.bin .mul (.tmp 16) (.tmp 18)), none⟩,
    ⟨(some 20), (.fieldAddr 0 (.tmp 3)), none⟩,
    ⟨(some 21), (.load false 1 (.tmp 20)), none⟩,
    ⟨(some 22), (.fieldAddr 1 (.tmp 2)), none⟩,
    ⟨(some 23), (.load false 1 (.tmp 22)), none⟩,
    ⟨(some 24), (.bin .mul (.tmp 21) (.tmp 23)), none⟩,
    ⟨(some 5), (.mv (.tmp 19)), none⟩,
    ⟨(some 6), (.mv (.tmp 24)), none⟩] []) (
 .seq (
  .block 0 (
   .seq (
    .region false [⟨(some 26), (.mv (.tmp 5)), none⟩,
      ⟨(some 27), (.mv (.tmp 6)), none⟩,
      ⟨(some 28), (.bin .lss (.tmp 26) (.tmp 27)), none⟩,
      ⟨(some 25), (.mv (.tmp 28)), none⟩] []) (
   .cond (.tmp 25) (
    .seq (
     .region false [⟨(some 4), (.mv (.cst (.d (.int .i64 (-1))))), none⟩] []) (
    .ret)) (
    .seq (
     .region false [⟨(some 30), (.mv (.tmp 5)), none⟩,
       ⟨(some 31), (.mv (.tmp 6)), none⟩,
       ⟨(some 32), (.bin .gtr (.tmp 30) (.tmp 31)), none⟩,
       ⟨(some 29), (.mv (.tmp 32)), none⟩] []) (
    .cond (.tmp 29) (
     .seq (
      .region false [⟨(some 4), (.mv (.cst (.d (.int .i64 1)))), none⟩] []) (
     .ret)) (
     .skip)))))) (
 .seq (
  .region false [⟨(some 4), (.mv (.cst (.d (.int .i64 0)))), none⟩] []) (
 .ret)))))
def R_rat_Cmp : List LRes := [(.tmp 4)]
def V_rat_Cmp : List Nat := [0, 1, 2, 3, 14, 5, 6, 25, 29, 4]

def L_rat_Least (n_rat_Right : Nat) (n_rat_gcd : Nat) : LCode :=
 .seq (
  .region false [⟨(some 1), (.box 0 (.tmp 0)), none⟩, ⟨(some 2), (.alloc 1 2 [(.d (.int .i64 0)), (.d (.int .i64 0))]), none⟩] []) (
 .seq (
  .seq (
   .region false [⟨(some 4), (.load true 2 (.tmp 1)), none⟩,
     ⟨(some 5), (.call 0 false (.cst (.d (.fn n_rat_Right))) [(.tmp 4)]), none⟩,
     ⟨(some 6), (.un .not (.tmp 5)), none⟩] []) (
  .cond (.tmp 6) (
   .seq (
    .region false [⟨(some 7), (.load true 2 (.tmp 1)), none⟩, ⟨none, (.store 2 (.tmp 2) (.tmp 7)), none⟩] []) (
   .ret)) (
   .skip))) (
 .seq (
  .region false [⟨(some 8), (.fieldAddr 0 (.tmp 1)), none⟩,
    ⟨(some 9), (.load false 1 (.tmp 8)), none⟩,
    ⟨(some 10), (.fieldAddr 0 (.tmp 1)), none⟩,
    ⟨(some 11), (.load false 1 (.tmp 10)), none⟩,
    ⟨(some 12), (.un .neg (.tmp 11)), none⟩,
    ⟨(some 13), (.maxi (.tmp 9) (.tmp 12)), none⟩,
    ⟨(some 14), (.fieldAddr 1 (.tmp 1)), none⟩,
    ⟨(some 15), (.load false 1 (.tmp 14)), none⟩,
    ⟨(some 16), (.call 0 false (.cst (.d (.fn n_rat_gcd))) [(.tmp 13), (.tmp 15)]), none⟩,
    ⟨(some 3), (.mv (.tmp 16)), none⟩] []) (
 .seq (
  .region true [⟨(some 17), (.fieldAddr 0 (.tmp 1)), none⟩,
    ⟨(some 18), (.load false 1 (.tmp 17)), none⟩,
    ⟨(some 19), (.mv (.tmp 3)), none⟩,
    ⟨(some 20), (.bin .quo (.tmp 18) (.tmp 19)), none⟩,
    ⟨(some 21), (.fieldAddr 1 (.tmp 1)), none⟩,
    ⟨(some 22), (.load false 1 (.tmp 21)), none⟩,
    ⟨(some 23), (.mv (.tmp 3)), none⟩,
    ⟨(some 24), (.bin .quo (.tmp 22) (.tmp 23)), none⟩,
    ⟨(some 25), (.build [(.d (.int .i64 0)), (.d (.int .i64 0))] [(0, (1, (.tmp 20))), (1, (1, (.tmp 24)))]), none⟩,
    ⟨none, (.store 2 (.tmp 2) (.tmp 25)), none⟩] []) (
 .ret))))
def R_rat_Least : List LRes := [(.cell 2 true 2)]
def V_rat_Least : List Nat := [0, 1, 6, 2, 3]

def L_rat_Max (n_rat_Cmp : Nat) : LCode :=
 .seq (
  .region false [⟨(some 2), (.box 0 (.tmp 0)), none⟩,
    ⟨(some 3), (.box 1 (.tmp 1)), none⟩,
    ⟨(some 4), (.alloc 2 2 [(.d (.int .i64 0)), (.d (.int .i64 0))]), none⟩] []) (
 .seq (
  .seq (
   .region false [⟨(some 5), (.load true 2 (.tmp 2)), none⟩,
     ⟨(some 6), (.load true 2 (.tmp 3)), none⟩,
     ⟨(some 7), (.call 0 false (.cst (.d (.fn n_rat_Cmp))) [(.tmp 5), (.tmp 6)]), none⟩,
     ⟨(some 8), (.bin .lss (.tmp 7) (.cst (.d (.int .i64 0)))), none⟩] []) (
  .cond (.tmp 8) (
   .seq (
    .region false [⟨(some 9), (.load true 2 (.tmp 3)), none⟩, ⟨none, (.store 2 (.tmp 4) (.tmp 9)), none⟩] []) (
   .ret)) (
   .skip))) (
 .seq (
  .region false [⟨(some 10), (.load true 2 (.tmp 2)), none⟩, ⟨none, (.store 2 (.tmp 4) (.tmp 10)), none⟩] []) (
 .ret)))
def R_rat_Max : List LRes := [(.cell 4 true 2)]
def V_rat_Max : List Nat := [0, 1, 2, 3, 8, 4]

def L_rat_Between (n_rat_Right : Nat) (n_rat_Cmp : Nat) (n_rat_Least : Nat) : LCode :=
 .seq (
  .region false [⟨(some 2), (.box 0 (.tmp 0)), none⟩,
    ⟨(some 3), (.box 1 (.tmp 1)), none⟩,
    ⟨(some 4), (.alloc 2 2 [(.d (.int .i64 0)), (.d (.int .i64 0))]), none⟩,
    ⟨(some 5), (.mv (.cst (.d (.bool false)))), none⟩] []) (
 .seq (
  .seq (
   .region false [⟨(some 9), (.load true 2 (.tmp 2)), none⟩,
     ⟨(some 10), (.load true 2 (.tmp 3)), none⟩,
     ⟨(some 11), (.call 0 false (.cst (.d (.fn n_rat_Cmp))) [(.tmp 9), (.tmp 10)]), none⟩,
     ⟨(some 12), (.bin .geq (.tmp 11) (.cst (.d (.int .i64 0)))), none⟩] []) (
  .cond (.tmp 12) (
   .seq (
    .region false [⟨(some 13), (.build [(.d (.int .i64 0)), (.d (.int .i64 0))] []), none⟩,
      ⟨none, (.store 2 (.tmp 4) (.tmp 13)), none⟩,
      ⟨(some 5), (.mv (.cst (.d (.bool false)))), none⟩] []) (
   .ret)) (
   .skip))) (
 .seq (
  .region true [⟨(some 14), (.load true 2 (.tmp 2)), none⟩,
    ⟨(some 15), (.call 0 false (.cst (.d (.fn n_rat_Least))) [(.tmp 14)]), none⟩,
    ⟨(some 16), (.load true 2 (.tmp 3)), none⟩,
    ⟨(some 17), (.call 0 false (.cst (.d (.fn n_rat_Least))) [(.tmp 16)]), none⟩,
    ⟨(some 6), (.alloc 0 2 [(.d (.int .i64 0)), (.d (.int .i64 0))]), none⟩,
    ⟨(some 7), (.alloc 1 2 [(.d (.int .i64 0)), (.d (.int .i64 0))]), none⟩,
    ⟨none, (.store 2 (.tmp 6) (.tmp 15)), none⟩,
    ⟨none, (.store 2 (.tmp 7) (.tmp 17)), none⟩] [(1, 2), (3, 4), (2, 4), (1, 4), (0, 4), (4, 5), (3, 5), (2, 5), (1, 5), (0, 5)]) (
 .seq (
  .region false [⟨(some 18), (.fieldAddr 0 (.tmp 6)), none⟩,
    ⟨(some 19), (.load false 1 (.tmp 18)), none⟩,
    ⟨(some 20), (.fieldAddr 0 (.tmp 7)), none⟩,
    ⟨(some 21), (.load false 1 (.tmp 20)), none⟩,
    ⟨(some 22), (.bin .add (.tmp 19) (.tmp 21)), none⟩,
    ⟨(some 23), (.fieldAddr 1 (.tmp 6)), none⟩,
    ⟨(some 24), (.load false 1 (.tmp 23)), none⟩,
    ⟨(some 25), (.fieldAddr 1 (.tmp 7)), none⟩,
    ⟨(some 26), (.load false 1 (.tmp 25)), none⟩,
    ⟨(some 27), (.bin .add (.tmp 24) (.tmp 26)), none⟩,
    ⟨(some 28), (.build [(.d (.int .i64 0)), (.d (.int .i64 0))] [(0, (1, (.tmp 22))), (1, (1, (.tmp 27)))]), none⟩,
    ⟨(some 8), (.alloc 0 2 [(.d (.int .i64 0)), (.d (.int .i64 0))]), none⟩,
    ⟨none, (.store 2 (.tmp 8) (.tmp 28)), none⟩] []) (
 .seq (
  .seq (
   .region false [⟨(some 29), (.load true 2 (.tmp 8)), none⟩,
     ⟨(some 30), (.call 0 false (.cst (.d (.fn n_rat_Right))) [(.tmp 29)]), none⟩,
     ⟨(some 31), (.un .not (.tmp 30)), none⟩] []) (
  .cond (.tmp 31) (
   .seq (
    .region false [⟨(some 32), (.build [(.d (.int .i64 0)), (.d (.int .i64 0))] []), none⟩,
      ⟨none, (.store 2 (.tmp 4) (.tmp 32)), none⟩,
      ⟨(some 5), (.mv (.cst (.d (.bool false)))), none⟩] []) (
   .ret)) (
   .skip))) (
 .seq (
  .region false [⟨(some 33), (.load true 2 (.tmp 8)), none⟩,
    ⟨none, (.store 2 (.tmp 4) (.tmp 33)), none⟩,
    ⟨(some 5), (.mv (.cst (.d (.bool true)))), none⟩] []) (
 .ret))))))
def R_rat_Between : List LRes := [(.cell 4 true 2), (.tmp 5)]
def V_rat_Between : List Nat := [0, 1, 2, 3, 12, 4, 6, 7, 8, 31, 5]

def L_rat_After (n_rat_Right : Nat) : LCode :=
 .seq (
  .region false [⟨(some 1), (.box 0 (.tmp 0)), none⟩,
    ⟨(some 2), (.alloc 1 2 [(.d (.int .i64 0)), (.d (.int .i64 0))]), none⟩,
    ⟨(some 3), (.mv (.cst (.d (.bool false)))), none⟩] []) (
 .seq (
  .seq (
   .region false [⟨(some 6), (.load true 2 (.tmp 1)), none⟩,
     ⟨(some 7), (.call 0 false (.cst (.d (.fn n_rat_Right))) [(.tmp 6)]), none⟩,
     ⟨(some 8), (.un .not (.tmp 7)), none⟩] []) (
  .cond (.tmp 8) (
   .seq (
    .region false [⟨(some 9), (.build [(.d (.int .i64 0)), (.d (.int .i64 0))] []), none⟩,
      ⟨none, (.store 2 (.tmp 2) (.tmp 9)), none⟩,
      ⟨(some 3), (.mv (.cst (.d (.bool false)))), none⟩] []) (
   .ret)) (
   .skip))) (
 .seq (
  .region false [⟨(some 10), (.fieldAddr 0 (.tmp 1)), none⟩,
    ⟨(some 11), (.load false 1 (.tmp 10)), none⟩,
    ⟨(some 12), (.fieldAddr 1 (.tmp 1)), none⟩,
    ⟨(some 13), (.load false 1 (.tmp 12)), none⟩,
    ⟨(some 14), (.bin .quo (.tmp 11) (.tmp 13)), none⟩,
    ⟨(some 4), (.mv (.tmp 14)), none⟩] []) (
 .seq (
  .seq (
   .region false [⟨(some 15), (.fieldAddr 0 (.tmp 1)), none⟩,
     ⟨(some 16), (.load false 1 (.tmp 15)), none⟩,
     ⟨(some 17), (.bin .lss (.tmp 16) (.cst (.d (.int .i64 0)))), none⟩,
     ⟨(some 18), (.mv (.tmp 17)), none⟩,
     ⟨(some 19), (.fieldAddr 0 (.tmp 1)), (some (18, true))⟩,
     ⟨(some 20), (.load false 1 (.tmp 19)), (some (18, true))⟩,
     ⟨(some 21), (.fieldAddr 1 (.tmp 1)), (some (18, true))⟩,
     ⟨(some 22), (.load false 1 (.tmp 21)), (some (18, true))⟩,
     ⟨(some 23), (.bin .rem (.tmp 20) (.tmp 22)), (some (18, true))⟩,
     ⟨(some 24), (.bin .neq (.tmp 23) (.cst (.d (.int .i64 0)))), (some (18, true))⟩,
     ⟨(some 25), (.pick (.tmp 18) (.tmp 24) (.cst (.d (.bool false)))), none⟩] []) (
  .cond (.tmp 25) (
   .region false [⟨(some 26), (.mv (.tmp 4)), none⟩,
     ⟨(some 27), (.bin .sub (.tmp 26) (.cst (.d (.int .i64 1)))), none⟩,
     ⟨(some 4), (.mv (.tmp 27)), none⟩] []) (
   .skip))) (
 .seq (
  .region false [⟨(some 28), (.mv (.tmp 4)), none⟩,
    ⟨(some 29), (.bin .add (.tmp 28) (.cst (.d (.int .i64 1)))), none⟩,
    ⟨(some 30), (.build [(.d (.int .i64 0)), (.d (.int .i64 0))] [(0, (1, (.tmp 29))), (1, (1, (.cst (.d (.int .i64 1)))))]), none⟩,
    ⟨(some 5), (.alloc 0 2 [(.d (.int .i64 0)), (.d (.int .i64 0))]), none⟩,
    ⟨none, (.store 2 (.tmp 5) (.tmp 30)), none⟩] []) (
 .seq (
  .seq (
   .region false [⟨(some 31), (.load true 2 (.tmp 5)), none⟩,
     ⟨(some 32), (.call 0 false (.cst (.d (.fn n_rat_Right))) [(.tmp 31)]), none⟩,
     ⟨(some 33), (.un .not (.tmp 32)), none⟩] []) (
  .cond (.tmp 33) (
   .seq (
    .region false [⟨(some 34), (.build [(.d (.int .i64 0)), (.d (.int .i64 0))] []), none⟩,
      ⟨none, (.store 2 (.tmp 2) (.tmp 34)), none⟩,
      ⟨(some 3), (.mv (.cst (.d (.bool false)))), none⟩] []) (
   .ret)) (
   .skip))) (
 .seq (
  .region false [⟨(some 35), (.load true 2 (.tmp 5)), none⟩,
    ⟨none, (.store 2 (.tmp 2) (.tmp 35)), none⟩,
    ⟨(some 3), (.mv (.cst (.d (.bool true)))), none⟩] []) (
 .ret)))))))
def R_rat_After : List LRes := [(.cell 2 true 2), (.tmp 3)]
def V_rat_After : List Nat := [0, 1, 8, 2, 25, 4, 5, 33, 3]

def L_rat_gcd : LCode :=
 .seq (
  .region false [⟨(some 4), (.mv (.cst (.d (.int .i64 0)))), none⟩] []) (
 .seq (
  .block 0 (
   .loop (
    .seq (
     .seq (
      .region false [⟨(some 5), (.mv (.tmp 1)), none⟩, ⟨(some 6), (.bin .neq (.tmp 5) (.cst (.d (.int .i64 0)))), none⟩] []) (
     .cond (.tmp 6) (
      .skip) (
      (.exit 0)))) (
    .block 1 (
     .region true [⟨(some 7), (.mv (.tmp 1)), none⟩,
       ⟨(some 8), (.mv (.tmp 0)), none⟩,
       ⟨(some 9), (.mv (.tmp 1)), none⟩,
       ⟨(some 10), (.bin .rem (.tmp 8) (.tmp 9)), none⟩,
       ⟨(some 0), (.mv (.tmp 7)), none⟩,
       ⟨(some 1), (.mv (.tmp 10)), none⟩] []))))) (
 .seq (
  .region false [⟨(some 11), (.mv (.tmp 0)), none⟩, ⟨(some 4), (.mv (.tmp 11)), none⟩] []) (
 .ret)))
def R_rat_gcd : List LRes := [(.tmp 4)]
def V_rat_gcd : List Nat := [1, 6, 0, 4]

end Go.Ago
