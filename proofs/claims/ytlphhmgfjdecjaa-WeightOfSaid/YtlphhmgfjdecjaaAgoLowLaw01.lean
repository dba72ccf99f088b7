/- Lowered functions of a package, callees by their numbers. Printed by a program of this session. Conditions: none. -/
import Derived.Test.YtlphhmgfjdecjaaAgo27
set_option maxRecDepth 100000
set_option linter.unusedVariables false
namespace Go.Ago
def L_law01_RatOrder (n_law01_awake : Nat) (n_rat_Right : Nat) (n_rat_Cmp : Nat) : LCode :=
 .seq (
  .region false [⟨(some 3), (.box 0 (.tmp 0)), none⟩,
    ⟨(some 4), (.box 1 (.tmp 1)), none⟩,
    ⟨(some 5), (.box 2 (.tmp 2)), none⟩,
    ⟨(some 6), (.mv (.cst (.d (.bool false)))), none⟩] []) (
 .seq (
  .seq (
   .region false [⟨(some 10), (.call 0 false (.cst (.d (.fn n_law01_awake))) []), none⟩, ⟨(some 11), (.un .not (.tmp 10)), none⟩] []) (
  .cond (.tmp 11) (
   .seq (
    .region false [⟨(some 6), (.mv (.cst (.d (.bool false)))), none⟩] []) (
   .ret)) (
   .skip))) (
 .seq (
  .seq (
   .region false [⟨(some 12), (.load true 2 (.tmp 3)), none⟩,
     ⟨(some 13), (.call 0 false (.cst (.d (.fn n_rat_Right))) [(.tmp 12)]), none⟩,
     ⟨(some 14), (.un .not (.tmp 13)), none⟩,
     ⟨(some 15), (.mv (.tmp 14)), none⟩,
     ⟨(some 16), (.load true 2 (.tmp 4)), (some (15, false))⟩,
     ⟨(some 17), (.call 0 false (.cst (.d (.fn n_rat_Right))) [(.tmp 16)]), (some (15, false))⟩,
     ⟨(some 18), (.un .not (.tmp 17)), (some (15, false))⟩,
     ⟨(some 19), (.pick (.tmp 15) (.cst (.d (.bool true))) (.tmp 18)), none⟩,
     ⟨(some 20), (.mv (.tmp 19)), none⟩,
     ⟨(some 21), (.load true 2 (.tmp 5)), (some (20, false))⟩,
     ⟨(some 22), (.call 0 false (.cst (.d (.fn n_rat_Right))) [(.tmp 21)]), (some (20, false))⟩,
     ⟨(some 23), (.un .not (.tmp 22)), (some (20, false))⟩,
     ⟨(some 24), (.pick (.tmp 20) (.cst (.d (.bool true))) (.tmp 23)), none⟩] []) (
  .cond (.tmp 24) (
   .seq (
    .region false [⟨(some 25), (.load true 2 (.tmp 3)), none⟩,
      ⟨(some 26), (.load true 2 (.tmp 4)), none⟩,
      ⟨(some 27), (.call 0 false (.cst (.d (.fn n_rat_Cmp))) [(.tmp 25), (.tmp 26)]), none⟩,
      ⟨(some 28), (.bin .eql (.tmp 27) (.cst (.d (.int .i64 0)))), none⟩,
      ⟨(some 29), (.mv (.tmp 28)), none⟩,
      ⟨(some 30), (.load true 2 (.tmp 3)), (some (29, false))⟩,
      ⟨(some 31), (.call 0 false (.cst (.d (.fn n_rat_Right))) [(.tmp 30)]), (some (29, false))⟩,
      ⟨(some 32), (.mv (.tmp 31)), (some (29, false))⟩,
      ⟨(some 33), (.load true 2 (.tmp 4)), (some (32, true))⟩,
      ⟨(some 34), (.call 0 false (.cst (.d (.fn n_rat_Right))) [(.tmp 33)]), (some (32, true))⟩,
      ⟨(some 35), (.pick (.tmp 32) (.tmp 34) (.cst (.d (.bool false)))), (some (29, false))⟩,
      ⟨(some 36), (.pick (.tmp 29) (.cst (.d (.bool true))) (.tmp 35)), none⟩,
      ⟨(some 6), (.mv (.tmp 36)), none⟩] []) (
   .ret)) (
   .skip))) (
 .seq (
  .region true [⟨(some 37), (.load true 2 (.tmp 3)), none⟩,
    ⟨(some 38), (.load true 2 (.tmp 4)), none⟩,
    ⟨(some 39), (.call 0 false (.cst (.d (.fn n_rat_Cmp))) [(.tmp 37), (.tmp 38)]), none⟩,
    ⟨(some 40), (.load true 2 (.tmp 4)), none⟩,
    ⟨(some 41), (.load true 2 (.tmp 5)), none⟩,
    ⟨(some 42), (.call 0 false (.cst (.d (.fn n_rat_Cmp))) [(.tmp 40), (.tmp 41)]), none⟩,
    ⟨(some 43), (.load true 2 (.tmp 3)), none⟩,
    ⟨(some 44), (.load true 2 (.tmp 5)), none⟩,
    ⟨(some 45), (.call 0 false (.cst (.d (.fn n_rat_Cmp))) [(.tmp 43), (.tmp 44)]), none⟩,
    ⟨(some 7), (.mv (.tmp 39)), none⟩,
    ⟨(some 8), (.mv (.tmp 42)), none⟩,
    ⟨(some 9), (.mv (.tmp 45)), none⟩] [(2, 3), (2, 4), (5, 6), (2, 6), (5, 7), (2, 7)]) (
 .seq (
  .region false [⟨(some 46), (.mv (.tmp 7)), none⟩,
    ⟨(some 47), (.load true 2 (.tmp 4)), none⟩,
    ⟨(some 48), (.load true 2 (.tmp 3)), none⟩,
    ⟨(some 49), (.call 0 false (.cst (.d (.fn n_rat_Cmp))) [(.tmp 47), (.tmp 48)]), none⟩,
    ⟨(some 50), (.un .neg (.tmp 49)), none⟩,
    ⟨(some 51), (.bin .eql (.tmp 46) (.tmp 50)), none⟩,
    ⟨(some 52), (.mv (.tmp 51)), none⟩,
    ⟨(some 53), (.mv (.tmp 7)), (some (52, true))⟩,
    ⟨(some 54), (.bin .gtr (.tmp 53) (.cst (.d (.int .i64 0)))), (some (52, true))⟩,
    ⟨(some 55), (.mv (.tmp 54)), (some (52, true))⟩,
    ⟨(some 56), (.mv (.tmp 8)), (some (55, false))⟩,
    ⟨(some 57), (.bin .gtr (.tmp 56) (.cst (.d (.int .i64 0)))), (some (55, false))⟩,
    ⟨(some 58), (.pick (.tmp 55) (.cst (.d (.bool true))) (.tmp 57)), (some (52, true))⟩,
    ⟨(some 59), (.mv (.tmp 58)), (some (52, true))⟩,
    ⟨(some 60), (.mv (.tmp 9)), (some (59, false))⟩,
    ⟨(some 61), (.bin .leq (.tmp 60) (.cst (.d (.int .i64 0)))), (some (59, false))⟩,
    ⟨(some 62), (.pick (.tmp 59) (.cst (.d (.bool true))) (.tmp 61)), (some (52, true))⟩,
    ⟨(some 63), (.pick (.tmp 52) (.tmp 62) (.cst (.d (.bool false)))), none⟩,
    ⟨(some 64), (.mv (.tmp 63)), none⟩,
    ⟨(some 65), (.mv (.tmp 7)), (some (64, true))⟩,
    ⟨(some 66), (.bin .neq (.tmp 65) (.cst (.d (.int .i64 0)))), (some (64, true))⟩,
    ⟨(some 67), (.mv (.tmp 66)), (some (64, true))⟩,
    ⟨(some 68), (.mv (.tmp 9)), (some (67, false))⟩,
    ⟨(some 69), (.mv (.tmp 8)), (some (67, false))⟩,
    ⟨(some 70), (.bin .eql (.tmp 68) (.tmp 69)), (some (67, false))⟩,
    ⟨(some 71), (.pick (.tmp 67) (.cst (.d (.bool true))) (.tmp 70)), (some (64, true))⟩,
    ⟨(some 72), (.pick (.tmp 64) (.tmp 71) (.cst (.d (.bool false)))), none⟩,
    ⟨(some 73), (.mv (.tmp 72)), none⟩,
    ⟨(some 74), (.load true 2 (.tmp 3)), (some (73, true))⟩,
    ⟨(some 75), (.load true 2 (.tmp 3)), (some (73, true))⟩,
    ⟨(some 76), (.call 0 false (.cst (.d (.fn n_rat_Cmp))) [(.tmp 74), (.tmp 75)]), (some (73, true))⟩,
    ⟨(some 77), (.bin .eql (.tmp 76) (.cst (.d (.int .i64 0)))), (some (73, true))⟩,
    ⟨(some 78), (.pick (.tmp 73) (.tmp 77) (.cst (.d (.bool false)))), none⟩,
    ⟨(some 6), (.mv (.tmp 78)), none⟩] []) (
 .ret)))))
def R_law01_RatOrder : List LRes := [(.tmp 6)]
def V_law01_RatOrder : List Nat := [0, 1, 2, 11, 3, 4, 5, 24, 7, 8, 9, 6]

def L_law01_RatTimes (n_law01_awake : Nat) (n_rat_Right : Nat) (n_rat_Cmp : Nat) (n_rat_Least : Nat) : LCode :=
 .seq (
  .region false [⟨(some 3), (.box 0 (.tmp 0)), none⟩,
    ⟨(some 4), (.box 1 (.tmp 1)), none⟩,
    ⟨(some 6), (.mv (.cst (.d (.bool false)))), none⟩] []) (
 .seq (
  .seq (
   .region false [⟨(some 8), (.call 0 false (.cst (.d (.fn n_law01_awake))) []), none⟩, ⟨(some 9), (.un .not (.tmp 8)), none⟩] []) (
  .cond (.tmp 9) (
   .seq (
    .region false [⟨(some 6), (.mv (.cst (.d (.bool false)))), none⟩] []) (
   .ret)) (
   .skip))) (
 .seq (
  .seq (
   .region false [⟨(some 10), (.load true 2 (.tmp 3)), none⟩,
     ⟨(some 11), (.call 0 false (.cst (.d (.fn n_rat_Right))) [(.tmp 10)]), none⟩,
     ⟨(some 12), (.un .not (.tmp 11)), none⟩,
     ⟨(some 13), (.mv (.tmp 12)), none⟩,
     ⟨(some 14), (.load true 2 (.tmp 4)), (some (13, false))⟩,
     ⟨(some 15), (.call 0 false (.cst (.d (.fn n_rat_Right))) [(.tmp 14)]), (some (13, false))⟩,
     ⟨(some 16), (.un .not (.tmp 15)), (some (13, false))⟩,
     ⟨(some 17), (.pick (.tmp 13) (.cst (.d (.bool true))) (.tmp 16)), none⟩,
     ⟨(some 18), (.mv (.tmp 17)), none⟩,
     ⟨(some 19), (.mv (.tmp 2)), (some (18, false))⟩,
     ⟨(some 20), (.bin .lss (.tmp 19) (.cst (.d (.int .i64 1)))), (some (18, false))⟩,
     ⟨(some 21), (.pick (.tmp 18) (.cst (.d (.bool true))) (.tmp 20)), none⟩,
     ⟨(some 22), (.mv (.tmp 21)), none⟩,
     ⟨(some 23), (.mv (.tmp 2)), (some (22, false))⟩,
     ⟨(some 24), (.bin .gtr (.tmp 23) (.cst (.d (.int .i64 1024)))), (some (22, false))⟩,
     ⟨(some 25), (.pick (.tmp 22) (.cst (.d (.bool true))) (.tmp 24)), none⟩] []) (
  .cond (.tmp 25) (
   .seq (
    .region false [⟨(some 6), (.mv (.cst (.d (.bool true)))), none⟩] []) (
   .ret)) (
   .skip))) (
 .seq (
  .region false [⟨(some 26), (.fieldAddr 0 (.tmp 3)), none⟩,
    ⟨(some 27), (.load false 1 (.tmp 26)), none⟩,
    ⟨(some 28), (.mv (.tmp 2)), none⟩,
    ⟨(some 29), (.bin .mul (.tmp 27) (.tmp 28)), none⟩,
    ⟨(some 30), (.fieldAddr 1 (.tmp 3)), none⟩,
    ⟨(some 31), (.load false 1 (.tmp 30)), none⟩,
    ⟨(some 32), (.mv (.tmp 2)), none⟩,
    ⟨(some 33), (.bin .mul (.tmp 31) (.tmp 32)), none⟩,
    ⟨(some 34), (.build [(.d (.int .i64 0)), (.d (.int .i64 0))] [(0, (1, (.tmp 29))), (1, (1, (.tmp 33)))]), none⟩,
    ⟨(some 7), (.alloc 0 2 [(.d (.int .i64 0)), (.d (.int .i64 0))]), none⟩,
    ⟨none, (.store 2 (.tmp 7) (.tmp 34)), none⟩] []) (
 .seq (
  .seq (
   .region false [⟨(some 35), (.load true 2 (.tmp 7)), none⟩,
     ⟨(some 36), (.call 0 false (.cst (.d (.fn n_rat_Right))) [(.tmp 35)]), none⟩,
     ⟨(some 37), (.un .not (.tmp 36)), none⟩] []) (
  .cond (.tmp 37) (
   .seq (
    .region true [⟨(some 38), (.load true 2 (.tmp 3)), none⟩,
      ⟨(some 39), (.load true 2 (.tmp 7)), none⟩,
      ⟨(some 40), (.call 0 false (.cst (.d (.fn n_rat_Cmp))) [(.tmp 38), (.tmp 39)]), none⟩,
      ⟨(some 41), (.bin .eql (.tmp 40) (.cst (.d (.int .i64 0)))), none⟩,
      ⟨(some 42), (.mv (.tmp 41)), none⟩,
      ⟨(some 43), (.load true 2 (.tmp 7)), (some (42, true))⟩,
      ⟨(some 44), (.call 0 false (.cst (.d (.fn n_rat_Least))) [(.tmp 43)]), (some (42, true))⟩,
      ⟨(some 45), (.load true 2 (.tmp 7)), (some (42, true))⟩,
      ⟨(some 46), (.eq false (.flat [true, true]) (.tmp 44) (.tmp 45)), (some (42, true))⟩,
      ⟨(some 47), (.pick (.tmp 42) (.tmp 46) (.cst (.d (.bool false)))), none⟩,
      ⟨(some 6), (.mv (.tmp 47)), none⟩] [(6, 7)]) (
   .ret)) (
   .skip))) (
 .seq (
  .region true [⟨(some 48), (.load true 2 (.tmp 3)), none⟩,
    ⟨(some 49), (.load true 2 (.tmp 7)), none⟩,
    ⟨(some 50), (.call 0 false (.cst (.d (.fn n_rat_Cmp))) [(.tmp 48), (.tmp 49)]), none⟩,
    ⟨(some 51), (.bin .eql (.tmp 50) (.cst (.d (.int .i64 0)))), none⟩,
    ⟨(some 52), (.mv (.tmp 51)), none⟩,
    ⟨(some 53), (.load true 2 (.tmp 7)), (some (52, true))⟩,
    ⟨(some 54), (.load true 2 (.tmp 4)), (some (52, true))⟩,
    ⟨(some 55), (.call 0 false (.cst (.d (.fn n_rat_Cmp))) [(.tmp 53), (.tmp 54)]), (some (52, true))⟩,
    ⟨(some 56), (.load true 2 (.tmp 3)), (some (52, true))⟩,
    ⟨(some 57), (.load true 2 (.tmp 4)), (some (52, true))⟩,
    ⟨(some 58), (.call 0 false (.cst (.d (.fn n_rat_Cmp))) [(.tmp 56), (.tmp 57)]), (some (52, true))⟩,
    ⟨(some 59), (.bin .eql (.tmp 55) (.tmp 58)), (some (52, true))⟩,
    ⟨(some 60), (.pick (.tmp 52) (.tmp 59) (.cst (.d (.bool false)))), none⟩,
    ⟨(some 61), (.mv (.tmp 60)), none⟩,
    ⟨(some 62), (.load true 2 (.tmp 3)), (some (61, true))⟩,
    ⟨(some 63), (.call 0 false (.cst (.d (.fn n_rat_Least))) [(.tmp 62)]), (some (61, true))⟩,
    ⟨(some 64), (.load true 2 (.tmp 7)), (some (61, true))⟩,
    ⟨(some 65), (.call 0 false (.cst (.d (.fn n_rat_Least))) [(.tmp 64)]), (some (61, true))⟩,
    ⟨(some 66), (.eq false (.flat [true, true]) (.tmp 63) (.tmp 65)), (some (61, true))⟩,
    ⟨(some 67), (.pick (.tmp 61) (.tmp 66) (.cst (.d (.bool false)))), none⟩,
    ⟨(some 6), (.mv (.tmp 67)), none⟩] [(7, 8), (7, 9), (15, 16)]) (
 .ret))))))
def R_law01_RatTimes : List LRes := [(.tmp 6)]
def V_law01_RatTimes : List Nat := [0, 1, 9, 3, 4, 2, 25, 7, 37, 6]

def L_law01_RatLeast (n_law01_awake : Nat) (n_rat_Right : Nat) (n_rat_Cmp : Nat) (n_rat_Least : Nat) (n_rat_Max : Nat) : LCode :=
 .seq (
  .region false [⟨(some 2), (.box 0 (.tmp 0)), none⟩,
    ⟨(some 3), (.box 1 (.tmp 1)), none⟩,
    ⟨(some 4), (.mv (.cst (.d (.bool false)))), none⟩] []) (
 .seq (
  .seq (
   .region false [⟨(some 8), (.call 0 false (.cst (.d (.fn n_law01_awake))) []), none⟩, ⟨(some 9), (.un .not (.tmp 8)), none⟩] []) (
  .cond (.tmp 9) (
   .seq (
    .region false [⟨(some 4), (.mv (.cst (.d (.bool false)))), none⟩] []) (
   .ret)) (
   .skip))) (
 .seq (
  .seq (
   .region false [⟨(some 10), (.load true 2 (.tmp 2)), none⟩,
     ⟨(some 11), (.call 0 false (.cst (.d (.fn n_rat_Right))) [(.tmp 10)]), none⟩,
     ⟨(some 12), (.un .not (.tmp 11)), none⟩,
     ⟨(some 13), (.mv (.tmp 12)), none⟩,
     ⟨(some 14), (.load true 2 (.tmp 3)), (some (13, false))⟩,
     ⟨(some 15), (.call 0 false (.cst (.d (.fn n_rat_Right))) [(.tmp 14)]), (some (13, false))⟩,
     ⟨(some 16), (.un .not (.tmp 15)), (some (13, false))⟩,
     ⟨(some 17), (.pick (.tmp 13) (.cst (.d (.bool true))) (.tmp 16)), none⟩] []) (
  .cond (.tmp 17) (
   .seq (
    .region false [⟨(some 4), (.mv (.cst (.d (.bool true)))), none⟩] []) (
   .ret)) (
   .skip))) (
 .seq (
  .region true [⟨(some 18), (.load true 2 (.tmp 2)), none⟩,
    ⟨(some 19), (.call 0 false (.cst (.d (.fn n_rat_Least))) [(.tmp 18)]), none⟩,
    ⟨(some 20), (.load true 2 (.tmp 3)), none⟩,
    ⟨(some 21), (.call 0 false (.cst (.d (.fn n_rat_Least))) [(.tmp 20)]), none⟩,
    ⟨(some 5), (.alloc 0 2 [(.d (.int .i64 0)), (.d (.int .i64 0))]), none⟩,
    ⟨(some 6), (.alloc 1 2 [(.d (.int .i64 0)), (.d (.int .i64 0))]), none⟩,
    ⟨none, (.store 2 (.tmp 5) (.tmp 19)), none⟩,
    ⟨none, (.store 2 (.tmp 6) (.tmp 21)), none⟩] [(1, 2), (3, 4), (2, 4), (1, 4), (0, 4), (4, 5), (3, 5), (2, 5), (1, 5), (0, 5)]) (
 .seq (
  .region false [⟨(some 22), (.load true 2 (.tmp 2)), none⟩,
    ⟨(some 23), (.load true 2 (.tmp 3)), none⟩,
    ⟨(some 24), (.call 0 false (.cst (.d (.fn n_rat_Max))) [(.tmp 22), (.tmp 23)]), none⟩,
    ⟨(some 7), (.alloc 0 2 [(.d (.int .i64 0)), (.d (.int .i64 0))]), none⟩,
    ⟨none, (.store 2 (.tmp 7) (.tmp 24)), none⟩] []) (
 .seq (
  .region true [⟨(some 25), (.load true 2 (.tmp 5)), none⟩,
    ⟨(some 26), (.call 0 false (.cst (.d (.fn n_rat_Right))) [(.tmp 25)]), none⟩,
    ⟨(some 27), (.mv (.tmp 26)), none⟩,
    ⟨(some 28), (.load true 2 (.tmp 5)), (some (27, true))⟩,
    ⟨(some 29), (.load true 2 (.tmp 2)), (some (27, true))⟩,
    ⟨(some 30), (.call 0 false (.cst (.d (.fn n_rat_Cmp))) [(.tmp 28), (.tmp 29)]), (some (27, true))⟩,
    ⟨(some 31), (.bin .eql (.tmp 30) (.cst (.d (.int .i64 0)))), (some (27, true))⟩,
    ⟨(some 32), (.pick (.tmp 27) (.tmp 31) (.cst (.d (.bool false)))), none⟩,
    ⟨(some 33), (.mv (.tmp 32)), none⟩,
    ⟨(some 34), (.fieldAddr 1 (.tmp 5)), (some (33, true))⟩,
    ⟨(some 35), (.load false 1 (.tmp 34)), (some (33, true))⟩,
    ⟨(some 36), (.fieldAddr 1 (.tmp 2)), (some (33, true))⟩,
    ⟨(some 37), (.load false 1 (.tmp 36)), (some (33, true))⟩,
    ⟨(some 38), (.bin .leq (.tmp 35) (.tmp 37)), (some (33, true))⟩,
    ⟨(some 39), (.pick (.tmp 33) (.tmp 38) (.cst (.d (.bool false)))), none⟩,
    ⟨(some 40), (.mv (.tmp 39)), none⟩,
    ⟨(some 41), (.load true 2 (.tmp 2)), (some (40, true))⟩,
    ⟨(some 42), (.load true 2 (.tmp 3)), (some (40, true))⟩,
    ⟨(some 43), (.call 0 false (.cst (.d (.fn n_rat_Cmp))) [(.tmp 41), (.tmp 42)]), (some (40, true))⟩,
    ⟨(some 44), (.bin .eql (.tmp 43) (.cst (.d (.int .i64 0)))), (some (40, true))⟩,
    ⟨(some 45), (.load true 2 (.tmp 5)), (some (40, true))⟩,
    ⟨(some 46), (.load true 2 (.tmp 6)), (some (40, true))⟩,
    ⟨(some 47), (.eq false (.flat [true, true]) (.tmp 45) (.tmp 46)), (some (40, true))⟩,
    ⟨(some 48), (.eq false .bool (.tmp 44) (.tmp 47)), (some (40, true))⟩,
    ⟨(some 49), (.pick (.tmp 40) (.tmp 48) (.cst (.d (.bool false)))), none⟩,
    ⟨(some 50), (.mv (.tmp 49)), none⟩,
    ⟨(some 51), (.load true 2 (.tmp 7)), (some (50, true))⟩,
    ⟨(some 52), (.load true 2 (.tmp 2)), (some (50, true))⟩,
    ⟨(some 53), (.eq false (.flat [true, true]) (.tmp 51) (.tmp 52)), (some (50, true))⟩,
    ⟨(some 54), (.mv (.tmp 53)), (some (50, true))⟩,
    ⟨(some 55), (.load true 2 (.tmp 7)), (some (54, false))⟩,
    ⟨(some 56), (.load true 2 (.tmp 3)), (some (54, false))⟩,
    ⟨(some 57), (.eq false (.flat [true, true]) (.tmp 55) (.tmp 56)), (some (54, false))⟩,
    ⟨(some 58), (.pick (.tmp 54) (.cst (.d (.bool true))) (.tmp 57)), (some (50, true))⟩,
    ⟨(some 59), (.pick (.tmp 50) (.tmp 58) (.cst (.d (.bool false)))), none⟩,
    ⟨(some 60), (.mv (.tmp 59)), none⟩,
    ⟨(some 61), (.load true 2 (.tmp 7)), (some (60, true))⟩,
    ⟨(some 62), (.load true 2 (.tmp 2)), (some (60, true))⟩,
    ⟨(some 63), (.call 0 false (.cst (.d (.fn n_rat_Cmp))) [(.tmp 61), (.tmp 62)]), (some (60, true))⟩,
    ⟨(some 64), (.bin .geq (.tmp 63) (.cst (.d (.int .i64 0)))), (some (60, true))⟩,
    ⟨(some 65), (.pick (.tmp 60) (.tmp 64) (.cst (.d (.bool false)))), none⟩,
    ⟨(some 66), (.mv (.tmp 65)), none⟩,
    ⟨(some 67), (.load true 2 (.tmp 7)), (some (66, true))⟩,
    ⟨(some 68), (.load true 2 (.tmp 3)), (some (66, true))⟩,
    ⟨(some 69), (.call 0 false (.cst (.d (.fn n_rat_Cmp))) [(.tmp 67), (.tmp 68)]), (some (66, true))⟩,
    ⟨(some 70), (.bin .geq (.tmp 69) (.cst (.d (.int .i64 0)))), (some (66, true))⟩,
    ⟨(some 71), (.pick (.tmp 66) (.tmp 70) (.cst (.d (.bool false)))), none⟩,
    ⟨(some 4), (.mv (.tmp 71)), none⟩] [(18, 20), (18, 21)]) (
 .ret))))))
def R_law01_RatLeast : List LRes := [(.tmp 4)]
def V_law01_RatLeast : List Nat := [0, 1, 9, 2, 3, 17, 5, 6, 7, 4]

def L_law01_RatBetween (n_law01_awake : Nat) (n_rat_Right : Nat) (n_rat_Cmp : Nat) (n_rat_Between : Nat) (n_rat_After : Nat) : LCode :=
 .seq (
  .region false [⟨(some 2), (.box 0 (.tmp 0)), none⟩,
    ⟨(some 3), (.box 1 (.tmp 1)), none⟩,
    ⟨(some 4), (.mv (.cst (.d (.bool false)))), none⟩] []) (
 .seq (
  .seq (
   .region false [⟨(some 10), (.call 0 false (.cst (.d (.fn n_law01_awake))) []), none⟩, ⟨(some 11), (.un .not (.tmp 10)), none⟩] []) (
  .cond (.tmp 11) (
   .seq (
    .region false [⟨(some 4), (.mv (.cst (.d (.bool false)))), none⟩] []) (
   .ret)) (
   .skip))) (
 .seq (
  .seq (
   .region false [⟨(some 13), (.load true 2 (.tmp 2)), none⟩,
     ⟨(some 14), (.load true 2 (.tmp 3)), none⟩,
     ⟨(some 15), (.call 0 false (.cst (.d (.fn n_rat_Between))) [(.tmp 13), (.tmp 14)]), none⟩,
     ⟨(some 12), (.mv (.tmp 15)), none⟩,
     ⟨(some 16), (.extract 0 (.tmp 12)), none⟩,
     ⟨(some 17), (.extract 1 (.tmp 12)), none⟩,
     ⟨(some 5), (.alloc 0 2 [(.d (.int .i64 0)), (.d (.int .i64 0))]), none⟩,
     ⟨none, (.store 2 (.tmp 5) (.tmp 16)), none⟩,
     ⟨(some 6), (.mv (.tmp 17)), none⟩] []) (
  .seq (
   .region false [⟨(some 18), (.mv (.tmp 6)), none⟩,
     ⟨(some 19), (.mv (.tmp 18)), none⟩,
     ⟨(some 20), (.load true 2 (.tmp 5)), (some (19, true))⟩,
     ⟨(some 21), (.call 0 false (.cst (.d (.fn n_rat_Right))) [(.tmp 20)]), (some (19, true))⟩,
     ⟨(some 22), (.un .not (.tmp 21)), (some (19, true))⟩,
     ⟨(some 23), (.mv (.tmp 22)), (some (19, true))⟩,
     ⟨(some 24), (.load true 2 (.tmp 2)), (some (23, false))⟩,
     ⟨(some 25), (.load true 2 (.tmp 5)), (some (23, false))⟩,
     ⟨(some 26), (.call 0 false (.cst (.d (.fn n_rat_Cmp))) [(.tmp 24), (.tmp 25)]), (some (23, false))⟩,
     ⟨(some 27), (.bin .neq (.tmp 26) (.cst (.d (.int .i64 (-1))))), (some (23, false))⟩,
     ⟨(some 28), (.pick (.tmp 23) (.cst (.d (.bool true))) (.tmp 27)), (some (19, true))⟩,
     ⟨(some 29), (.mv (.tmp 28)), (some (19, true))⟩,
     ⟨(some 30), (.load true 2 (.tmp 5)), (some (29, false))⟩,
     ⟨(some 31), (.load true 2 (.tmp 3)), (some (29, false))⟩,
     ⟨(some 32), (.call 0 false (.cst (.d (.fn n_rat_Cmp))) [(.tmp 30), (.tmp 31)]), (some (29, false))⟩,
     ⟨(some 33), (.bin .neq (.tmp 32) (.cst (.d (.int .i64 (-1))))), (some (29, false))⟩,
     ⟨(some 34), (.pick (.tmp 29) (.cst (.d (.bool true))) (.tmp 33)), (some (19, true))⟩,
     ⟨(some 35), (.pick (.tmp 19) (.tmp 34) (.cst (.d (.bool false)))), none⟩] []) (
  .cond (.tmp 35) (
   .seq (
    .region false [⟨(some 4), (.mv (.cst (.d (.bool false)))), none⟩] []) (
   .ret)) (
   .skip)))) (
 .seq (
  .seq (
   .region false [⟨(some 37), (.load true 2 (.tmp 2)), none⟩,
     ⟨(some 38), (.call 0 false (.cst (.d (.fn n_rat_After))) [(.tmp 37)]), none⟩,
     ⟨(some 36), (.mv (.tmp 38)), none⟩,
     ⟨(some 39), (.extract 0 (.tmp 36)), none⟩,
     ⟨(some 40), (.extract 1 (.tmp 36)), none⟩,
     ⟨(some 7), (.alloc 0 2 [(.d (.int .i64 0)), (.d (.int .i64 0))]), none⟩,
     ⟨none, (.store 2 (.tmp 7) (.tmp 39)), none⟩,
     ⟨(some 8), (.mv (.tmp 40)), none⟩] []) (
  .seq (
   .region false [⟨(some 41), (.mv (.tmp 8)), none⟩] []) (
  .cond (.tmp 41) (
   .seq (
    .region false [⟨(some 42), (.fieldAddr 0 (.tmp 7)), none⟩,
      ⟨(some 43), (.load false 1 (.tmp 42)), none⟩,
      ⟨(some 44), (.bin .sub (.tmp 43) (.cst (.d (.int .i64 1)))), none⟩,
      ⟨(some 45), (.build [(.d (.int .i64 0)), (.d (.int .i64 0))] [(0, (1, (.tmp 44))), (1, (1, (.cst (.d (.int .i64 1)))))]), none⟩,
      ⟨(some 9), (.alloc 0 2 [(.d (.int .i64 0)), (.d (.int .i64 0))]), none⟩,
      ⟨none, (.store 2 (.tmp 9) (.tmp 45)), none⟩] []) (
   .seq (
    .region false [⟨(some 46), (.fieldAddr 1 (.tmp 7)), none⟩,
      ⟨(some 47), (.load false 1 (.tmp 46)), none⟩,
      ⟨(some 48), (.bin .neq (.tmp 47) (.cst (.d (.int .i64 1)))), none⟩,
      ⟨(some 49), (.mv (.tmp 48)), none⟩,
      ⟨(some 50), (.load true 2 (.tmp 2)), (some (49, false))⟩,
      ⟨(some 51), (.load true 2 (.tmp 7)), (some (49, false))⟩,
      ⟨(some 52), (.call 0 false (.cst (.d (.fn n_rat_Cmp))) [(.tmp 50), (.tmp 51)]), (some (49, false))⟩,
      ⟨(some 53), (.bin .neq (.tmp 52) (.cst (.d (.int .i64 (-1))))), (some (49, false))⟩,
      ⟨(some 54), (.pick (.tmp 49) (.cst (.d (.bool true))) (.tmp 53)), none⟩,
      ⟨(some 55), (.mv (.tmp 54)), none⟩,
      ⟨(some 56), (.load true 2 (.tmp 9)), (some (55, false))⟩,
      ⟨(some 57), (.call 0 false (.cst (.d (.fn n_rat_Right))) [(.tmp 56)]), (some (55, false))⟩,
      ⟨(some 58), (.mv (.tmp 57)), (some (55, false))⟩,
      ⟨(some 59), (.load true 2 (.tmp 9)), (some (58, true))⟩,
      ⟨(some 60), (.load true 2 (.tmp 2)), (some (58, true))⟩,
      ⟨(some 61), (.call 0 false (.cst (.d (.fn n_rat_Cmp))) [(.tmp 59), (.tmp 60)]), (some (58, true))⟩,
      ⟨(some 62), (.bin .eql (.tmp 61) (.cst (.d (.int .i64 1)))), (some (58, true))⟩,
      ⟨(some 63), (.pick (.tmp 58) (.tmp 62) (.cst (.d (.bool false)))), (some (55, false))⟩,
      ⟨(some 64), (.pick (.tmp 55) (.cst (.d (.bool true))) (.tmp 63)), none⟩] []) (
   .cond (.tmp 64) (
    .seq (
     .region false [⟨(some 4), (.mv (.cst (.d (.bool false)))), none⟩] []) (
    .ret)) (
    .skip)))) (
   .skip)))) (
 .seq (
  .region false [⟨(some 4), (.mv (.cst (.d (.bool true)))), none⟩] []) (
 .ret)))))
def R_law01_RatBetween : List LRes := [(.tmp 4)]
def V_law01_RatBetween : List Nat := [0, 1, 11, 2, 3, 6, 5, 35, 8, 41, 7, 9, 64, 4]

def L_law01_RatAll (n_law01_awake : Nat) (n_rat_Right : Nat) (n_rat_Cmp : Nat) (n_rat_Least : Nat) (n_rat_Max : Nat) (n_rat_Between : Nat) (n_rat_After : Nat) (n_ref01_Between : Nat) (n_ref01_After : Nat) (n_ref01_Right : Nat) (n_ref01_Cmp : Nat) (n_ref01_Least : Nat) (n_ref01_Max : Nat) : LCode :=
 .seq (
  .region false [⟨(some 2), (.box 0 (.tmp 0)), none⟩,
    ⟨(some 3), (.box 1 (.tmp 1)), none⟩,
    ⟨(some 4), (.mv (.cst (.d (.bool false)))), none⟩] []) (
 .seq (
  .seq (
   .region false [⟨(some 13), (.call 0 false (.cst (.d (.fn n_law01_awake))) []), none⟩, ⟨(some 14), (.un .not (.tmp 13)), none⟩] []) (
  .cond (.tmp 14) (
   .seq (
    .region false [⟨(some 4), (.mv (.cst (.d (.bool false)))), none⟩] []) (
   .ret)) (
   .skip))) (
 .seq (
  .region false [⟨(some 16), (.load true 2 (.tmp 2)), none⟩,
    ⟨(some 17), (.load true 2 (.tmp 3)), none⟩,
    ⟨(some 18), (.call 0 false (.cst (.d (.fn n_rat_Between))) [(.tmp 16), (.tmp 17)]), none⟩,
    ⟨(some 15), (.mv (.tmp 18)), none⟩,
    ⟨(some 19), (.extract 0 (.tmp 15)), none⟩,
    ⟨(some 20), (.extract 1 (.tmp 15)), none⟩,
    ⟨(some 5), (.alloc 0 2 [(.d (.int .i64 0)), (.d (.int .i64 0))]), none⟩,
    ⟨none, (.store 2 (.tmp 5) (.tmp 19)), none⟩,
    ⟨(some 6), (.mv (.tmp 20)), none⟩] []) (
 .seq (
  .region false [⟨(some 22), (.load true 2 (.tmp 2)), none⟩,
    ⟨(some 23), (.load true 2 (.tmp 3)), none⟩,
    ⟨(some 24), (.call 0 false (.cst (.d (.fn n_ref01_Between))) [(.tmp 22), (.tmp 23)]), none⟩,
    ⟨(some 21), (.mv (.tmp 24)), none⟩,
    ⟨(some 25), (.extract 0 (.tmp 21)), none⟩,
    ⟨(some 26), (.extract 1 (.tmp 21)), none⟩,
    ⟨(some 7), (.alloc 0 2 [(.d (.int .i64 0)), (.d (.int .i64 0))]), none⟩,
    ⟨none, (.store 2 (.tmp 7) (.tmp 25)), none⟩,
    ⟨(some 8), (.mv (.tmp 26)), none⟩] []) (
 .seq (
  .region false [⟨(some 28), (.load true 2 (.tmp 2)), none⟩,
    ⟨(some 29), (.call 0 false (.cst (.d (.fn n_rat_After))) [(.tmp 28)]), none⟩,
    ⟨(some 27), (.mv (.tmp 29)), none⟩,
    ⟨(some 30), (.extract 0 (.tmp 27)), none⟩,
    ⟨(some 31), (.extract 1 (.tmp 27)), none⟩,
    ⟨(some 9), (.alloc 0 2 [(.d (.int .i64 0)), (.d (.int .i64 0))]), none⟩,
    ⟨none, (.store 2 (.tmp 9) (.tmp 30)), none⟩,
    ⟨(some 10), (.mv (.tmp 31)), none⟩] []) (
 .seq (
  .region false [⟨(some 33), (.load true 2 (.tmp 2)), none⟩,
    ⟨(some 34), (.call 0 false (.cst (.d (.fn n_ref01_After))) [(.tmp 33)]), none⟩,
    ⟨(some 32), (.mv (.tmp 34)), none⟩,
    ⟨(some 35), (.extract 0 (.tmp 32)), none⟩,
    ⟨(some 36), (.extract 1 (.tmp 32)), none⟩,
    ⟨(some 11), (.alloc 0 2 [(.d (.int .i64 0)), (.d (.int .i64 0))]), none⟩,
    ⟨none, (.store 2 (.tmp 11) (.tmp 35)), none⟩,
    ⟨(some 12), (.mv (.tmp 36)), none⟩] []) (
 .seq (
  .region true [⟨(some 37), (.load true 2 (.tmp 2)), none⟩,
    ⟨(some 38), (.call 0 false (.cst (.d (.fn n_rat_Right))) [(.tmp 37)]), none⟩,
    ⟨(some 39), (.load true 2 (.tmp 2)), none⟩,
    ⟨(some 40), (.call 0 false (.cst (.d (.fn n_ref01_Right))) [(.tmp 39)]), none⟩,
    ⟨(some 41), (.eq false .bool (.tmp 38) (.tmp 40)), none⟩,
    ⟨(some 42), (.mv (.tmp 41)), none⟩,
    ⟨(some 43), (.load true 2 (.tmp 2)), (some (42, true))⟩,
    ⟨(some 44), (.load true 2 (.tmp 3)), (some (42, true))⟩,
    ⟨(some 45), (.call 0 false (.cst (.d (.fn n_rat_Cmp))) [(.tmp 43), (.tmp 44)]), (some (42, true))⟩,
    ⟨(some 46), (.load true 2 (.tmp 2)), (some (42, true))⟩,
    ⟨(some 47), (.load true 2 (.tmp 3)), (some (42, true))⟩,
    ⟨(some 48), (.call 0 false (.cst (.d (.fn n_ref01_Cmp))) [(.tmp 46), (.tmp 47)]), (some (42, true))⟩,
    ⟨(some 49), (.bin .eql (.tmp 45) (.tmp 48)), (some (42, true))⟩,
    ⟨(some 50), (.pick (.tmp 42) (.tmp 49) (.cst (.d (.bool false)))), none⟩,
    ⟨(some 51), (.mv (.tmp 50)), none⟩,
    ⟨(some 52), (.load true 2 (.tmp 2)), (some (51, true))⟩,
    ⟨(some 53), (.call 0 false (.cst (.d (.fn n_rat_Least))) [(.tmp 52)]), (some (51, true))⟩,
    ⟨(some 54), (.load true 2 (.tmp 2)), (some (51, true))⟩,
    ⟨(some 55), (.call 0 false (.cst (.d (.fn n_ref01_Least))) [(.tmp 54)]), (some (51, true))⟩,
    ⟨(some 56), (.eq false (.flat [true, true]) (.tmp 53) (.tmp 55)), (some (51, true))⟩,
    ⟨(some 57), (.pick (.tmp 51) (.tmp 56) (.cst (.d (.bool false)))), none⟩,
    ⟨(some 58), (.mv (.tmp 57)), none⟩,
    ⟨(some 59), (.load true 2 (.tmp 2)), (some (58, true))⟩,
    ⟨(some 60), (.load true 2 (.tmp 3)), (some (58, true))⟩,
    ⟨(some 61), (.call 0 false (.cst (.d (.fn n_rat_Max))) [(.tmp 59), (.tmp 60)]), (some (58, true))⟩,
    ⟨(some 62), (.load true 2 (.tmp 2)), (some (58, true))⟩,
    ⟨(some 63), (.load true 2 (.tmp 3)), (some (58, true))⟩,
    ⟨(some 64), (.call 0 false (.cst (.d (.fn n_ref01_Max))) [(.tmp 62), (.tmp 63)]), (some (58, true))⟩,
    ⟨(some 65), (.eq false (.flat [true, true]) (.tmp 61) (.tmp 64)), (some (58, true))⟩,
    ⟨(some 66), (.pick (.tmp 58) (.tmp 65) (.cst (.d (.bool false)))), none⟩,
    ⟨(some 67), (.mv (.tmp 66)), none⟩,
    ⟨(some 68), (.load true 2 (.tmp 5)), (some (67, true))⟩,
    ⟨(some 69), (.load true 2 (.tmp 7)), (some (67, true))⟩,
    ⟨(some 70), (.eq false (.flat [true, true]) (.tmp 68) (.tmp 69)), (some (67, true))⟩,
    ⟨(some 71), (.pick (.tmp 67) (.tmp 70) (.cst (.d (.bool false)))), none⟩,
    ⟨(some 72), (.mv (.tmp 71)), none⟩,
    ⟨(some 73), (.mv (.tmp 6)), (some (72, true))⟩,
    ⟨(some 74), (.mv (.tmp 8)), (some (72, true))⟩,
    ⟨(some 75), (.eq false .bool (.tmp 73) (.tmp 74)), (some (72, true))⟩,
    ⟨(some 76), (.pick (.tmp 72) (.tmp 75) (.cst (.d (.bool false)))), none⟩,
    ⟨(some 77), (.mv (.tmp 76)), none⟩,
    ⟨(some 78), (.load true 2 (.tmp 9)), (some (77, true))⟩,
    ⟨(some 79), (.load true 2 (.tmp 11)), (some (77, true))⟩,
    ⟨(some 80), (.eq false (.flat [true, true]) (.tmp 78) (.tmp 79)), (some (77, true))⟩,
    ⟨(some 81), (.pick (.tmp 77) (.tmp 80) (.cst (.d (.bool false)))), none⟩,
    ⟨(some 82), (.mv (.tmp 81)), none⟩,
    ⟨(some 83), (.mv (.tmp 10)), (some (82, true))⟩,
    ⟨(some 84), (.mv (.tmp 12)), (some (82, true))⟩,
    ⟨(some 85), (.eq false .bool (.tmp 83) (.tmp 84)), (some (82, true))⟩,
    ⟨(some 86), (.pick (.tmp 82) (.tmp 85) (.cst (.d (.bool false)))), none⟩,
    ⟨(some 4), (.mv (.tmp 86)), none⟩] [(1, 2), (8, 9), (8, 10), (16, 17), (24, 25), (24, 26)]) (
 .ret)))))))
def R_law01_RatAll : List LRes := [(.tmp 4)]
def V_law01_RatAll : List Nat := [0, 1, 14, 2, 3, 5, 7, 6, 8, 9, 11, 10, 12, 4]

def L_law01_awake (n_rat_Right : Nat) (n_rat_Cmp : Nat) (n_rat_Between : Nat) : LCode :=
 .seq (
  .region false [⟨(some 0), (.mv (.cst (.d (.bool false)))), none⟩] []) (
 .seq (
  .region false [⟨(some 4), (.build [(.d (.int .i64 0)), (.d (.int .i64 0))] [(1, (1, (.cst (.d (.int .i64 1)))))]), none⟩,
    ⟨(some 5), (.build [(.d (.int .i64 0)), (.d (.int .i64 0))] [(0, (1, (.cst (.d (.int .i64 1))))), (1, (1, (.cst (.d (.int .i64 1)))))]), none⟩,
    ⟨(some 6), (.call 0 false (.cst (.d (.fn n_rat_Between))) [(.tmp 4), (.tmp 5)]), none⟩,
    ⟨(some 3), (.mv (.tmp 6)), none⟩,
    ⟨(some 7), (.extract 0 (.tmp 3)), none⟩,
    ⟨(some 8), (.extract 1 (.tmp 3)), none⟩,
    ⟨(some 1), (.alloc 0 2 [(.d (.int .i64 0)), (.d (.int .i64 0))]), none⟩,
    ⟨none, (.store 2 (.tmp 1) (.tmp 7)), none⟩,
    ⟨(some 2), (.mv (.tmp 8)), none⟩] []) (
 .seq (
  .region false [⟨(some 9), (.mv (.tmp 2)), none⟩,
    ⟨(some 10), (.mv (.tmp 9)), none⟩,
    ⟨(some 11), (.load true 2 (.tmp 1)), (some (10, true))⟩,
    ⟨(some 12), (.build [(.d (.int .i64 0)), (.d (.int .i64 0))] [(0, (1, (.cst (.d (.int .i64 1))))), (1, (1, (.cst (.d (.int .i64 2)))))]), (some (10, true))⟩,
    ⟨(some 13), (.eq false (.flat [true, true]) (.tmp 11) (.tmp 12)), (some (10, true))⟩,
    ⟨(some 14), (.pick (.tmp 10) (.tmp 13) (.cst (.d (.bool false)))), none⟩,
    ⟨(some 15), (.mv (.tmp 14)), none⟩,
    ⟨(some 16), (.load true 2 (.tmp 1)), (some (15, true))⟩,
    ⟨(some 17), (.call 0 false (.cst (.d (.fn n_rat_Right))) [(.tmp 16)]), (some (15, true))⟩,
    ⟨(some 18), (.pick (.tmp 15) (.tmp 17) (.cst (.d (.bool false)))), none⟩,
    ⟨(some 19), (.mv (.tmp 18)), none⟩,
    ⟨(some 20), (.load true 2 (.tmp 1)), (some (19, true))⟩,
    ⟨(some 21), (.build [(.d (.int .i64 0)), (.d (.int .i64 0))] [(0, (1, (.cst (.d (.int .i64 2))))), (1, (1, (.cst (.d (.int .i64 4)))))]), (some (19, true))⟩,
    ⟨(some 22), (.call 0 false (.cst (.d (.fn n_rat_Cmp))) [(.tmp 20), (.tmp 21)]), (some (19, true))⟩,
    ⟨(some 23), (.bin .eql (.tmp 22) (.cst (.d (.int .i64 0)))), (some (19, true))⟩,
    ⟨(some 24), (.pick (.tmp 19) (.tmp 23) (.cst (.d (.bool false)))), none⟩,
    ⟨(some 0), (.mv (.tmp 24)), none⟩] []) (
 .ret)))
def R_law01_awake : List LRes := [(.tmp 0)]
def V_law01_awake : List Nat := [2, 1, 0]

end Go.Ago
