/- Lowered functions of a package, callees by their numbers. Printed by a program of this session. Conditions: none. -/
import Derived.Test.YtoicaaidleddfaaAgoP3
set_option maxRecDepth 100000
set_option linter.unusedVariables false
namespace Go.Ago
def L_slices_BinarySearchFunc_api_Stamp_api_Rat : LCode :=
 .seq (
  .region false [⟨(some 4), (.box 0 (.tmp 1)), none⟩,
    ⟨(some 6), (.mv (.cst (.d (.int .i64 0)))), none⟩,
    ⟨(some 7), (.mv (.cst (.d (.bool false)))), none⟩] []) (
 .seq (
  .region false [⟨(some 12), (.mv (.tmp 0)), none⟩,
    ⟨(some 13), (.len (.tmp 12)), none⟩,
    ⟨(some 8), (.mv (.tmp 13)), none⟩] []) (
 .seq (
  .region false [⟨(some 14), (.mv (.tmp 8)), none⟩,
    ⟨(some 9), (.mv (.cst (.d (.int .i64 0)))), none⟩,
    ⟨(some 10), (.mv (.tmp 14)), none⟩] []) (
 .seq (
  .block 0 (
   .loop (
    .seq (
     .seq (
      .region false [⟨(some 15), (.mv (.tmp 9)), none⟩,
        ⟨(some 16), (.mv (.tmp 10)), none⟩,
        ⟨(some 17), (.bin .lss (.tmp 15) (.tmp 16)), none⟩] []) (
     .cond (.tmp 17) (
      .skip) (
      (.exit 0)))) (
    .block 1 (
     .seq (
      .region false [⟨(some 18), (.mv (.tmp 9)), none⟩,
        ⟨(some 19), (.mv (.tmp 10)), none⟩,
        ⟨(some 20), (.bin .add (.tmp 18) (.tmp 19)), none⟩,
        ⟨(some 21), (.conv .u64 (.tmp 20)), none⟩,
        ⟨(some 22), (.bin .shr (.tmp 21) (.cst (.d (.int .u64 1)))), none⟩,
        ⟨(some 23), (.conv .i64 (.tmp 22)), none⟩,
        ⟨(some 11), (.mv (.tmp 23)), none⟩] []) (
     .seq (
      .region true [⟨(some 24), (.mv (.tmp 2)), none⟩,
        ⟨(some 25), (.mv (.tmp 0)), none⟩,
        ⟨(some 26), (.mv (.tmp 11)), none⟩,
        ⟨(some 27), (.idxAddr 3 (.tmp 25) (.tmp 26)), none⟩,
        ⟨(some 28), (.load true 3 (.tmp 27)), none⟩,
        ⟨(some 29), (.load true 2 (.tmp 4)), none⟩,
        ⟨(some 30), (.call 0 false (.tmp 24) [(.tmp 28), (.tmp 29)]), none⟩,
        ⟨(some 31), (.bin .lss (.tmp 30) (.cst (.d (.int .i64 0)))), none⟩] []) (
     .cond (.tmp 31) (
      .region false [⟨(some 32), (.mv (.tmp 11)), none⟩,
        ⟨(some 33), (.bin .add (.tmp 32) (.cst (.d (.int .i64 1)))), none⟩,
        ⟨(some 9), (.mv (.tmp 33)), none⟩] []) (
      .region false [⟨(some 34), (.mv (.tmp 11)), none⟩, ⟨(some 10), (.mv (.tmp 34)), none⟩] [])))))))) (
 .seq (
  .region true [⟨(some 35), (.mv (.tmp 9)), none⟩,
    ⟨(some 36), (.mv (.tmp 9)), none⟩,
    ⟨(some 37), (.mv (.tmp 8)), none⟩,
    ⟨(some 38), (.bin .lss (.tmp 36) (.tmp 37)), none⟩,
    ⟨(some 39), (.mv (.tmp 38)), none⟩,
    ⟨(some 40), (.mv (.tmp 2)), (some (39, true))⟩,
    ⟨(some 41), (.mv (.tmp 0)), (some (39, true))⟩,
    ⟨(some 42), (.mv (.tmp 9)), (some (39, true))⟩,
    ⟨(some 43), (.idxAddr 3 (.tmp 41) (.tmp 42)), (some (39, true))⟩,
    ⟨(some 44), (.load true 3 (.tmp 43)), (some (39, true))⟩,
    ⟨(some 45), (.load true 2 (.tmp 4)), (some (39, true))⟩,
    ⟨(some 46), (.call 0 false (.tmp 40) [(.tmp 44), (.tmp 45)]), (some (39, true))⟩,
    ⟨(some 47), (.bin .eql (.tmp 46) (.cst (.d (.int .i64 0)))), (some (39, true))⟩,
    ⟨(some 48), (.pick (.tmp 39) (.tmp 47) (.cst (.d (.bool false)))), none⟩,
    ⟨(some 6), (.mv (.tmp 35)), none⟩,
    ⟨(some 7), (.mv (.tmp 48)), none⟩] []) (
 .ret)))))
def R_slices_BinarySearchFunc_api_Stamp_api_Rat : List LRes := [(.tmp 6), (.tmp 7)]
def V_slices_BinarySearchFunc_api_Stamp_api_Rat : List Nat := [1, 0, 8, 9, 10, 17, 2, 11, 4, 31, 6, 7]

def L_slices_rotateRight_api_Stamp (n_slices_rotateLeft_api_Stamp : Nat) : LCode :=
 .region false [⟨(some 4), (.mv (.tmp 0)), none⟩,
   ⟨(some 5), (.mv (.tmp 0)), none⟩,
   ⟨(some 6), (.len (.tmp 5)), none⟩,
   ⟨(some 7), (.mv (.tmp 1)), none⟩,
   ⟨(some 8), (.bin .sub (.tmp 6) (.tmp 7)), none⟩,
   ⟨(some 9), (.call 0 false (.cst (.d (.fn n_slices_rotateLeft_api_Stamp))) [(.tmp 4), (.tmp 8)]), none⟩] []
def R_slices_rotateRight_api_Stamp : List LRes := []
def L_slices_rotateLeft_api_Stamp (n_slices_Reverse_api_Stamp : Nat) : LCode :=
 .seq (
  .region false [⟨(some 4), (.mv (.tmp 0)), none⟩,
    ⟨(some 5), (.mv (.tmp 1)), none⟩,
    ⟨(some 6), (.slice 3 (.tmp 4) none (some (.tmp 5)) none), none⟩,
    ⟨(some 7), (.call 0 false (.cst (.d (.fn n_slices_Reverse_api_Stamp))) [(.tmp 6)]), none⟩] []) (
 .seq (
  .region false [⟨(some 8), (.mv (.tmp 0)), none⟩,
    ⟨(some 9), (.mv (.tmp 1)), none⟩,
    ⟨(some 10), (.slice 3 (.tmp 8) (some (.tmp 9)) none none), none⟩,
    ⟨(some 11), (.call 0 false (.cst (.d (.fn n_slices_Reverse_api_Stamp))) [(.tmp 10)]), none⟩] []) (
 .region false [⟨(some 12), (.mv (.tmp 0)), none⟩, ⟨(some 13), (.call 0 false (.cst (.d (.fn n_slices_Reverse_api_Stamp))) [(.tmp 12)]), none⟩] []))
def R_slices_rotateLeft_api_Stamp : List LRes := []
def L_slices_Reverse_api_Stamp : LCode :=
 .seq (
  .region false [⟨(some 4), (.mv (.tmp 0)), none⟩,
    ⟨(some 5), (.len (.tmp 4)), none⟩,
    ⟨(some 6), (.bin .sub (.tmp 5) (.cst (.d (.int .i64 1)))), none⟩,
    ⟨(some 2), (.mv (.cst (.d (.int .i64 0)))), none⟩,
    ⟨(some 3), (.mv (.tmp 6)), none⟩] []) (
 .block 0 (
  .loop (
   .seq (
    .seq (
     .region false [⟨(some 7), (.mv (.tmp 2)), none⟩,
       ⟨(some 8), (.mv (.tmp 3)), none⟩,
       ⟨(some 9), (.bin .lss (.tmp 7) (.tmp 8)), none⟩] []) (
    .cond (.tmp 9) (
     .skip) (
     (.exit 0)))) (
   .seq (
    .block 1 (
     .region true [⟨(some 14), (.mv (.tmp 0)), none⟩,
       ⟨(some 15), (.mv (.tmp 2)), none⟩,
       ⟨(some 16), (.mv (.tmp 0)), none⟩,
       ⟨(some 17), (.mv (.tmp 3)), none⟩,
       ⟨(some 18), (.mv (.tmp 0)), none⟩,
       ⟨(some 19), (.mv (.tmp 3)), none⟩,
       ⟨(some 20), (.idxAddr 3 (.tmp 18) (.tmp 19)), none⟩,
       ⟨(some 21), (.load true 3 (.tmp 20)), none⟩,
       ⟨(some 22), (.mv (.tmp 0)), none⟩,
       ⟨(some 23), (.mv (.tmp 2)), none⟩,
       ⟨(some 24), (.idxAddr 3 (.tmp 22) (.tmp 23)), none⟩,
       ⟨(some 25), (.load true 3 (.tmp 24)), none⟩,
       ⟨(some 26), (.idxAddr 3 (.tmp 14) (.tmp 15)), none⟩,
       ⟨none, (.store 3 (.tmp 26) (.tmp 21)), none⟩,
       ⟨(some 27), (.idxAddr 3 (.tmp 16) (.tmp 17)), none⟩,
       ⟨none, (.store 3 (.tmp 27) (.tmp 25)), none⟩] [])) (
   .region false [⟨(some 10), (.mv (.tmp 2)), none⟩,
     ⟨(some 11), (.bin .add (.tmp 10) (.cst (.d (.int .i64 1)))), none⟩,
     ⟨(some 12), (.mv (.tmp 3)), none⟩,
     ⟨(some 13), (.bin .sub (.tmp 12) (.cst (.d (.int .i64 1)))), none⟩,
     ⟨(some 2), (.mv (.tmp 11)), none⟩,
     ⟨(some 3), (.mv (.tmp 13)), none⟩] [])))))
def R_slices_Reverse_api_Stamp : List LRes := []
def L_slices_Clone_int64 : LCode :=
 .seq (
  .region false [⟨(some 2), (.mv (.cst (.d (.list [] true)))), none⟩] []) (
 .seq (
  .seq (
   .nilq [⟨(some 3), (.mv (.tmp 0)), none⟩] false 4 (.tmp 3)) (
  .cond (.tmp 4) (
   .seq (
    .region false [⟨(some 2), (.mv (.cst (.d (.list [] true)))), none⟩] []) (
   .ret)) (
   .skip))) (
 .seq (
  .region false [⟨(some 5), (.mv (.cst (.d (.list [] true)))), none⟩,
    ⟨(some 6), (.mv (.tmp 0)), none⟩,
    ⟨(some 7), (.append 0 1 8 (.tmp 5) (.tmp 6)), none⟩,
    ⟨(some 2), (.mv (.tmp 7)), none⟩] []) (
 .ret)))
def R_slices_Clone_int64 : List LRes := [(.tmp 2)]
def V_slices_Clone_int64 : List Nat := [0, 4, 2]

def L_slices_Clone_api_Loc : LCode :=
 .seq (
  .region false [⟨(some 2), (.mv (.cst (.d (.list [] true)))), none⟩] []) (
 .seq (
  .seq (
   .nilq [⟨(some 3), (.mv (.tmp 0)), none⟩] false 4 (.tmp 3)) (
  .cond (.tmp 4) (
   .seq (
    .region false [⟨(some 2), (.mv (.cst (.d (.list [] true)))), none⟩] []) (
   .ret)) (
   .skip))) (
 .seq (
  .region false [⟨(some 5), (.mv (.cst (.d (.list [] true)))), none⟩,
    ⟨(some 6), (.mv (.tmp 0)), none⟩,
    ⟨(some 7), (.append 0 2 16 (.tmp 5) (.tmp 6)), none⟩,
    ⟨(some 2), (.mv (.tmp 7)), none⟩] []) (
 .ret)))
def R_slices_Clone_api_Loc : List LRes := [(.tmp 2)]
def V_slices_Clone_api_Loc : List Nat := [0, 4, 2]

def L_slices_Clone_api_Rat : LCode :=
 .seq (
  .region false [⟨(some 2), (.mv (.cst (.d (.list [] true)))), none⟩] []) (
 .seq (
  .seq (
   .nilq [⟨(some 3), (.mv (.tmp 0)), none⟩] false 4 (.tmp 3)) (
  .cond (.tmp 4) (
   .seq (
    .region false [⟨(some 2), (.mv (.cst (.d (.list [] true)))), none⟩] []) (
   .ret)) (
   .skip))) (
 .seq (
  .region false [⟨(some 5), (.mv (.cst (.d (.list [] true)))), none⟩,
    ⟨(some 6), (.mv (.tmp 0)), none⟩,
    ⟨(some 7), (.append 0 2 16 (.tmp 5) (.tmp 6)), none⟩,
    ⟨(some 2), (.mv (.tmp 7)), none⟩] []) (
 .ret)))
def R_slices_Clone_api_Rat : List LRes := [(.tmp 2)]
def V_slices_Clone_api_Rat : List Nat := [0, 4, 2]

def L_slices_Clone_api_Stamp_api_Stamp : LCode :=
 .seq (
  .region false [⟨(some 2), (.mv (.cst (.d (.list [] true)))), none⟩] []) (
 .seq (
  .seq (
   .nilq [⟨(some 3), (.mv (.tmp 0)), none⟩] false 4 (.tmp 3)) (
  .cond (.tmp 4) (
   .seq (
    .region false [⟨(some 2), (.mv (.cst (.d (.list [] true)))), none⟩] []) (
   .ret)) (
   .skip))) (
 .seq (
  .region false [⟨(some 5), (.mv (.cst (.d (.list [] true)))), none⟩,
    ⟨(some 6), (.mv (.tmp 0)), none⟩,
    ⟨(some 7), (.append 0 1 24 (.tmp 5) (.tmp 6)), none⟩,
    ⟨(some 2), (.mv (.tmp 7)), none⟩] []) (
 .ret)))
def R_slices_Clone_api_Stamp_api_Stamp : List LRes := [(.tmp 2)]
def V_slices_Clone_api_Stamp_api_Stamp : List Nat := [0, 4, 2]

def L_slices_Clone_api_Rat_api_Rat : LCode :=
 .seq (
  .region false [⟨(some 2), (.mv (.cst (.d (.list [] true)))), none⟩] []) (
 .seq (
  .seq (
   .nilq [⟨(some 3), (.mv (.tmp 0)), none⟩] false 4 (.tmp 3)) (
  .cond (.tmp 4) (
   .seq (
    .region false [⟨(some 2), (.mv (.cst (.d (.list [] true)))), none⟩] []) (
   .ret)) (
   .skip))) (
 .seq (
  .region false [⟨(some 5), (.mv (.cst (.d (.list [] true)))), none⟩,
    ⟨(some 6), (.mv (.tmp 0)), none⟩,
    ⟨(some 7), (.append 0 1 24 (.tmp 5) (.tmp 6)), none⟩,
    ⟨(some 2), (.mv (.tmp 7)), none⟩] []) (
 .ret)))
def R_slices_Clone_api_Rat_api_Rat : List LRes := [(.tmp 2)]
def V_slices_Clone_api_Rat_api_Rat : List Nat := [0, 4, 2]

def L_slices_Clone_api_Stamp : LCode :=
 .seq (
  .region false [⟨(some 2), (.mv (.cst (.d (.list [] true)))), none⟩] []) (
 .seq (
  .seq (
   .nilq [⟨(some 3), (.mv (.tmp 0)), none⟩] false 4 (.tmp 3)) (
  .cond (.tmp 4) (
   .seq (
    .region false [⟨(some 2), (.mv (.cst (.d (.list [] true)))), none⟩] []) (
   .ret)) (
   .skip))) (
 .seq (
  .region false [⟨(some 5), (.mv (.cst (.d (.list [] true)))), none⟩,
    ⟨(some 6), (.mv (.tmp 0)), none⟩,
    ⟨(some 7), (.append 0 3 24 (.tmp 5) (.tmp 6)), none⟩,
    ⟨(some 2), (.mv (.tmp 7)), none⟩] []) (
 .ret)))
def R_slices_Clone_api_Stamp : List LRes := [(.tmp 2)]
def V_slices_Clone_api_Stamp : List Nat := [0, 4, 2]

def L_slices_Insert_api_Stamp (n_slices_rotateRight_api_Stamp : Nat) : LCode :=
 .seq (
  .region false [⟨(some 6), (.mv (.cst (.d (.list [] true)))), none⟩] []) (
 .seq (
  .region false [⟨(some 10), (.mv (.tmp 0)), none⟩,
    ⟨(some 11), (.mv (.tmp 1)), none⟩,
    ⟨(some 12), (.slice 3 (.tmp 10) (some (.tmp 11)) none none), none⟩] []) (
 .seq (
  .region false [⟨(some 13), (.mv (.tmp 2)), none⟩,
    ⟨(some 14), (.len (.tmp 13)), none⟩,
    ⟨(some 7), (.mv (.tmp 14)), none⟩] []) (
 .seq (
  .seq (
   .region false [⟨(some 15), (.mv (.tmp 7)), none⟩, ⟨(some 16), (.bin .eql (.tmp 15) (.cst (.d (.int .i64 0)))), none⟩] []) (
  .cond (.tmp 16) (
   .seq (
    .region false [⟨(some 17), (.mv (.tmp 0)), none⟩, ⟨(some 6), (.mv (.tmp 17)), none⟩] []) (
   .ret)) (
   .skip))) (
 .seq (
  .region false [⟨(some 18), (.mv (.tmp 0)), none⟩,
    ⟨(some 19), (.len (.tmp 18)), none⟩,
    ⟨(some 8), (.mv (.tmp 19)), none⟩] []) (
 .seq (
  .seq (
   .region false [⟨(some 20), (.mv (.tmp 1)), none⟩,
     ⟨(some 21), (.mv (.tmp 8)), none⟩,
     ⟨(some 22), (.bin .eql (.tmp 20) (.tmp 21)), none⟩] []) (
  .cond (.tmp 22) (
   .seq (
    .region false [⟨(some 23), (.mv (.tmp 0)), none⟩,
      ⟨(some 24), (.mv (.tmp 2)), none⟩,
      ⟨(some 25), (.append 0 3 24 (.tmp 23) (.tmp 24)), none⟩,
      ⟨(some 6), (.mv (.tmp 25)), none⟩] []) (
   .ret)) (
   .skip))) (
 .seq (
  .seq (
   .region false [⟨(some 26), (.mv (.tmp 8)), none⟩,
     ⟨(some 27), (.mv (.tmp 7)), none⟩,
     ⟨(some 28), (.bin .add (.tmp 26) (.tmp 27)), none⟩,
     ⟨(some 29), (.mv (.tmp 0)), none⟩,
     ⟨(some 30), (.fl .cap (.tmp 29) (.tmp 29)), none⟩,
     ⟨(some 31), (.bin .gtr (.tmp 28) (.tmp 30)), none⟩] []) (
  .cond (.tmp 31) (
   .seq (
    .region false [⟨(some 32), (.mv (.tmp 0)), none⟩,
      ⟨(some 33), (.mv (.tmp 1)), none⟩,
      ⟨(some 34), (.slice 3 (.tmp 32) none (some (.tmp 33)) none), none⟩,
      ⟨(some 35), (.mv (.tmp 8)), none⟩,
      ⟨(some 36), (.mv (.tmp 7)), none⟩,
      ⟨(some 37), (.bin .add (.tmp 35) (.tmp 36)), none⟩,
      ⟨(some 38), (.mv (.tmp 1)), none⟩,
      ⟨(some 39), (.bin .sub (.tmp 37) (.tmp 38)), none⟩,
      ⟨(some 40), (.appz 0 3 24 [(.d (.int .i64 0)), (.d (.int .i64 0)), (.d (.int .i64 0))] (.tmp 34) (.tmp 39)), none⟩,
      ⟨(some 9), (.mv (.tmp 40)), none⟩] []) (
   .seq (
    .region false [⟨(some 41), (.mv (.tmp 9)), none⟩,
      ⟨(some 42), (.mv (.tmp 1)), none⟩,
      ⟨(some 43), (.slice 3 (.tmp 41) (some (.tmp 42)) none none), none⟩,
      ⟨(some 44), (.mv (.tmp 2)), none⟩,
      ⟨(some 45), (.copy 3 (.tmp 43) (.tmp 44)), none⟩] []) (
   .seq (
    .region true [⟨(some 46), (.mv (.tmp 9)), none⟩,
      ⟨(some 47), (.mv (.tmp 1)), none⟩,
      ⟨(some 48), (.mv (.tmp 7)), none⟩,
      ⟨(some 49), (.bin .add (.tmp 47) (.tmp 48)), none⟩,
      ⟨(some 50), (.slice 3 (.tmp 46) (some (.tmp 49)) none none), none⟩,
      ⟨(some 51), (.mv (.tmp 0)), none⟩,
      ⟨(some 52), (.mv (.tmp 1)), none⟩,
      ⟨(some 53), (.slice 3 (.tmp 51) (some (.tmp 52)) none none), none⟩,
      ⟨(some 54), (.copy 3 (.tmp 50) (.tmp 53)), none⟩] []) (
   .seq (
    .region false [⟨(some 55), (.mv (.tmp 9)), none⟩, ⟨(some 6), (.mv (.tmp 55)), none⟩] []) (
   .ret))))) (
   .skip))) (
 .seq (
  .region false [⟨(some 56), (.mv (.tmp 0)), none⟩,
    ⟨(some 57), (.mv (.tmp 8)), none⟩,
    ⟨(some 58), (.mv (.tmp 7)), none⟩,
    ⟨(some 59), (.bin .add (.tmp 57) (.tmp 58)), none⟩,
    ⟨(some 60), (.slice 3 (.tmp 56) none (some (.tmp 59)) none), none⟩,
    ⟨(some 0), (.mv (.tmp 60)), none⟩] []) (
 .seq (
  .seq (
   .region false [⟨(some 61), (.mv (.tmp 2)), none⟩,
     ⟨(some 62), (.mv (.tmp 0)), none⟩,
     ⟨(some 63), (.mv (.tmp 1)), none⟩,
     ⟨(some 64), (.mv (.tmp 7)), none⟩,
     ⟨(some 65), (.bin .add (.tmp 63) (.tmp 64)), none⟩,
     ⟨(some 66), (.slice 3 (.tmp 62) (some (.tmp 65)) none none), none⟩,
     ⟨(some 67), (.apart (.tmp 61) (.tmp 66)), none⟩,
     ⟨(some 68), (.un .not (.tmp 67)), none⟩] []) (
  .cond (.tmp 68) (
   .seq (
    .region true [⟨(some 69), (.mv (.tmp 0)), none⟩,
      ⟨(some 70), (.mv (.tmp 1)), none⟩,
      ⟨(some 71), (.mv (.tmp 7)), none⟩,
      ⟨(some 72), (.bin .add (.tmp 70) (.tmp 71)), none⟩,
      ⟨(some 73), (.slice 3 (.tmp 69) (some (.tmp 72)) none none), none⟩,
      ⟨(some 74), (.mv (.tmp 0)), none⟩,
      ⟨(some 75), (.mv (.tmp 1)), none⟩,
      ⟨(some 76), (.slice 3 (.tmp 74) (some (.tmp 75)) none none), none⟩,
      ⟨(some 77), (.copy 3 (.tmp 73) (.tmp 76)), none⟩] []) (
   .seq (
    .region false [⟨(some 78), (.mv (.tmp 0)), none⟩,
      ⟨(some 79), (.mv (.tmp 1)), none⟩,
      ⟨(some 80), (.slice 3 (.tmp 78) (some (.tmp 79)) none none), none⟩,
      ⟨(some 81), (.mv (.tmp 2)), none⟩,
      ⟨(some 82), (.copy 3 (.tmp 80) (.tmp 81)), none⟩] []) (
   .seq (
    .region false [⟨(some 83), (.mv (.tmp 0)), none⟩, ⟨(some 6), (.mv (.tmp 83)), none⟩] []) (
   .ret)))) (
   .skip))) (
 .seq (
  .region false [⟨(some 84), (.mv (.tmp 0)), none⟩,
    ⟨(some 85), (.mv (.tmp 8)), none⟩,
    ⟨(some 86), (.slice 3 (.tmp 84) (some (.tmp 85)) none none), none⟩,
    ⟨(some 87), (.mv (.tmp 2)), none⟩,
    ⟨(some 88), (.copy 3 (.tmp 86) (.tmp 87)), none⟩] []) (
 .seq (
  .region false [⟨(some 89), (.mv (.tmp 0)), none⟩,
    ⟨(some 90), (.mv (.tmp 1)), none⟩,
    ⟨(some 91), (.slice 3 (.tmp 89) (some (.tmp 90)) none none), none⟩,
    ⟨(some 92), (.mv (.tmp 7)), none⟩,
    ⟨(some 93), (.call 0 false (.cst (.d (.fn n_slices_rotateRight_api_Stamp))) [(.tmp 91), (.tmp 92)]), none⟩] []) (
 .seq (
  .region false [⟨(some 94), (.mv (.tmp 0)), none⟩, ⟨(some 6), (.mv (.tmp 94)), none⟩] []) (
 .ret))))))))))))
def R_slices_Insert_api_Stamp : List LRes := [(.tmp 6)]
def V_slices_Insert_api_Stamp : List Nat := [0, 1, 2, 7, 16, 8, 22, 31, 9, 68, 6]

end Go.Ago

/- Lowered functions of a package, callees by their numbers. Printed by a program of this session. Conditions: none. -/
set_option maxRecDepth 100000
set_option linter.unusedVariables false
namespace Go.Ago
def L_rat_Right : LCode :=
 .seq (
  .region false [⟨(some 1), (.box 0 (.tmp 0)), none⟩, ⟨(some 2), (.mv (.cst (.d (.bool false)))), none⟩] []) (
 .seq (
  .region false [⟨(some 3), (.fieldAddr 1 (.tmp 1)), none⟩,
    ⟨(some 4), (.load false 1 (.tmp 3)), none⟩,
    ⟨(some 5), (.bin .geq (.tmp 4) (.cst (.d (.int .i64 1)))), none⟩,
    ⟨(some 6), (.mv (.tmp 5)), none⟩,
    ⟨(some 7), (.fieldAddr 1 (.tmp 1)), (some (6, true))⟩,
    ⟨(some 8), (.load false 1 (.tmp 7)), (some (6, true))⟩,
    ⟨(some 9), (.bin .leq (.tmp 8) (.cst (.d (.int .i64 1024)))), (some (6, true))⟩,
    ⟨(some 10), (.pick (.tmp 6) (.tmp 9) (.cst (.d (.bool false)))), none⟩,
    ⟨(some 11), (.mv (.tmp 10)), none⟩,
    ⟨(some 12), (.fieldAddr 0 (.tmp 1)), (some (11, true))⟩,
    ⟨(some 13), (.load false 1 (.tmp 12)), (some (11, true))⟩,
    ⟨(some 14), (.bin .geq (.tmp 13) (.cst (.d (.int .i64 (-1048576))))), (some (11, true))⟩,
    ⟨(some 15), (.pick (.tmp 11) (.tmp 14) (.cst (.d (.bool false)))), none⟩,
    ⟨(some 16), (.mv (.tmp 15)), none⟩,
    ⟨(some 17), (.fieldAddr 0 (.tmp 1)), (some (16, true))⟩,
    ⟨(some 18), (.load false 1 (.tmp 17)), (some (16, true))⟩,
    ⟨(some 19), (.bin .leq (.tmp 18) (.cst (.d (.int .i64 1048576)))), (some (16, true))⟩,
    ⟨(some 20), (.pick (.tmp 16) (.tmp 19) (.cst (.d (.bool false)))), none⟩,
    ⟨(some 2), (.mv (.tmp 20)), none⟩] []) (
 .ret))
def R_rat_Right : List LRes := [(.tmp 2)]
def V_rat_Right : List Nat := [0, 1, 2]

def L_rat_Cmp (n_rat_Right : Nat) : LCode :=
 .seq (
  .region false [⟨(some 2), (.box 0 (.tmp 0)), none⟩,
    ⟨(some 3), (.box 1 (.tmp 1)), none⟩,
    ⟨(some 4), (.mv (.cst (.d (.int .i64 0)))), none⟩] []) (
 .seq (
  .seq (
   .region false [⟨(some 7), (.load true 2 (.tmp 2)), none⟩,
     ⟨(some 8), (.call 0 false (.cst (.d (.fn n_rat_Right))) [(.tmp 7)]), none⟩,
     ⟨(some 9), (.un .not (.tmp 8)), none⟩,
     ⟨(some 10), (.mv (.tmp 9)), none⟩,
     ⟨(some 11), (.load true 2 (.tmp 3)), (some (10, false))⟩,
     ⟨(some 12), (.call 0 false (.cst (.d (.fn n_rat_Right))) [(.tmp 11)]), (some (10, false))⟩,
     ⟨(some 13), (.un .not (.tmp 12)), (some (10, false))⟩,
     ⟨(some 14), (.pick (.tmp 10) (.cst (.d (.bool true))) (.tmp 13)), none⟩] []) (
  .cond (.tmp 14) (
   .seq (
    .region false [⟨(some 4), (.mv (.cst (.d (.int .i64 0)))), none⟩] []) (
   .ret)) (
   .skip))) (
 .seq (
  .region true [⟨(some 15), (.fieldAddr 0 (.tmp 2)), none⟩,
    ⟨(some 16), (.load false 1 (.tmp 15)), none⟩,
    ⟨(some 17), (.fieldAddr 1 (.tmp 3)), none⟩,
    ⟨(some 18), (.load false 1 (.tmp 17)), none⟩,
    ⟨(some 19), (.bin .mul (.tmp 16) (.tmp 18)), none⟩,
    ⟨(some 20), (.fieldAddr 0 (.tmp 3)), none⟩,
    ⟨(some 21), (.load false 1 (.tmp 20)), none⟩,
    ⟨(some 22), (.fieldAddr 1 (.tmp 2)), none⟩,
    ⟨(some 23), (.load false 1 (.tmp 22)), none⟩,
    ⟨(some 24), (.bin .mul (.tmp 21) (.tmp 23)), none⟩,
    ⟨(some 5), (.mv (.tmp 19)), none⟩,
    ⟨(some 6), (.mv (.tmp 24)), none⟩] []) (
 .seq (
  .block 0 (
   .seq (
    .region false [⟨(some 26), (.mv (.tmp 5)), none⟩,
      ⟨(some 27), (.mv (.tmp 6)), none⟩,
      ⟨(some 28), (.bin .lss (.tmp 26) (.tmp 27)), none⟩,
      ⟨(some 25), (.mv (.tmp 28)), none⟩] []) (
   .cond (.tmp 25) (
    .seq (
     .region false [⟨(some 4), (.mv (.cst (.d (.int .i64 (-1))))), none⟩] []) (
    .ret)) (
    .seq (
     .region false [⟨(some 30), (.mv (.tmp 5)), none⟩,
       ⟨(some 31), (.mv (.tmp 6)), none⟩,
       ⟨(some 32), (.bin .gtr (.tmp 30) (.tmp 31)), none⟩,
       ⟨(some 29), (.mv (.tmp 32)), none⟩] []) (
    .cond (.tmp 29) (
     .seq (
      .region false [⟨(some 4), (.mv (.cst (.d (.int .i64 1)))), none⟩] []) (
     .ret)) (
     .skip)))))) (
 .seq (
  .region false [⟨(some 4), (.mv (.cst (.d (.int .i64 0)))), none⟩] []) (
 .ret)))))
def R_rat_Cmp : List LRes := [(.tmp 4)]
def V_rat_Cmp : List Nat := [0, 1, 2, 3, 14, 5, 6, 25, 29, 4]

def L_rat_Least (n_rat_Right : Nat) (n_rat_gcd : Nat) : LCode :=
 .seq (
  .region false [⟨(some 1), (.box 0 (.tmp 0)), none⟩, ⟨(some 2), (.alloc 1 2 [(.d (.int .i64 0)), (.d (.int .i64 0))]), none⟩] []) (
 .seq (
  .seq (
   .region false [⟨(some 4), (.load true 2 (.tmp 1)), none⟩,
     ⟨(some 5), (.call 0 false (.cst (.d (.fn n_rat_Right))) [(.tmp 4)]), none⟩,
     ⟨(some 6), (.un .not (.tmp 5)), none⟩] []) (
  .cond (.tmp 6) (
   .seq (
    .region false [⟨(some 7), (.load true 2 (.tmp 1)), none⟩, ⟨none, (.store 2 (.tmp 2) (.tmp 7)), none⟩] []) (
   .ret)) (
   .skip))) (
 .seq (
  .region false [⟨(some 8), (.fieldAddr 0 (.tmp 1)), none⟩,
    ⟨(some 9), (.load false 1 (.tmp 8)), none⟩,
    ⟨(some 10), (.fieldAddr 0 (.tmp 1)), none⟩,
    ⟨(some 11), (.load false 1 (.tmp 10)), none⟩,
    ⟨(some 12), (.un .neg (.tmp 11)), none⟩,
    ⟨(some 13), (.maxi (.tmp 9) (.tmp 12)), none⟩,
    ⟨(some 14), (.fieldAddr 1 (.tmp 1)), none⟩,
    ⟨(some 15), (.load false 1 (.tmp 14)), none⟩,
    ⟨(some 16), (.call 0 false (.cst (.d (.fn n_rat_gcd))) [(.tmp 13), (.tmp 15)]), none⟩,
    ⟨(some 3), (.mv (.tmp 16)), none⟩] []) (
 .seq (
  .region true [⟨(some 17), (.fieldAddr 0 (.tmp 1)), none⟩,
    ⟨(some 18), (.load false 1 (.tmp 17)), none⟩,
    ⟨(some 19), (.mv (.tmp 3)), none⟩,
    ⟨(some 20), (.bin .quo (.tmp 18) (.tmp 19)), none⟩,
    ⟨(some 21), (.fieldAddr 1 (.tmp 1)), none⟩,
    ⟨(some 22), (.load false 1 (.tmp 21)), none⟩,
    ⟨(some 23), (.mv (.tmp 3)), none⟩,
    ⟨(some 24), (.bin .quo (.tmp 22) (.tmp 23)), none⟩,
    ⟨(some 25), (.build [(.d (.int .i64 0)), (.d (.int .i64 0))] [(0, (1, (.tmp 20))), (1, (1, (.tmp 24)))]), none⟩,
    ⟨none, (.store 2 (.tmp 2) (.tmp 25)), none⟩] []) (
 .ret))))
def R_rat_Least : List LRes := [(.cell 2 true 2)]
def V_rat_Least : List Nat := [0, 1, 6, 2, 3]

def L_rat_Max (n_rat_Cmp : Nat) : LCode :=
 .seq (
  .region false [⟨(some 2), (.box 0 (.tmp 0)), none⟩,
    ⟨(some 3), (.box 1 (.tmp 1)), none⟩,
    ⟨(some 4), (.alloc 2 2 [(.d (.int .i64 0)), (.d (.int .i64 0))]), none⟩] []) (
 .seq (
  .seq (
   .region false [⟨(some 5), (.load true 2 (.tmp 2)), none⟩,
     ⟨(some 6), (.load true 2 (.tmp 3)), none⟩,
     ⟨(some 7), (.call 0 false (.cst (.d (.fn n_rat_Cmp))) [(.tmp 5), (.tmp 6)]), none⟩,
     ⟨(some 8), (.bin .lss (.tmp 7) (.cst (.d (.int .i64 0)))), none⟩] []) (
  .cond (.tmp 8) (
   .seq (
    .region false [⟨(some 9), (.load true 2 (.tmp 3)), none⟩, ⟨none, (.store 2 (.tmp 4) (.tmp 9)), none⟩] []) (
   .ret)) (
   .skip))) (
 .seq (
  .region false [⟨(some 10), (.load true 2 (.tmp 2)), none⟩, ⟨none, (.store 2 (.tmp 4) (.tmp 10)), none⟩] []) (
 .ret)))
def R_rat_Max : List LRes := [(.cell 4 true 2)]
def V_rat_Max : List Nat := [0, 1, 2, 3, 8, 4]

def L_rat_gcd : LCode :=
 .seq (
  .region false [⟨(some 4), (.mv (.cst (.d (.int .i64 0)))), none⟩] []) (
 .seq (
  .block 0 (
   .loop (
    .seq (
     .seq (
      .region false [⟨(some 5), (.mv (.tmp 1)), none⟩, ⟨(some 6), (.bin .neq (.tmp 5) (.cst (.d (.int .i64 0)))), none⟩] []) (
     .cond (.tmp 6) (
      .skip) (
      (.exit 0)))) (
    .block 1 (
     .region true [⟨(some 7), (.mv (.tmp 1)), none⟩,
       ⟨(some 8), (.mv (.tmp 0)), none⟩,
       ⟨(some 9), (.mv (.tmp 1)), none⟩,
       ⟨(some 10), (.bin .rem (.tmp 8) (.tmp 9)), none⟩,
       ⟨(some 0), (.mv (.tmp 7)), none⟩,
       ⟨(some 1), (.mv (.tmp 10)), none⟩] []))))) (
 .seq (
  .region false [⟨(some 11), (.mv (.tmp 0)), none⟩, ⟨(some 4), (.mv (.tmp 11)), none⟩] []) (
 .ret)))
def R_rat_gcd : List LRes := [(.tmp 4)]
def V_rat_gcd : List Nat := [1, 6, 0, 4]

end Go.Ago

/- Lowered functions of a package, callees by their numbers. Printed by a program of this session. Conditions: none. -/
set_option maxRecDepth 100000
set_option linter.unusedVariables false
namespace Go.Ago
def L_act_Right : LCode :=
 .seq (
  .region false [⟨(some 2), (.box 0 (.tmp 0)), none⟩, ⟨(some 4), (.mv (.cst (.d (.bool false)))), none⟩] []) (
 .seq (
  .region false [⟨(some 5), (.mv (.cst (.d (.bool false)))), none⟩,
    ⟨(some 6), (.mv (.cst (.d (.bool false)))), none⟩,
    ⟨(some 7), (.mv (.cst (.d (.bool false)))), none⟩] []) (
 .seq (
  .seq (
   .region false [⟨(some 8), (.fieldAddr 0 (.tmp 2)), none⟩, ⟨(some 9), (.load false 1 (.tmp 8)), none⟩] []) (
  .block 0 (
   .seq (
    .region false [⟨(some 11), (.bin .eql (.tmp 9) (.cst (.d (.int .i64 6)))), none⟩, ⟨(some 10), (.mv (.tmp 11)), none⟩] []) (
   .cond (.tmp 10) (
    .seq (
     .region false [⟨(some 12), (.fieldAddr 1 (.tmp 2)), none⟩,
       ⟨(some 13), (.load false 1 (.tmp 12)), none⟩,
       ⟨(some 14), (.bin .eql (.tmp 13) (.cst (.d (.int .i64 0)))), none⟩,
       ⟨(some 15), (.mv (.tmp 14)), none⟩,
       ⟨(some 16), (.fieldAddr 2 (.tmp 2)), (some (15, true))⟩,
       ⟨(some 17), (.load false 1 (.tmp 16)), (some (15, true))⟩,
       ⟨(some 18), (.bin .eql (.tmp 17) (.cst (.d (.int .i64 0)))), (some (15, true))⟩,
       ⟨(some 19), (.pick (.tmp 15) (.tmp 18) (.cst (.d (.bool false)))), none⟩,
       ⟨(some 4), (.mv (.tmp 19)), none⟩] []) (
    .ret)) (
    .seq (
     .region false [⟨(some 21), (.bin .eql (.tmp 9) (.cst (.d (.int .i64 1)))), none⟩, ⟨(some 20), (.mv (.tmp 21)), none⟩] []) (
    .cond (.tmp 20) (
     .region false [⟨(some 5), (.mv (.cst (.d (.bool true)))), none⟩] []) (
     .seq (
      .region false [⟨(some 23), (.bin .eql (.tmp 9) (.cst (.d (.int .i64 2)))), none⟩, ⟨(some 22), (.mv (.tmp 23)), none⟩] []) (
     .cond (.tmp 22) (
      .region false [⟨(some 6), (.mv (.cst (.d (.bool true)))), none⟩] []) (
      .seq (
       .region false [⟨(some 25), (.bin .eql (.tmp 9) (.cst (.d (.int .i64 3)))), none⟩, ⟨(some 24), (.mv (.tmp 25)), none⟩] []) (
      .cond (.tmp 24) (
       .region false [⟨(some 5), (.mv (.cst (.d (.bool true)))), none⟩, ⟨(some 7), (.mv (.cst (.d (.bool true)))), none⟩] []) (
       .seq (
        .region false [⟨(some 27), (.bin .eql (.tmp 9) (.cst (.d (.int .i64 4)))), none⟩, ⟨(some 26), (.mv (.tmp 27)), none⟩] []) (
       .cond (.tmp 26) (
        .region false [⟨(some 6), (.mv (.cst (.d (.bool true)))), none⟩, ⟨(some 7), (.mv (.cst (.d (.bool true)))), none⟩] []) (
        .seq (
         .region false [⟨(some 29), (.bin .eql (.tmp 9) (.cst (.d (.int .i64 5)))), none⟩, ⟨(some 28), (.mv (.tmp 29)), none⟩] []) (
        .cond (.tmp 28) (
         .region false [⟨(some 5), (.mv (.cst (.d (.bool true)))), none⟩,
           ⟨(some 6), (.mv (.cst (.d (.bool true)))), none⟩,
           ⟨(some 7), (.mv (.cst (.d (.bool true)))), none⟩] []) (
         .seq (
          .region false [⟨(some 4), (.mv (.cst (.d (.bool false)))), none⟩] []) (
         .ret)))))))))))))))) (
 .seq (
  .region false [⟨(some 30), (.fieldAddr 1 (.tmp 2)), none⟩,
    ⟨(some 31), (.load false 1 (.tmp 30)), none⟩,
    ⟨(some 32), (.bin .geq (.tmp 31) (.cst (.d (.int .i64 0)))), none⟩,
    ⟨(some 33), (.mv (.tmp 32)), none⟩,
    ⟨(some 34), (.fieldAddr 1 (.tmp 2)), (some (33, true))⟩,
    ⟨(some 35), (.load false 1 (.tmp 34)), (some (33, true))⟩,
    ⟨(some 36), (.mv (.tmp 1)), (some (33, true))⟩,
    ⟨(some 37), (.len (.tmp 36)), (some (33, true))⟩,
    ⟨(some 38), (.bin .lss (.tmp 35) (.tmp 37)), (some (33, true))⟩,
    ⟨(some 39), (.pick (.tmp 33) (.tmp 38) (.cst (.d (.bool false)))), none⟩,
    ⟨(some 40), (.mv (.tmp 39)), none⟩,
    ⟨(some 41), (.mv (.tmp 1)), (some (40, true))⟩,
    ⟨(some 42), (.fieldAddr 1 (.tmp 2)), (some (40, true))⟩,
    ⟨(some 43), (.load false 1 (.tmp 42)), (some (40, true))⟩,
    ⟨(some 44), (.idxAddr 2 (.tmp 41) (.tmp 43)), (some (40, true))⟩,
    ⟨(some 45), (.fieldAddr 0 (.tmp 44)), (some (40, true))⟩,
    ⟨(some 46), (.load false 1 (.tmp 45)), (some (40, true))⟩,
    ⟨(some 47), (.mv (.tmp 7)), (some (40, true))⟩,
    ⟨(some 48), (.eq false .bool (.tmp 46) (.tmp 47)), (some (40, true))⟩,
    ⟨(some 49), (.pick (.tmp 40) (.tmp 48) (.cst (.d (.bool false)))), none⟩,
    ⟨(some 50), (.mv (.tmp 49)), none⟩,
    ⟨(some 51), (.mv (.tmp 5)), (some (50, true))⟩,
    ⟨(some 52), (.mv (.tmp 51)), (some (50, true))⟩,
    ⟨(some 53), (.fieldAddr 2 (.tmp 2)), (some (52, false))⟩,
    ⟨(some 54), (.load false 1 (.tmp 53)), (some (52, false))⟩,
    ⟨(some 55), (.bin .eql (.tmp 54) (.cst (.d (.int .i64 0)))), (some (52, false))⟩,
    ⟨(some 56), (.pick (.tmp 52) (.cst (.d (.bool true))) (.tmp 55)), (some (50, true))⟩,
    ⟨(some 57), (.pick (.tmp 50) (.tmp 56) (.cst (.d (.bool false)))), none⟩,
    ⟨(some 58), (.mv (.tmp 57)), none⟩,
    ⟨(some 59), (.mv (.tmp 6)), (some (58, true))⟩,
    ⟨(some 60), (.mv (.tmp 59)), (some (58, true))⟩,
    ⟨(some 61), (.fieldAddr 3 (.tmp 2)), (some (60, false))⟩,
    ⟨(some 62), (.load false 1 (.tmp 61)), (some (60, false))⟩,
    ⟨(some 63), (.bin .eql (.tmp 62) (.cst (.d (.int .i64 0)))), (some (60, false))⟩,
    ⟨(some 64), (.pick (.tmp 60) (.cst (.d (.bool true))) (.tmp 63)), (some (58, true))⟩,
    ⟨(some 65), (.pick (.tmp 58) (.tmp 64) (.cst (.d (.bool false)))), none⟩,
    ⟨(some 4), (.mv (.tmp 65)), none⟩] []) (
 .ret))))
def R_act_Right : List LRes := [(.tmp 4)]
def V_act_Right : List Nat := [0, 2, 9, 10, 20, 22, 24, 26, 28, 1, 7, 5, 6, 4]

end Go.Ago

/- Lowered functions of a package, callees by their numbers. Printed by a program of this session. Conditions: none. -/
set_option maxRecDepth 100000
set_option linter.unusedVariables false
namespace Go.Ago
def L_ref08_SameNums : LCode :=
 .seq (
  .region false [⟨(some 4), (.mv (.cst (.d (.bool false)))), none⟩] []) (
 .seq (
  .seq (
   .region false [⟨(some 6), (.mv (.tmp 0)), none⟩,
     ⟨(some 7), (.len (.tmp 6)), none⟩,
     ⟨(some 8), (.mv (.tmp 1)), none⟩,
     ⟨(some 9), (.len (.tmp 8)), none⟩,
     ⟨(some 10), (.bin .neq (.tmp 7) (.tmp 9)), none⟩] []) (
  .cond (.tmp 10) (
   .seq (
    .region false [⟨(some 4), (.mv (.cst (.d (.bool false)))), none⟩] []) (
   .ret)) (
   .skip))) (
 .seq (
  .seq (
   .region false [⟨(some 5), (.mv (.cst (.d (.int .i64 0)))), none⟩] []) (
  .block 0 (
   .loop (
    .seq (
     .seq (
      .region false [⟨(some 11), (.mv (.tmp 5)), none⟩,
        ⟨(some 12), (.mv (.tmp 0)), none⟩,
        ⟨(some 13), (.len (.tmp 12)), none⟩,
        ⟨(some 14), (.bin .lss (.tmp 11) (.tmp 13)), none⟩] []) (
     .cond (.tmp 14) (
      .skip) (
      (.exit 0)))) (
    .seq (
     .block 1 (
      .seq (
       .region true [⟨(some 17), (.mv (.tmp 0)), none⟩,
         ⟨(some 18), (.mv (.tmp 5)), none⟩,
         ⟨(some 19), (.idxAddr 1 (.tmp 17) (.tmp 18)), none⟩,
         ⟨(some 20), (.load false 1 (.tmp 19)), none⟩,
         ⟨(some 21), (.mv (.tmp 1)), none⟩,
         ⟨(some 22), (.mv (.tmp 5)), none⟩,
         ⟨(some 23), (.idxAddr 1 (.tmp 21) (.tmp 22)), none⟩,
         ⟨(some 24), (.load false 1 (.tmp 23)), none⟩,
         ⟨(some 25), (.bin .neq (.tmp 20) (.tmp 24)), none⟩] []) (
      .cond (.tmp 25) (
       .seq (
        .region false [⟨(some 4), (.mv (.cst (.d (.bool false)))), none⟩] []) (
       .ret)) (
       .skip)))) (
    .region false [⟨(some 15), (.mv (.tmp 5)), none⟩,
      ⟨(some 16), (.bin .add (.tmp 15) (.cst (.d (.int .i64 1)))), none⟩,
      ⟨(some 5), (.mv (.tmp 16)), none⟩] [])))))) (
 .seq (
  .region false [⟨(some 4), (.mv (.cst (.d (.bool true)))), none⟩] []) (
 .ret))))
def R_ref08_SameNums : List LRes := [(.tmp 4)]
def V_ref08_SameNums : List Nat := [0, 1, 10, 5, 14, 25, 4]

def L_ref08_Right : LCode :=
 .seq (
  .region false [⟨(some 2), (.box 0 (.tmp 0)), none⟩, ⟨(some 4), (.mv (.cst (.d (.bool false)))), none⟩] []) (
 .seq (
  .seq (
   .region false [⟨(some 6), (.fieldAddr 0 (.tmp 2)), none⟩,
     ⟨(some 7), (.load false 1 (.tmp 6)), none⟩,
     ⟨(some 8), (.bin .eql (.tmp 7) (.cst (.d (.int .i64 6)))), none⟩] []) (
  .cond (.tmp 8) (
   .seq (
    .region false [⟨(some 9), (.load true 4 (.tmp 2)), none⟩,
      ⟨(some 10), (.fieldAddr 3 (.tmp 2)), none⟩,
      ⟨(some 11), (.load false 1 (.tmp 10)), none⟩,
      ⟨(some 12), (.build [(.d (.int .i64 0)), (.d (.int .i64 0)), (.d (.int .i64 0)), (.d (.int .i64 0))] [(0, (1, (.cst (.d (.int .i64 6))))), (3, (1, (.tmp 11)))]), none⟩,
      ⟨(some 13), (.eq false (.flat [true, true, true, true]) (.tmp 9) (.tmp 12)), none⟩,
      ⟨(some 4), (.mv (.tmp 13)), none⟩] []) (
   .ret)) (
   .skip))) (
 .seq (
  .seq (
   .region false [⟨(some 14), (.fieldAddr 1 (.tmp 2)), none⟩,
     ⟨(some 15), (.load false 1 (.tmp 14)), none⟩,
     ⟨(some 16), (.bin .lss (.tmp 15) (.cst (.d (.int .i64 0)))), none⟩,
     ⟨(some 17), (.mv (.tmp 16)), none⟩,
     ⟨(some 18), (.fieldAddr 1 (.tmp 2)), (some (17, false))⟩,
     ⟨(some 19), (.load false 1 (.tmp 18)), (some (17, false))⟩,
     ⟨(some 20), (.mv (.tmp 1)), (some (17, false))⟩,
     ⟨(some 21), (.len (.tmp 20)), (some (17, false))⟩,
     ⟨(some 22), (.bin .geq (.tmp 19) (.tmp 21)), (some (17, false))⟩,
     ⟨(some 23), (.pick (.tmp 17) (.cst (.d (.bool true))) (.tmp 22)), none⟩] []) (
  .cond (.tmp 23) (
   .seq (
    .region false [⟨(some 4), (.mv (.cst (.d (.bool false)))), none⟩] []) (
   .ret)) (
   .skip))) (
 .seq (
  .region false [⟨(some 24), (.mv (.tmp 1)), none⟩,
    ⟨(some 25), (.fieldAddr 1 (.tmp 2)), none⟩,
    ⟨(some 26), (.load false 1 (.tmp 25)), none⟩,
    ⟨(some 27), (.idxAddr 2 (.tmp 24) (.tmp 26)), none⟩,
    ⟨(some 28), (.fieldAddr 0 (.tmp 27)), none⟩,
    ⟨(some 29), (.load false 1 (.tmp 28)), none⟩,
    ⟨(some 5), (.mv (.tmp 29)), none⟩] []) (
 .seq (
  .seq (
   .region false [⟨(some 30), (.fieldAddr 0 (.tmp 2)), none⟩, ⟨(some 31), (.load false 1 (.tmp 30)), none⟩] []) (
  .block 0 (
   .seq (
    .region false [⟨(some 33), (.bin .eql (.tmp 31) (.cst (.d (.int .i64 1)))), none⟩, ⟨(some 32), (.mv (.tmp 33)), none⟩] []) (
   .cond (.tmp 32) (
    .seq (
     .region false [⟨(some 34), (.mv (.tmp 5)), none⟩,
       ⟨(some 35), (.un .not (.tmp 34)), none⟩,
       ⟨(some 36), (.mv (.tmp 35)), none⟩,
       ⟨(some 37), (.fieldAddr 3 (.tmp 2)), (some (36, true))⟩,
       ⟨(some 38), (.load false 1 (.tmp 37)), (some (36, true))⟩,
       ⟨(some 39), (.bin .eql (.tmp 38) (.cst (.d (.int .i64 0)))), (some (36, true))⟩,
       ⟨(some 40), (.pick (.tmp 36) (.tmp 39) (.cst (.d (.bool false)))), none⟩,
       ⟨(some 4), (.mv (.tmp 40)), none⟩] []) (
    .ret)) (
    .seq (
     .region false [⟨(some 42), (.bin .eql (.tmp 31) (.cst (.d (.int .i64 2)))), none⟩, ⟨(some 41), (.mv (.tmp 42)), none⟩] []) (
    .cond (.tmp 41) (
     .seq (
      .region false [⟨(some 43), (.mv (.tmp 5)), none⟩,
        ⟨(some 44), (.un .not (.tmp 43)), none⟩,
        ⟨(some 45), (.mv (.tmp 44)), none⟩,
        ⟨(some 46), (.fieldAddr 2 (.tmp 2)), (some (45, true))⟩,
        ⟨(some 47), (.load false 1 (.tmp 46)), (some (45, true))⟩,
        ⟨(some 48), (.bin .eql (.tmp 47) (.cst (.d (.int .i64 0)))), (some (45, true))⟩,
        ⟨(some 49), (.pick (.tmp 45) (.tmp 48) (.cst (.d (.bool false)))), none⟩,
        ⟨(some 4), (.mv (.tmp 49)), none⟩] []) (
     .ret)) (
     .seq (
      .region false [⟨(some 51), (.bin .eql (.tmp 31) (.cst (.d (.int .i64 3)))), none⟩, ⟨(some 50), (.mv (.tmp 51)), none⟩] []) (
     .cond (.tmp 50) (
      .seq (
       .region false [⟨(some 52), (.mv (.tmp 5)), none⟩,
         ⟨(some 53), (.mv (.tmp 52)), none⟩,
         ⟨(some 54), (.fieldAddr 3 (.tmp 2)), (some (53, true))⟩,
         ⟨(some 55), (.load false 1 (.tmp 54)), (some (53, true))⟩,
         ⟨(some 56), (.bin .eql (.tmp 55) (.cst (.d (.int .i64 0)))), (some (53, true))⟩,
         ⟨(some 57), (.pick (.tmp 53) (.tmp 56) (.cst (.d (.bool false)))), none⟩,
         ⟨(some 4), (.mv (.tmp 57)), none⟩] []) (
      .ret)) (
      .seq (
       .region false [⟨(some 59), (.bin .eql (.tmp 31) (.cst (.d (.int .i64 4)))), none⟩, ⟨(some 58), (.mv (.tmp 59)), none⟩] []) (
      .cond (.tmp 58) (
       .seq (
        .region false [⟨(some 60), (.mv (.tmp 5)), none⟩,
          ⟨(some 61), (.mv (.tmp 60)), none⟩,
          ⟨(some 62), (.fieldAddr 2 (.tmp 2)), (some (61, true))⟩,
          ⟨(some 63), (.load false 1 (.tmp 62)), (some (61, true))⟩,
          ⟨(some 64), (.bin .eql (.tmp 63) (.cst (.d (.int .i64 0)))), (some (61, true))⟩,
          ⟨(some 65), (.pick (.tmp 61) (.tmp 64) (.cst (.d (.bool false)))), none⟩,
          ⟨(some 4), (.mv (.tmp 65)), none⟩] []) (
       .ret)) (
       .skip))))))))))) (
 .seq (
  .region false [⟨(some 66), (.fieldAddr 0 (.tmp 2)), none⟩,
    ⟨(some 67), (.load false 1 (.tmp 66)), none⟩,
    ⟨(some 68), (.bin .eql (.tmp 67) (.cst (.d (.int .i64 5)))), none⟩,
    ⟨(some 69), (.mv (.tmp 68)), none⟩,
    ⟨(some 70), (.mv (.tmp 5)), (some (69, true))⟩,
    ⟨(some 71), (.pick (.tmp 69) (.tmp 70) (.cst (.d (.bool false)))), none⟩,
    ⟨(some 4), (.mv (.tmp 71)), none⟩] []) (
 .ret))))))
def R_ref08_Right : List LRes := [(.tmp 4)]
def V_ref08_Right : List Nat := [0, 2, 8, 1, 23, 31, 32, 5, 41, 50, 58, 4]

def L_ref08_SameLocs : LCode :=
 .seq (
  .region false [⟨(some 4), (.mv (.cst (.d (.bool false)))), none⟩] []) (
 .seq (
  .seq (
   .region false [⟨(some 6), (.mv (.tmp 0)), none⟩,
     ⟨(some 7), (.len (.tmp 6)), none⟩,
     ⟨(some 8), (.mv (.tmp 1)), none⟩,
     ⟨(some 9), (.len (.tmp 8)), none⟩,
     ⟨(some 10), (.bin .neq (.tmp 7) (.tmp 9)), none⟩] []) (
  .cond (.tmp 10) (
   .seq (
    .region false [⟨(some 4), (.mv (.cst (.d (.bool false)))), none⟩] []) (
   .ret)) (
   .skip))) (
 .seq (
  .seq (
   .region false [⟨(some 5), (.mv (.cst (.d (.int .i64 0)))), none⟩] []) (
  .block 0 (
   .loop (
    .seq (
     .seq (
      .region false [⟨(some 11), (.mv (.tmp 5)), none⟩,
        ⟨(some 12), (.mv (.tmp 0)), none⟩,
        ⟨(some 13), (.len (.tmp 12)), none⟩,
        ⟨(some 14), (.bin .lss (.tmp 11) (.tmp 13)), none⟩] []) (
     .cond (.tmp 14) (
      .skip) (
      (.exit 0)))) (
    .seq (
     .block 1 (
      .seq (
       .region true [⟨(some 17), (.mv (.tmp 0)), none⟩,
         ⟨(some 18), (.mv (.tmp 5)), none⟩,
         ⟨(some 19), (.idxAddr 2 (.tmp 17) (.tmp 18)), none⟩,
         ⟨(some 20), (.load true 2 (.tmp 19)), none⟩,
         ⟨(some 21), (.mv (.tmp 1)), none⟩,
         ⟨(some 22), (.mv (.tmp 5)), none⟩,
         ⟨(some 23), (.idxAddr 2 (.tmp 21) (.tmp 22)), none⟩,
         ⟨(some 24), (.load true 2 (.tmp 23)), none⟩,
         ⟨(some 25), (.eq true (.flat [false, true]) (.tmp 20) (.tmp 24)), none⟩] []) (
      .cond (.tmp 25) (
       .seq (
        .region false [⟨(some 4), (.mv (.cst (.d (.bool false)))), none⟩] []) (
       .ret)) (
       .skip)))) (
    .region false [⟨(some 15), (.mv (.tmp 5)), none⟩,
      ⟨(some 16), (.bin .add (.tmp 15) (.cst (.d (.int .i64 1)))), none⟩,
      ⟨(some 5), (.mv (.tmp 16)), none⟩] [])))))) (
 .seq (
  .region false [⟨(some 4), (.mv (.cst (.d (.bool true)))), none⟩] []) (
 .ret))))
def R_ref08_SameLocs : List LRes := [(.tmp 4)]
def V_ref08_SameLocs : List Nat := [0, 1, 10, 5, 14, 25, 4]

end Go.Ago

/- Lowered functions of a package, callees by their numbers. Printed by a program of this session. Conditions: none. -/
set_option maxRecDepth 100000
set_option linter.unusedVariables false
namespace Go.Ago
def L_hist_New (n_slices_Clone_api_Loc : Nat) (n_hist_begin : Nat) : LCode :=
 .seq (
  .region false [⟨(some 4), (.alloc 0 5 [(.d (.list [] true)), (.d (.list [] true)), (.d (.list [] true)), (.d (.list [] true)), (.d (.list [] true))]), none⟩, ⟨(some 5), (.mv (.cst (.d (.int .i64 0)))), none⟩] []) (
 .seq (
  .seq (
   .region false [⟨(some 9), (.mv (.tmp 0)), none⟩,
     ⟨(some 10), (.len (.tmp 9)), none⟩,
     ⟨(some 11), (.bin .gtr (.tmp 10) (.cst (.d (.int .i64 16)))), none⟩,
     ⟨(some 12), (.mv (.tmp 11)), none⟩,
     ⟨(some 13), (.mv (.tmp 1)), (some (12, false))⟩,
     ⟨(some 14), (.bin .lss (.tmp 13) (.cst (.d (.int .i64 1)))), (some (12, false))⟩,
     ⟨(some 15), (.pick (.tmp 12) (.cst (.d (.bool true))) (.tmp 14)), none⟩,
     ⟨(some 16), (.mv (.tmp 15)), none⟩,
     ⟨(some 17), (.mv (.tmp 1)), (some (16, false))⟩,
     ⟨(some 18), (.bin .gtr (.tmp 17) (.cst (.d (.int .i64 3)))), (some (16, false))⟩,
     ⟨(some 19), (.pick (.tmp 16) (.cst (.d (.bool true))) (.tmp 18)), none⟩] []) (
  .cond (.tmp 19) (
   .seq (
    .region false [⟨(some 20), (.build [(.d (.list [] true)), (.d (.list [] true)), (.d (.list [] true)), (.d (.list [] true)), (.d (.list [] true))] []), none⟩,
      ⟨none, (.store 5 (.tmp 4) (.tmp 20)), none⟩,
      ⟨(some 5), (.mv (.cst (.d (.int .i64 1)))), none⟩] []) (
   .ret)) (
   .skip))) (
 .seq (
  .region false [⟨(some 21), (.mv (.tmp 0)), none⟩,
    ⟨(some 22), (.call 0 true (.cst (.d (.fn n_slices_Clone_api_Loc))) [(.tmp 21)]), none⟩,
    ⟨(some 23), (.build [(.d (.list [] true)), (.d (.list [] true)), (.d (.list [] true)), (.d (.list [] true)), (.d (.list [] true))] [(0, (1, (.tmp 22)))]), none⟩,
    ⟨(some 6), (.alloc 1 5 [(.d (.list [] true)), (.d (.list [] true)), (.d (.list [] true)), (.d (.list [] true)), (.d (.list [] true))]), none⟩,
    ⟨none, (.store 5 (.tmp 6) (.tmp 23)), none⟩] []) (
 .seq (
  .seq (
   .region false [⟨(some 24), (.mv (.tmp 0)), none⟩,
     ⟨(some 25), (.len (.tmp 24)), none⟩,
     ⟨(some 26), (.mv (.cst (.d (.int .i64 0)))), none⟩] []) (
  .block 0 (
   .loop (
    .seq (
     .region false [⟨(some 27), (.bin .lss (.tmp 26) (.tmp 25)), none⟩] []) (
    .seq (
     .cond (.tmp 27) (
      .skip) (
      (.exit 0))) (
    .seq (
     .block 1 (
      .seq (
       .region false [⟨(some 28), (.idxAddr 2 (.tmp 24) (.tmp 26)), none⟩,
         ⟨(some 29), (.load true 2 (.tmp 28)), none⟩,
         ⟨(some 8), (.alloc 0 2 [(.d (.bool false)), (.d (.int .i64 0))]), none⟩,
         ⟨none, (.store 2 (.tmp 8) (.tmp 29)), none⟩] []) (
      .seq (
       .region false [⟨(some 30), (.fieldAddr 0 (.tmp 8)), none⟩, ⟨(some 31), (.load false 1 (.tmp 30)), none⟩] []) (
      .cond (.tmp 31) (
       .region true [⟨(some 32), (.fieldAddr 1 (.tmp 6)), none⟩,
         ⟨(some 33), (.load false 1 (.tmp 32)), none⟩,
         ⟨(some 34), (.bslice 0 1 1 [(.d (.list [] true))] [(0, (.cst (.d (.list [] true))))]), none⟩,
         ⟨(some 35), (.append 1 1 24 (.tmp 33) (.tmp 34)), none⟩,
         ⟨(some 36), (.fieldAddr 2 (.tmp 6)), none⟩,
         ⟨(some 37), (.load false 1 (.tmp 36)), none⟩,
         ⟨(some 38), (.fieldAddr 1 (.tmp 8)), none⟩,
         ⟨(some 39), (.load false 1 (.tmp 38)), none⟩,
         ⟨(some 40), (.bslice 2 1 1 [(.d (.int .i64 0))] [(0, (.tmp 39))]), none⟩,
         ⟨(some 41), (.append 3 1 8 (.tmp 37) (.tmp 40)), none⟩,
         ⟨(some 42), (.fieldAddr 3 (.tmp 6)), none⟩,
         ⟨(some 43), (.load false 1 (.tmp 42)), none⟩,
         ⟨(some 44), (.mv (.tmp 0)), none⟩,
         ⟨(some 45), (.len (.tmp 44)), none⟩,
         ⟨(some 46), (.call 4 true (.cst (.d (.fn n_hist_begin))) [(.tmp 45)]), none⟩,
         ⟨(some 47), (.bslice 5 1 1 [(.d (.list [] true))] [(0, (.tmp 46))]), none⟩,
         ⟨(some 48), (.append 6 1 24 (.tmp 43) (.tmp 47)), none⟩,
         ⟨(some 49), (.fieldAddr 1 (.tmp 6)), none⟩,
         ⟨none, (.store 1 (.tmp 49) (.tmp 35)), none⟩,
         ⟨(some 50), (.fieldAddr 2 (.tmp 6)), none⟩,
         ⟨none, (.store 1 (.tmp 50) (.tmp 41)), none⟩,
         ⟨(some 51), (.fieldAddr 3 (.tmp 6)), none⟩,
         ⟨none, (.store 1 (.tmp 51) (.tmp 48)), none⟩] [(1, 2), (3, 5), (2, 5), (3, 7), (2, 7), (5, 8), (3, 8), (2, 8), (1, 8), (9, 11), (8, 11), (3, 11), (2, 11), (11, 14), (11, 15)]) (
       .region true [⟨(some 52), (.fieldAddr 1 (.tmp 6)), none⟩,
         ⟨(some 53), (.load false 1 (.tmp 52)), none⟩,
         ⟨(some 54), (.build [(.d (.int .i64 0)), (.d (.int .i64 0))] [(1, (1, (.cst (.d (.int .i64 1)))))]), none⟩,
         ⟨(some 55), (.fieldAddr 1 (.tmp 8)), none⟩,
         ⟨(some 56), (.load false 1 (.tmp 55)), none⟩,
         ⟨(some 57), (.build [(.d (.int .i64 0)), (.d (.int .i64 0)), (.d (.int .i64 0))] [(0, (2, (.tmp 54))), (2, (1, (.tmp 56)))]), none⟩,
         ⟨(some 58), (.bslice 0 3 1 [(.d (.int .i64 0)), (.d (.int .i64 0)), (.d (.int .i64 0))] [(0, (.tmp 57))]), none⟩,
         ⟨(some 59), (.bslice 1 1 1 [(.d (.list [] true))] [(0, (.tmp 58))]), none⟩,
         ⟨(some 60), (.append 2 1 24 (.tmp 53) (.tmp 59)), none⟩,
         ⟨(some 61), (.fieldAddr 2 (.tmp 6)), none⟩,
         ⟨(some 62), (.load false 1 (.tmp 61)), none⟩,
         ⟨(some 63), (.bslice 3 1 1 [(.d (.int .i64 0))] [(0, (.cst (.d (.int .i64 0))))]), none⟩,
         ⟨(some 64), (.append 4 1 8 (.tmp 62) (.tmp 63)), none⟩,
         ⟨(some 65), (.fieldAddr 3 (.tmp 6)), none⟩,
         ⟨(some 66), (.load false 1 (.tmp 65)), none⟩,
         ⟨(some 67), (.bslice 5 1 1 [(.d (.list [] true))] [(0, (.cst (.d (.list [] true))))]), none⟩,
         ⟨(some 68), (.append 6 1 24 (.tmp 66) (.tmp 67)), none⟩,
         ⟨(some 69), (.fieldAddr 1 (.tmp 6)), none⟩,
         ⟨none, (.store 1 (.tmp 69) (.tmp 60)), none⟩,
         ⟨(some 70), (.fieldAddr 2 (.tmp 6)), none⟩,
         ⟨none, (.store 1 (.tmp 70) (.tmp 64)), none⟩,
         ⟨(some 71), (.fieldAddr 3 (.tmp 6)), none⟩,
         ⟨none, (.store 1 (.tmp 71) (.tmp 68)), none⟩] [(1, 6), (1, 7), (8, 10), (7, 10), (6, 10), (10, 11), (8, 11), (7, 11), (6, 11), (4, 11), (1, 11), (12, 14), (11, 14), (8, 14), (7, 14), (6, 14), (14, 15), (12, 15), (11, 15), (10, 15), (8, 15), (7, 15), (6, 15), (4, 15), (1, 15)]))))) (
    .region false [⟨(some 72), (.bin .add (.tmp 26) (.cst (.d (.int .i64 1)))), none⟩, ⟨(some 26), (.mv (.tmp 72)), none⟩] []))))))) (
 .seq (
  .seq (
   .region false [⟨(some 73), (.mv (.tmp 1)), none⟩, ⟨(some 74), (.mv (.cst (.d (.int .i64 0)))), none⟩] []) (
  .block 2 (
   .loop (
    .seq (
     .region false [⟨(some 75), (.bin .lss (.tmp 74) (.tmp 73)), none⟩] []) (
    .seq (
     .cond (.tmp 75) (
      .skip) (
      (.exit 2))) (
    .seq (
     .block 3 (
      .region true [⟨(some 76), (.fieldAddr 4 (.tmp 6)), none⟩,
        ⟨(some 77), (.load false 1 (.tmp 76)), none⟩,
        ⟨(some 78), (.mv (.tmp 0)), none⟩,
        ⟨(some 79), (.len (.tmp 78)), none⟩,
        ⟨(some 80), (.call 0 true (.cst (.d (.fn n_hist_begin))) [(.tmp 79)]), none⟩,
        ⟨(some 81), (.bslice 1 1 1 [(.d (.list [] true))] [(0, (.tmp 80))]), none⟩,
        ⟨(some 82), (.append 2 1 24 (.tmp 77) (.tmp 81)), none⟩,
        ⟨(some 83), (.fieldAddr 4 (.tmp 6)), none⟩,
        ⟨none, (.store 1 (.tmp 83) (.tmp 82)), none⟩] [(1, 4), (1, 5)])) (
    .region false [⟨(some 84), (.bin .add (.tmp 74) (.cst (.d (.int .i64 1)))), none⟩, ⟨(some 74), (.mv (.tmp 84)), none⟩] []))))))) (
 .seq (
  .region false [⟨(some 85), (.load true 5 (.tmp 6)), none⟩,
    ⟨none, (.store 5 (.tmp 4) (.tmp 85)), none⟩,
    ⟨(some 5), (.mv (.cst (.d (.int .i64 0)))), none⟩] []) (
 .ret))))))
def R_hist_New : List LRes := [(.cell 4 true 5), (.tmp 5)]
def V_hist_New : List Nat := [0, 1, 19, 4, 26, 25, 27, 24, 8, 31, 6, 74, 73, 75, 5]

def L_hist_Do (n_act_Right : Nat) (n_hist_plain : Nat) (n_rat_Right : Nat) (n_hist_copied : Nat) (n_hist_at : Nat) (n_rat_Cmp : Nat) (n_rat_Least : Nat) (n_slices_Insert_api_Stamp : Nat) (n_hist_join : Nat) (n_slices_Clone_api_Rat : Nat) : LCode :=
 .seq (
  .region false [⟨(some 2), (.box 0 (.tmp 0)), none⟩,
    ⟨(some 3), (.box 1 (.tmp 1)), none⟩,
    ⟨(some 4), (.alloc 2 5 [(.d (.list [] true)), (.d (.list [] true)), (.d (.list [] true)), (.d (.list [] true)), (.d (.list [] true))]), none⟩,
    ⟨(some 5), (.mv (.cst (.d (.int .i64 0)))), none⟩] []) (
 .seq (
  .region false [⟨(some 14), (.fieldAddr 1 (.tmp 3)), none⟩,
    ⟨(some 15), (.load true 4 (.tmp 14)), none⟩,
    ⟨(some 6), (.alloc 0 4 [(.d (.int .i64 0)), (.d (.int .i64 0)), (.d (.int .i64 0)), (.d (.int .i64 0))]), none⟩,
    ⟨none, (.store 4 (.tmp 6) (.tmp 15)), none⟩] []) (
 .seq (
  .seq (
   .region false [⟨(some 16), (.fieldAddr 0 (.tmp 3)), none⟩,
     ⟨(some 17), (.load false 1 (.tmp 16)), none⟩,
     ⟨(some 18), (.bin .lss (.tmp 17) (.cst (.d (.int .i64 0)))), none⟩,
     ⟨(some 19), (.mv (.tmp 18)), none⟩,
     ⟨(some 20), (.fieldAddr 0 (.tmp 3)), (some (19, false))⟩,
     ⟨(some 21), (.load false 1 (.tmp 20)), (some (19, false))⟩,
     ⟨(some 22), (.fieldAddr 4 (.tmp 2)), (some (19, false))⟩,
     ⟨(some 23), (.load false 1 (.tmp 22)), (some (19, false))⟩,
     ⟨(some 24), (.len (.tmp 23)), (some (19, false))⟩,
     ⟨(some 25), (.bin .geq (.tmp 21) (.tmp 24)), (some (19, false))⟩,
     ⟨(some 26), (.pick (.tmp 19) (.cst (.d (.bool true))) (.tmp 25)), none⟩,
     ⟨(some 27), (.mv (.tmp 26)), none⟩,
     ⟨(some 28), (.load true 4 (.tmp 6)), (some (27, false))⟩,
     ⟨(some 29), (.fieldAddr 0 (.tmp 2)), (some (27, false))⟩,
     ⟨(some 30), (.load false 1 (.tmp 29)), (some (27, false))⟩,
     ⟨(some 31), (.call 0 false (.cst (.d (.fn n_act_Right))) [(.tmp 28), (.tmp 30)]), (some (27, false))⟩,
     ⟨(some 32), (.un .not (.tmp 31)), (some (27, false))⟩,
     ⟨(some 33), (.pick (.tmp 27) (.cst (.d (.bool true))) (.tmp 32)), none⟩,
     ⟨(some 34), (.mv (.tmp 33)), none⟩,
     ⟨(some 35), (.fieldAddr 0 (.tmp 6)), (some (34, false))⟩,
     ⟨(some 36), (.load false 1 (.tmp 35)), (some (34, false))⟩,
     ⟨(some 37), (.call 0 false (.cst (.d (.fn n_hist_plain))) [(.tmp 36)]), (some (34, false))⟩,
     ⟨(some 38), (.mv (.tmp 37)), (some (34, false))⟩,
     ⟨(some 39), (.fieldAddr 5 (.tmp 3)), (some (38, true))⟩,
     ⟨(some 40), (.load true 2 (.tmp 39)), (some (38, true))⟩,
     ⟨(some 41), (.call 0 false (.cst (.d (.fn n_rat_Right))) [(.tmp 40)]), (some (38, true))⟩,
     ⟨(some 42), (.un .not (.tmp 41)), (some (38, true))⟩,
     ⟨(some 43), (.pick (.tmp 38) (.tmp 42) (.cst (.d (.bool false)))), (some (34, false))⟩,
     ⟨(some 44), (.pick (.tmp 34) (.cst (.d (.bool true))) (.tmp 43)), none⟩,
     ⟨(some 45), (.mv (.tmp 44)), none⟩,
     ⟨(some 46), (.fieldAddr 0 (.tmp 6)), (some (45, false))⟩,
     ⟨(some 47), (.load false 1 (.tmp 46)), (some (45, false))⟩,
     ⟨(some 48), (.call 0 false (.cst (.d (.fn n_hist_plain))) [(.tmp 47)]), (some (45, false))⟩,
     ⟨(some 49), (.un .not (.tmp 48)), (some (45, false))⟩,
     ⟨(some 50), (.mv (.tmp 49)), (some (45, false))⟩,
     ⟨(some 51), (.fieldAddr 5 (.tmp 3)), (some (50, true))⟩,
     ⟨(some 52), (.load true 2 (.tmp 51)), (some (50, true))⟩,
     ⟨(some 53), (.build [(.d (.int .i64 0)), (.d (.int .i64 0))] []), (some (50, true))⟩,
     ⟨(some 54), (.eq true (.flat [true, true]) (.tmp 52) (.tmp 53)), (some (50, true))⟩,
     ⟨(some 55), (.pick (.tmp 50) (.tmp 54) (.cst (.d (.bool false)))), (some (45, false))⟩,
     ⟨(some 56), (.pick (.tmp 45) (.cst (.d (.bool true))) (.tmp 55)), none⟩] []) (
  .cond (.tmp 56) (
   .seq (
    .region false [⟨(some 57), (.build [(.d (.list [] true)), (.d (.list [] true)), (.d (.list [] true)), (.d (.list [] true)), (.d (.list [] true))] []), none⟩,
      ⟨none, (.store 5 (.tmp 4) (.tmp 57)), none⟩,
      ⟨(some 5), (.mv (.cst (.d (.int .i64 1)))), none⟩] []) (
   .ret)) (
   .skip))) (
 .seq (
  .region false [⟨(some 58), (.load true 5 (.tmp 2)), none⟩,
    ⟨(some 59), (.call 0 false (.cst (.d (.fn n_hist_copied))) [(.tmp 58)]), none⟩,
    ⟨none, (.store 5 (.tmp 2) (.tmp 59)), none⟩] []) (
 .seq (
  .region false [⟨(some 60), (.fieldAddr 4 (.tmp 2)), none⟩,
    ⟨(some 61), (.load false 1 (.tmp 60)), none⟩,
    ⟨(some 62), (.fieldAddr 0 (.tmp 3)), none⟩,
    ⟨(some 63), (.load false 1 (.tmp 62)), none⟩,
    ⟨(some 64), (.idxAddr 1 (.tmp 61) (.tmp 63)), none⟩,
    ⟨(some 65), (.load false 1 (.tmp 64)), none⟩,
    ⟨(some 7), (.mv (.tmp 65)), none⟩] []) (
 .seq (
  .seq (
   .region false [⟨(some 66), (.fieldAddr 0 (.tmp 6)), none⟩, ⟨(some 67), (.load false 1 (.tmp 66)), none⟩] []) (
  .block 0 (
   .seq (
    .region false [⟨(some 69), (.bin .eql (.tmp 67) (.cst (.d (.int .i64 1)))), none⟩, ⟨(some 68), (.mv (.tmp 69)), none⟩] []) (
   .cond (.tmp 68) (
    .seq (
     .region true [⟨(some 71), (.fieldAddr 1 (.tmp 2)), none⟩,
       ⟨(some 72), (.load false 1 (.tmp 71)), none⟩,
       ⟨(some 73), (.fieldAddr 1 (.tmp 6)), none⟩,
       ⟨(some 74), (.load false 1 (.tmp 73)), none⟩,
       ⟨(some 75), (.idxAddr 1 (.tmp 72) (.tmp 74)), none⟩,
       ⟨(some 76), (.load false 1 (.tmp 75)), none⟩,
       ⟨(some 77), (.fieldAddr 5 (.tmp 3)), none⟩,
       ⟨(some 78), (.load true 2 (.tmp 77)), none⟩,
       ⟨(some 79), (.call 0 false (.cst (.d (.fn n_hist_at))) [(.tmp 76), (.tmp 78)]), none⟩,
       ⟨(some 70), (.mv (.tmp 79)), none⟩,
       ⟨(some 80), (.extract 0 (.tmp 70)), none⟩,
       ⟨(some 81), (.extract 1 (.tmp 70)), none⟩,
       ⟨(some 8), (.mv (.tmp 80)), none⟩,
       ⟨(some 9), (.mv (.tmp 81)), none⟩] []) (
    .block 1 (
     .seq (
      .region false [⟨(some 83), (.mv (.tmp 9)), none⟩,
        ⟨(some 84), (.un .not (.tmp 83)), none⟩,
        ⟨(some 82), (.mv (.tmp 84)), none⟩] []) (
     .cond (.tmp 82) (
      .seq (
       .region false [⟨(some 85), (.build [(.d (.list [] true)), (.d (.list [] true)), (.d (.list [] true)), (.d (.list [] true)), (.d (.list [] true))] []), none⟩,
         ⟨none, (.store 5 (.tmp 4) (.tmp 85)), none⟩,
         ⟨(some 5), (.mv (.cst (.d (.int .i64 4)))), none⟩] []) (
      .ret)) (
      .seq (
       .region true [⟨(some 87), (.fieldAddr 5 (.tmp 3)), none⟩,
         ⟨(some 88), (.load true 2 (.tmp 87)), none⟩,
         ⟨(some 89), (.mv (.tmp 7)), none⟩,
         ⟨(some 90), (.fieldAddr 1 (.tmp 6)), none⟩,
         ⟨(some 91), (.load false 1 (.tmp 90)), none⟩,
         ⟨(some 92), (.idxAddr 2 (.tmp 89) (.tmp 91)), none⟩,
         ⟨(some 93), (.load true 2 (.tmp 92)), none⟩,
         ⟨(some 94), (.call 0 false (.cst (.d (.fn n_rat_Cmp))) [(.tmp 88), (.tmp 93)]), none⟩,
         ⟨(some 95), (.bin .lss (.tmp 94) (.cst (.d (.int .i64 0)))), none⟩,
         ⟨(some 86), (.mv (.tmp 95)), none⟩] []) (
      .cond (.tmp 86) (
       .seq (
        .region false [⟨(some 96), (.build [(.d (.list [] true)), (.d (.list [] true)), (.d (.list [] true)), (.d (.list [] true)), (.d (.list [] true))] []), none⟩,
          ⟨none, (.store 5 (.tmp 4) (.tmp 96)), none⟩,
          ⟨(some 5), (.mv (.cst (.d (.int .i64 6)))), none⟩] []) (
       .ret)) (
       .seq (
        .region true [⟨(some 98), (.fieldAddr 1 (.tmp 2)), none⟩,
          ⟨(some 99), (.load false 1 (.tmp 98)), none⟩,
          ⟨(some 100), (.fieldAddr 1 (.tmp 6)), none⟩,
          ⟨(some 101), (.load false 1 (.tmp 100)), none⟩,
          ⟨(some 102), (.idxAddr 1 (.tmp 99) (.tmp 101)), none⟩,
          ⟨(some 103), (.load false 1 (.tmp 102)), none⟩,
          ⟨(some 104), (.mv (.tmp 8)), none⟩,
          ⟨(some 105), (.idxAddr 3 (.tmp 103) (.tmp 104)), none⟩,
          ⟨(some 106), (.fieldAddr 2 (.tmp 105)), none⟩,
          ⟨(some 107), (.load false 1 (.tmp 106)), none⟩,
          ⟨(some 108), (.fieldAddr 2 (.tmp 6)), none⟩,
          ⟨(some 109), (.load false 1 (.tmp 108)), none⟩,
          ⟨(some 110), (.bin .neq (.tmp 107) (.tmp 109)), none⟩,
          ⟨(some 97), (.mv (.tmp 110)), none⟩] []) (
       .cond (.tmp 97) (
        .seq (
         .region false [⟨(some 111), (.build [(.d (.list [] true)), (.d (.list [] true)), (.d (.list [] true)), (.d (.list [] true)), (.d (.list [] true))] []), none⟩,
           ⟨none, (.store 5 (.tmp 4) (.tmp 111)), none⟩,
           ⟨(some 5), (.mv (.cst (.d (.int .i64 3)))), none⟩] []) (
        .ret)) (
        .skip))))))))) (
    .seq (
     .region false [⟨(some 113), (.bin .eql (.tmp 67) (.cst (.d (.int .i64 2)))), none⟩, ⟨(some 112), (.mv (.tmp 113)), none⟩] []) (
    .cond (.tmp 112) (
     .seq (
      .region true [⟨(some 115), (.fieldAddr 1 (.tmp 2)), none⟩,
        ⟨(some 116), (.load false 1 (.tmp 115)), none⟩,
        ⟨(some 117), (.fieldAddr 1 (.tmp 6)), none⟩,
        ⟨(some 118), (.load false 1 (.tmp 117)), none⟩,
        ⟨(some 119), (.idxAddr 1 (.tmp 116) (.tmp 118)), none⟩,
        ⟨(some 120), (.load false 1 (.tmp 119)), none⟩,
        ⟨(some 121), (.fieldAddr 5 (.tmp 3)), none⟩,
        ⟨(some 122), (.load true 2 (.tmp 121)), none⟩,
        ⟨(some 123), (.call 0 false (.cst (.d (.fn n_hist_at))) [(.tmp 120), (.tmp 122)]), none⟩,
        ⟨(some 114), (.mv (.tmp 123)), none⟩,
        ⟨(some 124), (.extract 0 (.tmp 114)), none⟩,
        ⟨(some 125), (.extract 1 (.tmp 114)), none⟩,
        ⟨(some 10), (.mv (.tmp 124)), none⟩,
        ⟨(some 11), (.mv (.tmp 125)), none⟩] []) (
     .seq (
      .block 2 (
       .seq (
        .region false [⟨(some 127), (.mv (.tmp 11)), none⟩, ⟨(some 126), (.mv (.tmp 127)), none⟩] []) (
       .cond (.tmp 126) (
        .seq (
         .region false [⟨(some 128), (.build [(.d (.list [] true)), (.d (.list [] true)), (.d (.list [] true)), (.d (.list [] true)), (.d (.list [] true))] []), none⟩,
           ⟨none, (.store 5 (.tmp 4) (.tmp 128)), none⟩,
           ⟨(some 5), (.mv (.cst (.d (.int .i64 5)))), none⟩] []) (
        .ret)) (
        .seq (
         .region true [⟨(some 130), (.fieldAddr 5 (.tmp 3)), none⟩,
           ⟨(some 131), (.load true 2 (.tmp 130)), none⟩,
           ⟨(some 132), (.mv (.tmp 7)), none⟩,
           ⟨(some 133), (.fieldAddr 1 (.tmp 6)), none⟩,
           ⟨(some 134), (.load false 1 (.tmp 133)), none⟩,
           ⟨(some 135), (.idxAddr 2 (.tmp 132) (.tmp 134)), none⟩,
           ⟨(some 136), (.load true 2 (.tmp 135)), none⟩,
           ⟨(some 137), (.call 0 false (.cst (.d (.fn n_rat_Cmp))) [(.tmp 131), (.tmp 136)]), none⟩,
           ⟨(some 138), (.bin .leq (.tmp 137) (.cst (.d (.int .i64 0)))), none⟩,
           ⟨(some 129), (.mv (.tmp 138)), none⟩] []) (
        .cond (.tmp 129) (
         .seq (
          .region false [⟨(some 139), (.build [(.d (.list [] true)), (.d (.list [] true)), (.d (.list [] true)), (.d (.list [] true)), (.d (.list [] true))] []), none⟩,
            ⟨none, (.store 5 (.tmp 4) (.tmp 139)), none⟩,
            ⟨(some 5), (.mv (.cst (.d (.int .i64 6)))), none⟩] []) (
         .ret)) (
         .skip)))))) (
     .seq (
      .region false [⟨(some 140), (.fieldAddr 5 (.tmp 3)), none⟩,
        ⟨(some 141), (.load true 2 (.tmp 140)), none⟩,
        ⟨(some 142), (.call 0 false (.cst (.d (.fn n_rat_Least))) [(.tmp 141)]), none⟩,
        ⟨(some 12), (.alloc 0 2 [(.d (.int .i64 0)), (.d (.int .i64 0))]), none⟩,
        ⟨none, (.store 2 (.tmp 12) (.tmp 142)), none⟩] []) (
     .seq (
      .region true [⟨(some 143), (.fieldAddr 1 (.tmp 2)), none⟩,
        ⟨(some 144), (.load false 1 (.tmp 143)), none⟩,
        ⟨(some 145), (.fieldAddr 1 (.tmp 6)), none⟩,
        ⟨(some 146), (.load false 1 (.tmp 145)), none⟩,
        ⟨(some 147), (.fieldAddr 1 (.tmp 2)), none⟩,
        ⟨(some 148), (.load false 1 (.tmp 147)), none⟩,
        ⟨(some 149), (.fieldAddr 1 (.tmp 6)), none⟩,
        ⟨(some 150), (.load false 1 (.tmp 149)), none⟩,
        ⟨(some 151), (.idxAddr 1 (.tmp 148) (.tmp 150)), none⟩,
        ⟨(some 152), (.load false 1 (.tmp 151)), none⟩,
        ⟨(some 153), (.mv (.tmp 10)), none⟩,
        ⟨(some 154), (.load true 2 (.tmp 12)), none⟩,
        ⟨(some 155), (.fieldAddr 3 (.tmp 6)), none⟩,
        ⟨(some 156), (.load false 1 (.tmp 155)), none⟩,
        ⟨(some 157), (.build [(.d (.int .i64 0)), (.d (.int .i64 0)), (.d (.int .i64 0))] [(0, (2, (.tmp 154))), (2, (1, (.tmp 156)))]), none⟩,
        ⟨(some 158), (.bslice 0 3 1 [(.d (.int .i64 0)), (.d (.int .i64 0)), (.d (.int .i64 0))] [(0, (.tmp 157))]), none⟩,
        ⟨(some 159), (.call 1 true (.cst (.d (.fn n_slices_Insert_api_Stamp))) [(.tmp 152), (.tmp 153), (.tmp 158)]), none⟩,
        ⟨(some 160), (.idxAddr 1 (.tmp 144) (.tmp 146)), none⟩,
        ⟨none, (.store 1 (.tmp 160) (.tmp 159)), none⟩] [(9, 15), (7, 15), (5, 15), (3, 15), (1, 15), (3, 16), (1, 16)]) (
     .region false [⟨(some 161), (.mv (.tmp 7)), none⟩,
       ⟨(some 162), (.fieldAddr 1 (.tmp 6)), none⟩,
       ⟨(some 163), (.load false 1 (.tmp 162)), none⟩,
       ⟨(some 164), (.load true 2 (.tmp 12)), none⟩,
       ⟨(some 165), (.idxAddr 2 (.tmp 161) (.tmp 163)), none⟩,
       ⟨none, (.store 2 (.tmp 165) (.tmp 164)), none⟩] []))))) (
     .seq (
      .seq (
       .region false [⟨(some 167), (.bin .eql (.tmp 67) (.cst (.d (.int .i64 3)))), none⟩, ⟨(some 166), (.mv (.tmp 167)), none⟩] []) (
      .cond (.tmp 166) (
       .skip) (
       .seq (
        .region false [⟨(some 168), (.bin .eql (.tmp 67) (.cst (.d (.int .i64 4)))), none⟩, ⟨(some 166), (.mv (.tmp 168)), none⟩] []) (
       .cond (.tmp 166) (
        .skip) (
        .region false [⟨(some 169), (.bin .eql (.tmp 67) (.cst (.d (.int .i64 5)))), none⟩, ⟨(some 166), (.mv (.tmp 169)), none⟩] []))))) (
     .cond (.tmp 166) (
      .seq (
       .seq (
        .region true [⟨(some 170), (.fieldAddr 0 (.tmp 6)), none⟩,
          ⟨(some 171), (.load false 1 (.tmp 170)), none⟩,
          ⟨(some 172), (.bin .neq (.tmp 171) (.cst (.d (.int .i64 4)))), none⟩,
          ⟨(some 173), (.mv (.tmp 172)), none⟩,
          ⟨(some 174), (.fieldAddr 2 (.tmp 2)), (some (173, true))⟩,
          ⟨(some 175), (.load false 1 (.tmp 174)), (some (173, true))⟩,
          ⟨(some 176), (.fieldAddr 1 (.tmp 6)), (some (173, true))⟩,
          ⟨(some 177), (.load false 1 (.tmp 176)), (some (173, true))⟩,
          ⟨(some 178), (.idxAddr 1 (.tmp 175) (.tmp 177)), (some (173, true))⟩,
          ⟨(some 179), (.load false 1 (.tmp 178)), (some (173, true))⟩,
          ⟨(some 180), (.fieldAddr 2 (.tmp 6)), (some (173, true))⟩,
          ⟨(some 181), (.load false 1 (.tmp 180)), (some (173, true))⟩,
          ⟨(some 182), (.bin .neq (.tmp 179) (.tmp 181)), (some (173, true))⟩,
          ⟨(some 183), (.pick (.tmp 173) (.tmp 182) (.cst (.d (.bool false)))), none⟩] []) (
       .cond (.tmp 183) (
        .seq (
         .region false [⟨(some 184), (.build [(.d (.list [] true)), (.d (.list [] true)), (.d (.list [] true)), (.d (.list [] true)), (.d (.list [] true))] []), none⟩,
           ⟨none, (.store 5 (.tmp 4) (.tmp 184)), none⟩,
           ⟨(some 5), (.mv (.cst (.d (.int .i64 3)))), none⟩] []) (
        .ret)) (
        .skip))) (
      .seq (
       .region false [⟨(some 185), (.mv (.tmp 7)), none⟩,
         ⟨(some 186), (.fieldAddr 3 (.tmp 2)), none⟩,
         ⟨(some 187), (.load false 1 (.tmp 186)), none⟩,
         ⟨(some 188), (.fieldAddr 1 (.tmp 6)), none⟩,
         ⟨(some 189), (.load false 1 (.tmp 188)), none⟩,
         ⟨(some 190), (.idxAddr 1 (.tmp 187) (.tmp 189)), none⟩,
         ⟨(some 191), (.load false 1 (.tmp 190)), none⟩,
         ⟨(some 192), (.call 0 true (.cst (.d (.fn n_hist_join))) [(.tmp 185), (.tmp 191)]), none⟩,
         ⟨(some 13), (.mv (.tmp 192)), none⟩] []) (
      .seq (
       .region false [⟨(some 193), (.fieldAddr 4 (.tmp 2)), none⟩,
         ⟨(some 194), (.load false 1 (.tmp 193)), none⟩,
         ⟨(some 195), (.fieldAddr 0 (.tmp 3)), none⟩,
         ⟨(some 196), (.load false 1 (.tmp 195)), none⟩,
         ⟨(some 197), (.mv (.tmp 13)), none⟩,
         ⟨(some 198), (.idxAddr 1 (.tmp 194) (.tmp 196)), none⟩,
         ⟨none, (.store 1 (.tmp 198) (.tmp 197)), none⟩] []) (
      .seq (
       .region false [⟨(some 199), (.fieldAddr 0 (.tmp 6)), none⟩,
         ⟨(some 200), (.load false 1 (.tmp 199)), none⟩,
         ⟨(some 201), (.bin .neq (.tmp 200) (.cst (.d (.int .i64 3)))), none⟩] []) (
      .cond (.tmp 201) (
       .region true [⟨(some 202), (.fieldAddr 2 (.tmp 2)), none⟩,
         ⟨(some 203), (.load false 1 (.tmp 202)), none⟩,
         ⟨(some 204), (.fieldAddr 1 (.tmp 6)), none⟩,
         ⟨(some 205), (.load false 1 (.tmp 204)), none⟩,
         ⟨(some 206), (.fieldAddr 3 (.tmp 2)), none⟩,
         ⟨(some 207), (.load false 1 (.tmp 206)), none⟩,
         ⟨(some 208), (.fieldAddr 1 (.tmp 6)), none⟩,
         ⟨(some 209), (.load false 1 (.tmp 208)), none⟩,
         ⟨(some 210), (.fieldAddr 3 (.tmp 6)), none⟩,
         ⟨(some 211), (.load false 1 (.tmp 210)), none⟩,
         ⟨(some 212), (.mv (.tmp 13)), none⟩,
         ⟨(some 213), (.call 0 true (.cst (.d (.fn n_slices_Clone_api_Rat))) [(.tmp 212)]), none⟩,
         ⟨(some 214), (.idxAddr 1 (.tmp 203) (.tmp 205)), none⟩,
         ⟨none, (.store 1 (.tmp 214) (.tmp 211)), none⟩,
         ⟨(some 215), (.idxAddr 1 (.tmp 207) (.tmp 209)), none⟩,
         ⟨none, (.store 1 (.tmp 215) (.tmp 213)), none⟩] [(9, 11), (7, 11), (5, 11), (3, 11), (1, 11), (7, 13), (5, 13)]) (
       .skip)))))) (
      .skip))))))))) (
 .seq (
  .region false [⟨(some 216), (.load true 5 (.tmp 2)), none⟩,
    ⟨none, (.store 5 (.tmp 4) (.tmp 216)), none⟩,
    ⟨(some 5), (.mv (.cst (.d (.int .i64 0)))), none⟩] []) (
 .ret)))))))
def R_hist_Do : List LRes := [(.cell 4 true 5), (.tmp 5)]
def V_hist_Do : List Nat := [0, 1, 3, 2, 6, 56, 4, 67, 68, 9, 82, 7, 86, 8, 97, 112, 11, 126, 129, 10, 12, 166, 183, 13, 201, 5]

def L_hist_begin : LCode :=
 .seq (
  .region false [⟨(some 2), (.mv (.cst (.d (.list [] true)))), none⟩] []) (
 .seq (
  .region false [⟨(some 5), (.mv (.tmp 0)), none⟩,
    ⟨(some 6), (.mkslice 0 2 16 [(.d (.int .i64 0)), (.d (.int .i64 0))] (.tmp 5) (.tmp 5)), none⟩,
    ⟨(some 3), (.mv (.tmp 6)), none⟩] []) (
 .seq (
  .seq (
   .region false [⟨(some 7), (.mv (.tmp 3)), none⟩,
     ⟨(some 8), (.len (.tmp 7)), none⟩,
     ⟨(some 9), (.mv (.cst (.d (.int .i64 0)))), none⟩] []) (
  .block 0 (
   .loop (
    .seq (
     .region false [⟨(some 10), (.bin .lss (.tmp 9) (.tmp 8)), none⟩] []) (
    .seq (
     .cond (.tmp 10) (
      .skip) (
      (.exit 0))) (
    .seq (
     .block 1 (
      .seq (
       .region false [⟨(some 11), (.mv (.tmp 9)), none⟩, ⟨(some 4), (.mv (.tmp 11)), none⟩] []) (
      .region false [⟨(some 12), (.mv (.tmp 3)), none⟩,
        ⟨(some 13), (.mv (.tmp 4)), none⟩,
        ⟨(some 14), (.idxAddr 2 (.tmp 12) (.tmp 13)), none⟩,
        ⟨(some 15), (.fieldAddr 1 (.tmp 14)), none⟩,
        ⟨none, (.store 1 (.tmp 15) (.cst (.d (.int .i64 1)))), none⟩] []))) (
    .region false [⟨(some 16), (.bin .add (.tmp 9) (.cst (.d (.int .i64 1)))), none⟩, ⟨(some 9), (.mv (.tmp 16)), none⟩] []))))))) (
 .seq (
  .region false [⟨(some 17), (.mv (.tmp 3)), none⟩, ⟨(some 2), (.mv (.tmp 17)), none⟩] []) (
 .ret))))
def R_hist_begin : List LRes := [(.tmp 2)]
def V_hist_begin : List Nat := [0, 3, 9, 8, 10, 4, 2]

def L_hist_plain : LCode :=
 .seq (
  .region false [⟨(some 2), (.mv (.cst (.d (.bool false)))), none⟩] []) (
 .seq (
  .region false [⟨(some 3), (.mv (.tmp 0)), none⟩,
    ⟨(some 4), (.bin .eql (.tmp 3) (.cst (.d (.int .i64 1)))), none⟩,
    ⟨(some 5), (.mv (.tmp 4)), none⟩,
    ⟨(some 6), (.mv (.tmp 0)), (some (5, false))⟩,
    ⟨(some 7), (.bin .eql (.tmp 6) (.cst (.d (.int .i64 2)))), (some (5, false))⟩,
    ⟨(some 8), (.pick (.tmp 5) (.cst (.d (.bool true))) (.tmp 7)), none⟩,
    ⟨(some 2), (.mv (.tmp 8)), none⟩] []) (
 .ret))
def R_hist_plain : List LRes := [(.tmp 2)]
def V_hist_plain : List Nat := [0, 2]

def L_hist_copied (n_slices_Clone_int64 : Nat) (n_slices_Clone_api_Loc : Nat) (n_slices_Clone_api_Rat : Nat) (n_slices_Clone_api_Stamp_api_Stamp : Nat) (n_slices_Clone_api_Rat_api_Rat : Nat) (n_slices_Clone_api_Stamp : Nat) : LCode :=
 .seq (
  .region false [⟨(some 1), (.box 0 (.tmp 0)), none⟩, ⟨(some 2), (.alloc 1 5 [(.d (.list [] true)), (.d (.list [] true)), (.d (.list [] true)), (.d (.list [] true)), (.d (.list [] true))]), none⟩] []) (
 .seq (
  .region true [⟨(some 6), (.fieldAddr 0 (.tmp 1)), none⟩,
    ⟨(some 7), (.load false 1 (.tmp 6)), none⟩,
    ⟨(some 8), (.call 0 true (.cst (.d (.fn n_slices_Clone_api_Loc))) [(.tmp 7)]), none⟩,
    ⟨(some 9), (.fieldAddr 2 (.tmp 1)), none⟩,
    ⟨(some 10), (.load false 1 (.tmp 9)), none⟩,
    ⟨(some 11), (.call 1 true (.cst (.d (.fn n_slices_Clone_int64))) [(.tmp 10)]), none⟩,
    ⟨(some 12), (.fieldAddr 0 (.tmp 1)), none⟩,
    ⟨none, (.store 1 (.tmp 12) (.tmp 8)), none⟩,
    ⟨(some 13), (.fieldAddr 2 (.tmp 1)), none⟩,
    ⟨none, (.store 1 (.tmp 13) (.tmp 11)), none⟩] [(2, 4)]) (
 .seq (
  .region true [⟨(some 14), (.fieldAddr 1 (.tmp 1)), none⟩,
    ⟨(some 15), (.load false 1 (.tmp 14)), none⟩,
    ⟨(some 16), (.call 0 true (.cst (.d (.fn n_slices_Clone_api_Stamp_api_Stamp))) [(.tmp 15)]), none⟩,
    ⟨(some 17), (.fieldAddr 3 (.tmp 1)), none⟩,
    ⟨(some 18), (.load false 1 (.tmp 17)), none⟩,
    ⟨(some 19), (.call 1 true (.cst (.d (.fn n_slices_Clone_api_Rat_api_Rat))) [(.tmp 18)]), none⟩,
    ⟨(some 20), (.fieldAddr 4 (.tmp 1)), none⟩,
    ⟨(some 21), (.load false 1 (.tmp 20)), none⟩,
    ⟨(some 22), (.call 2 true (.cst (.d (.fn n_slices_Clone_api_Rat_api_Rat))) [(.tmp 21)]), none⟩,
    ⟨(some 23), (.fieldAddr 1 (.tmp 1)), none⟩,
    ⟨none, (.store 1 (.tmp 23) (.tmp 16)), none⟩,
    ⟨(some 24), (.fieldAddr 3 (.tmp 1)), none⟩,
    ⟨none, (.store 1 (.tmp 24) (.tmp 19)), none⟩,
    ⟨(some 25), (.fieldAddr 4 (.tmp 1)), none⟩,
    ⟨none, (.store 1 (.tmp 25) (.tmp 22)), none⟩] [(2, 4), (5, 7), (2, 7)]) (
 .seq (
  .seq (
   .region false [⟨(some 26), (.fieldAddr 1 (.tmp 1)), none⟩,
     ⟨(some 27), (.load false 1 (.tmp 26)), none⟩,
     ⟨(some 28), (.len (.tmp 27)), none⟩,
     ⟨(some 29), (.mv (.cst (.d (.int .i64 0)))), none⟩] []) (
  .block 0 (
   .loop (
    .seq (
     .region false [⟨(some 30), (.bin .lss (.tmp 29) (.tmp 28)), none⟩] []) (
    .seq (
     .cond (.tmp 30) (
      .skip) (
      (.exit 0))) (
    .seq (
     .block 1 (
      .seq (
       .region false [⟨(some 31), (.mv (.tmp 29)), none⟩, ⟨(some 3), (.mv (.tmp 31)), none⟩] []) (
      .region true [⟨(some 32), (.fieldAddr 1 (.tmp 1)), none⟩,
        ⟨(some 33), (.load false 1 (.tmp 32)), none⟩,
        ⟨(some 34), (.mv (.tmp 3)), none⟩,
        ⟨(some 35), (.fieldAddr 1 (.tmp 1)), none⟩,
        ⟨(some 36), (.load false 1 (.tmp 35)), none⟩,
        ⟨(some 37), (.mv (.tmp 3)), none⟩,
        ⟨(some 38), (.idxAddr 1 (.tmp 36) (.tmp 37)), none⟩,
        ⟨(some 39), (.load false 1 (.tmp 38)), none⟩,
        ⟨(some 40), (.call 0 true (.cst (.d (.fn n_slices_Clone_api_Stamp))) [(.tmp 39)]), none⟩,
        ⟨(some 41), (.idxAddr 1 (.tmp 33) (.tmp 34)), none⟩,
        ⟨none, (.store 1 (.tmp 41) (.tmp 40)), none⟩] [(1, 8)]))) (
    .region false [⟨(some 42), (.bin .add (.tmp 29) (.cst (.d (.int .i64 1)))), none⟩, ⟨(some 29), (.mv (.tmp 42)), none⟩] []))))))) (
 .seq (
  .seq (
   .region false [⟨(some 43), (.fieldAddr 3 (.tmp 1)), none⟩,
     ⟨(some 44), (.load false 1 (.tmp 43)), none⟩,
     ⟨(some 45), (.len (.tmp 44)), none⟩,
     ⟨(some 46), (.mv (.cst (.d (.int .i64 0)))), none⟩] []) (
  .block 2 (
   .loop (
    .seq (
     .region false [⟨(some 47), (.bin .lss (.tmp 46) (.tmp 45)), none⟩] []) (
    .seq (
     .cond (.tmp 47) (
      .skip) (
      (.exit 2))) (
    .seq (
     .block 3 (
      .seq (
       .region false [⟨(some 48), (.mv (.tmp 46)), none⟩, ⟨(some 4), (.mv (.tmp 48)), none⟩] []) (
      .region true [⟨(some 49), (.fieldAddr 3 (.tmp 1)), none⟩,
        ⟨(some 50), (.load false 1 (.tmp 49)), none⟩,
        ⟨(some 51), (.mv (.tmp 4)), none⟩,
        ⟨(some 52), (.fieldAddr 3 (.tmp 1)), none⟩,
        ⟨(some 53), (.load false 1 (.tmp 52)), none⟩,
        ⟨(some 54), (.mv (.tmp 4)), none⟩,
        ⟨(some 55), (.idxAddr 1 (.tmp 53) (.tmp 54)), none⟩,
        ⟨(some 56), (.load false 1 (.tmp 55)), none⟩,
        ⟨(some 57), (.call 0 true (.cst (.d (.fn n_slices_Clone_api_Rat))) [(.tmp 56)]), none⟩,
        ⟨(some 58), (.idxAddr 1 (.tmp 50) (.tmp 51)), none⟩,
        ⟨none, (.store 1 (.tmp 58) (.tmp 57)), none⟩] [(1, 8)]))) (
    .region false [⟨(some 59), (.bin .add (.tmp 46) (.cst (.d (.int .i64 1)))), none⟩, ⟨(some 46), (.mv (.tmp 59)), none⟩] []))))))) (
 .seq (
  .seq (
   .region false [⟨(some 60), (.fieldAddr 4 (.tmp 1)), none⟩,
     ⟨(some 61), (.load false 1 (.tmp 60)), none⟩,
     ⟨(some 62), (.len (.tmp 61)), none⟩,
     ⟨(some 63), (.mv (.cst (.d (.int .i64 0)))), none⟩] []) (
  .block 4 (
   .loop (
    .seq (
     .region false [⟨(some 64), (.bin .lss (.tmp 63) (.tmp 62)), none⟩] []) (
    .seq (
     .cond (.tmp 64) (
      .skip) (
      (.exit 4))) (
    .seq (
     .block 5 (
      .seq (
       .region false [⟨(some 65), (.mv (.tmp 63)), none⟩, ⟨(some 5), (.mv (.tmp 65)), none⟩] []) (
      .region true [⟨(some 66), (.fieldAddr 4 (.tmp 1)), none⟩,
        ⟨(some 67), (.load false 1 (.tmp 66)), none⟩,
        ⟨(some 68), (.mv (.tmp 5)), none⟩,
        ⟨(some 69), (.fieldAddr 4 (.tmp 1)), none⟩,
        ⟨(some 70), (.load false 1 (.tmp 69)), none⟩,
        ⟨(some 71), (.mv (.tmp 5)), none⟩,
        ⟨(some 72), (.idxAddr 1 (.tmp 70) (.tmp 71)), none⟩,
        ⟨(some 73), (.load false 1 (.tmp 72)), none⟩,
        ⟨(some 74), (.call 0 true (.cst (.d (.fn n_slices_Clone_api_Rat))) [(.tmp 73)]), none⟩,
        ⟨(some 75), (.idxAddr 1 (.tmp 67) (.tmp 68)), none⟩,
        ⟨none, (.store 1 (.tmp 75) (.tmp 74)), none⟩] [(1, 8)]))) (
    .region false [⟨(some 76), (.bin .add (.tmp 63) (.cst (.d (.int .i64 1)))), none⟩, ⟨(some 63), (.mv (.tmp 76)), none⟩] []))))))) (
 .seq (
  .region false [⟨(some 77), (.load true 5 (.tmp 1)), none⟩, ⟨none, (.store 5 (.tmp 2) (.tmp 77)), none⟩] []) (
 .ret)))))))
def R_hist_copied : List LRes := [(.cell 2 true 5)]
def V_hist_copied : List Nat := [0, 1, 29, 28, 30, 3, 46, 45, 47, 4, 63, 62, 64, 5, 2]

def L_hist_at (n_slices_BinarySearchFunc_api_Stamp_api_Rat : Nat) (n_hist_at_1 : Nat) : LCode :=
 .seq (
  .region false [⟨(some 3), (.box 0 (.tmp 1)), none⟩,
    ⟨(some 4), (.mv (.cst (.d (.int .i64 0)))), none⟩,
    ⟨(some 5), (.mv (.cst (.d (.bool false)))), none⟩] []) (
 .seq (
  .region false [⟨(some 6), (.mv (.tmp 0)), none⟩,
    ⟨(some 7), (.load true 2 (.tmp 3)), none⟩,
    ⟨(some 8), (.call 0 false (.cst (.d (.fn n_slices_BinarySearchFunc_api_Stamp_api_Rat))) [(.tmp 6), (.tmp 7), (.cst (.d (.fn n_hist_at_1)))]), none⟩,
    ⟨(some 9), (.extract 0 (.tmp 8)), none⟩,
    ⟨(some 10), (.extract 1 (.tmp 8)), none⟩,
    ⟨(some 4), (.mv (.tmp 9)), none⟩,
    ⟨(some 5), (.mv (.tmp 10)), none⟩] []) (
 .ret))
def R_hist_at : List LRes := [(.tmp 4), (.tmp 5)]
def V_hist_at : List Nat := [1, 0, 3, 4, 5]

def L_hist_join (n_slices_Clone_api_Rat : Nat) (n_rat_Max : Nat) : LCode :=
 .seq (
  .region false [⟨(some 4), (.mv (.cst (.d (.list [] true)))), none⟩] []) (
 .seq (
  .region false [⟨(some 7), (.mv (.tmp 0)), none⟩,
    ⟨(some 8), (.call 0 true (.cst (.d (.fn n_slices_Clone_api_Rat))) [(.tmp 7)]), none⟩,
    ⟨(some 5), (.mv (.tmp 8)), none⟩] []) (
 .seq (
  .seq (
   .region false [⟨(some 9), (.mv (.tmp 5)), none⟩,
     ⟨(some 10), (.len (.tmp 9)), none⟩,
     ⟨(some 11), (.mv (.cst (.d (.int .i64 0)))), none⟩] []) (
  .block 0 (
   .loop (
    .seq (
     .region false [⟨(some 12), (.bin .lss (.tmp 11) (.tmp 10)), none⟩] []) (
    .seq (
     .cond (.tmp 12) (
      .skip) (
      (.exit 0))) (
    .seq (
     .block 1 (
      .seq (
       .region false [⟨(some 13), (.mv (.tmp 11)), none⟩, ⟨(some 6), (.mv (.tmp 13)), none⟩] []) (
      .region true [⟨(some 14), (.mv (.tmp 5)), none⟩,
        ⟨(some 15), (.mv (.tmp 6)), none⟩,
        ⟨(some 16), (.mv (.tmp 5)), none⟩,
        ⟨(some 17), (.mv (.tmp 6)), none⟩,
        ⟨(some 18), (.idxAddr 2 (.tmp 16) (.tmp 17)), none⟩,
        ⟨(some 19), (.load true 2 (.tmp 18)), none⟩,
        ⟨(some 20), (.mv (.tmp 1)), none⟩,
        ⟨(some 21), (.mv (.tmp 6)), none⟩,
        ⟨(some 22), (.idxAddr 2 (.tmp 20) (.tmp 21)), none⟩,
        ⟨(some 23), (.load true 2 (.tmp 22)), none⟩,
        ⟨(some 24), (.call 0 false (.cst (.d (.fn n_rat_Max))) [(.tmp 19), (.tmp 23)]), none⟩,
        ⟨(some 25), (.idxAddr 2 (.tmp 14) (.tmp 15)), none⟩,
        ⟨none, (.store 2 (.tmp 25) (.tmp 24)), none⟩] []))) (
    .region false [⟨(some 26), (.bin .add (.tmp 11) (.cst (.d (.int .i64 1)))), none⟩, ⟨(some 11), (.mv (.tmp 26)), none⟩] []))))))) (
 .seq (
  .region false [⟨(some 27), (.mv (.tmp 5)), none⟩, ⟨(some 4), (.mv (.tmp 27)), none⟩] []) (
 .ret))))
def R_hist_join : List LRes := [(.tmp 4)]
def V_hist_join : List Nat := [0, 5, 11, 10, 12, 6, 1, 4]

def L_hist_at_1 (n_rat_Cmp : Nat) : LCode :=
 .seq (
  .region false [⟨(some 2), (.box 0 (.tmp 0)), none⟩,
    ⟨(some 3), (.box 1 (.tmp 1)), none⟩,
    ⟨(some 4), (.mv (.cst (.d (.int .i64 0)))), none⟩] []) (
 .seq (
  .region false [⟨(some 5), (.fieldAddr 0 (.tmp 2)), none⟩,
    ⟨(some 6), (.load true 2 (.tmp 5)), none⟩,
    ⟨(some 7), (.load true 2 (.tmp 3)), none⟩,
    ⟨(some 8), (.call 0 false (.cst (.d (.fn n_rat_Cmp))) [(.tmp 6), (.tmp 7)]), none⟩,
    ⟨(some 4), (.mv (.tmp 8)), none⟩] []) (
 .ret))
def R_hist_at_1 : List LRes := [(.tmp 4)]
def V_hist_at_1 : List Nat := [0, 1, 2, 3, 4]

def L_hist_Sees (n_rat_Cmp : Nat) : LCode :=
 .seq (
  .region false [⟨(some 3), (.box 0 (.tmp 0)), none⟩, ⟨(some 6), (.mv (.cst (.d (.list [] true)))), none⟩] []) (
 .seq (
  .seq (
   .region false [⟨(some 10), (.mv (.tmp 1)), none⟩,
     ⟨(some 11), (.bin .lss (.tmp 10) (.cst (.d (.int .i64 0)))), none⟩,
     ⟨(some 12), (.mv (.tmp 11)), none⟩,
     ⟨(some 13), (.mv (.tmp 1)), (some (12, false))⟩,
     ⟨(some 14), (.fieldAddr 4 (.tmp 3)), (some (12, false))⟩,
     ⟨(some 15), (.load false 1 (.tmp 14)), (some (12, false))⟩,
     ⟨(some 16), (.len (.tmp 15)), (some (12, false))⟩,
     ⟨(some 17), (.bin .geq (.tmp 13) (.tmp 16)), (some (12, false))⟩,
     ⟨(some 18), (.pick (.tmp 12) (.cst (.d (.bool true))) (.tmp 17)), none⟩,
     ⟨(some 19), (.mv (.tmp 18)), none⟩,
     ⟨(some 20), (.mv (.tmp 2)), (some (19, false))⟩,
     ⟨(some 21), (.bin .lss (.tmp 20) (.cst (.d (.int .i64 0)))), (some (19, false))⟩,
     ⟨(some 22), (.pick (.tmp 19) (.cst (.d (.bool true))) (.tmp 21)), none⟩,
     ⟨(some 23), (.mv (.tmp 22)), none⟩,
     ⟨(some 24), (.mv (.tmp 2)), (some (23, false))⟩,
     ⟨(some 25), (.fieldAddr 1 (.tmp 3)), (some (23, false))⟩,
     ⟨(some 26), (.load false 1 (.tmp 25)), (some (23, false))⟩,
     ⟨(some 27), (.len (.tmp 26)), (some (23, false))⟩,
     ⟨(some 28), (.bin .geq (.tmp 24) (.tmp 27)), (some (23, false))⟩,
     ⟨(some 29), (.pick (.tmp 23) (.cst (.d (.bool true))) (.tmp 28)), none⟩] []) (
  .cond (.tmp 29) (
   .seq (
    .region false [⟨(some 6), (.mv (.cst (.d (.list [] true)))), none⟩] []) (
   .ret)) (
   .skip))) (
 .seq (
  .region false [⟨(some 7), (.mv (.cst (.d (.list [] true)))), none⟩] []) (
 .seq (
  .seq (
   .region false [⟨(some 30), (.fieldAddr 1 (.tmp 3)), none⟩,
     ⟨(some 31), (.load false 1 (.tmp 30)), none⟩,
     ⟨(some 32), (.mv (.tmp 2)), none⟩,
     ⟨(some 33), (.idxAddr 1 (.tmp 31) (.tmp 32)), none⟩,
     ⟨(some 34), (.load false 1 (.tmp 33)), none⟩,
     ⟨(some 35), (.len (.tmp 34)), none⟩,
     ⟨(some 36), (.mv (.cst (.d (.int .i64 0)))), none⟩] []) (
  .block 0 (
   .loop (
    .seq (
     .region false [⟨(some 37), (.bin .lss (.tmp 36) (.tmp 35)), none⟩] []) (
    .seq (
     .cond (.tmp 37) (
      .skip) (
      (.exit 0))) (
    .seq (
     .block 1 (
      .seq (
       .region false [⟨(some 38), (.idxAddr 3 (.tmp 34) (.tmp 36)), none⟩,
         ⟨(some 39), (.load true 3 (.tmp 38)), none⟩,
         ⟨(some 9), (.alloc 0 3 [(.d (.int .i64 0)), (.d (.int .i64 0)), (.d (.int .i64 0))]), none⟩,
         ⟨none, (.store 3 (.tmp 9) (.tmp 39)), none⟩] []) (
      .seq (
       .region true [⟨(some 40), (.fieldAddr 0 (.tmp 9)), none⟩,
         ⟨(some 41), (.load true 2 (.tmp 40)), none⟩,
         ⟨(some 42), (.fieldAddr 4 (.tmp 3)), none⟩,
         ⟨(some 43), (.load false 1 (.tmp 42)), none⟩,
         ⟨(some 44), (.mv (.tmp 1)), none⟩,
         ⟨(some 45), (.idxAddr 1 (.tmp 43) (.tmp 44)), none⟩,
         ⟨(some 46), (.load false 1 (.tmp 45)), none⟩,
         ⟨(some 47), (.mv (.tmp 2)), none⟩,
         ⟨(some 48), (.idxAddr 2 (.tmp 46) (.tmp 47)), none⟩,
         ⟨(some 49), (.load true 2 (.tmp 48)), none⟩,
         ⟨(some 50), (.call 0 false (.cst (.d (.fn n_rat_Cmp))) [(.tmp 41), (.tmp 49)]), none⟩,
         ⟨(some 51), (.bin .geq (.tmp 50) (.cst (.d (.int .i64 0)))), none⟩] []) (
      .cond (.tmp 51) (
       .region false [⟨(some 52), (.mv (.tmp 7)), none⟩,
         ⟨(some 53), (.load true 3 (.tmp 9)), none⟩,
         ⟨(some 54), (.bslice 0 3 1 [(.d (.int .i64 0)), (.d (.int .i64 0)), (.d (.int .i64 0))] [(0, (.tmp 53))]), none⟩,
         ⟨(some 55), (.append 1 3 24 (.tmp 52) (.tmp 54)), none⟩,
         ⟨(some 7), (.mv (.tmp 55)), none⟩] []) (
       .skip))))) (
    .region false [⟨(some 56), (.bin .add (.tmp 36) (.cst (.d (.int .i64 1)))), none⟩, ⟨(some 36), (.mv (.tmp 56)), none⟩] []))))))) (
 .seq (
  .region false [⟨(some 57), (.mv (.tmp 7)), none⟩, ⟨(some 6), (.mv (.tmp 57)), none⟩] []) (
 .ret)))))
def R_hist_Sees : List LRes := [(.tmp 6)]
def V_hist_Sees : List Nat := [0, 1, 3, 2, 29, 36, 35, 37, 34, 9, 51, 7, 6]

end Go.Ago

/- Lowered functions of a package, callees by their numbers. Printed by a program of this session. Conditions: none. -/
set_option maxRecDepth 100000
set_option linter.unusedVariables false
namespace Go.Ago
def L_ref01_Right : LCode :=
 .seq (
  .region false [⟨(some 1), (.box 0 (.tmp 0)), none⟩, ⟨(some 2), (.mv (.cst (.d (.bool false)))), none⟩] []) (
 .seq (
  .region false [⟨(some 3), (.fieldAddr 1 (.tmp 1)), none⟩,
    ⟨(some 4), (.load false 1 (.tmp 3)), none⟩,
    ⟨(some 5), (.bin .leq (.cst (.d (.int .i64 1))) (.tmp 4)), none⟩,
    ⟨(some 6), (.mv (.tmp 5)), none⟩,
    ⟨(some 7), (.fieldAddr 1 (.tmp 1)), (some (6, true))⟩,
    ⟨(some 8), (.load false 1 (.tmp 7)), (some (6, true))⟩,
    ⟨(some 9), (.bin .leq (.tmp 8) (.cst (.d (.int .i64 1024)))), (some (6, true))⟩,
    ⟨(some 10), (.pick (.tmp 6) (.tmp 9) (.cst (.d (.bool false)))), none⟩,
    ⟨(some 11), (.mv (.tmp 10)), none⟩,
    ⟨(some 12), (.fieldAddr 0 (.tmp 1)), (some (11, true))⟩,
    ⟨(some 13), (.load false 1 (.tmp 12)), (some (11, true))⟩,
    ⟨(some 14), (.bin .leq (.cst (.d (.int .i64 (-1048576)))) (.tmp 13)), (some (11, true))⟩,
    ⟨(some 15), (.pick (.tmp 11) (.tmp 14) (.cst (.d (.bool false)))), none⟩,
    ⟨(some 16), (.mv (.tmp 15)), none⟩,
    ⟨(some 17), (.fieldAddr 0 (.tmp 1)), (some (16, true))⟩,
    ⟨(some 18), (.load false 1 (.tmp 17)), (some (16, true))⟩,
    ⟨(some 19), (.bin .leq (.tmp 18) (.cst (.d (.int .i64 1048576)))), (some (16, true))⟩,
    ⟨(some 20), (.pick (.tmp 16) (.tmp 19) (.cst (.d (.bool false)))), none⟩,
    ⟨(some 2), (.mv (.tmp 20)), none⟩] []) (
 .ret))
def R_ref01_Right : List LRes := [(.tmp 2)]
def V_ref01_Right : List Nat := [0, 1, 2]

def L_ref01_Cmp (n_ref01_Right : Nat) : LCode :=
 .seq (
  .region false [⟨(some 2), (.box 0 (.tmp 0)), none⟩,
    ⟨(some 3), (.box 1 (.tmp 1)), none⟩,
    ⟨(some 4), (.mv (.cst (.d (.int .i64 0)))), none⟩] []) (
 .seq (
  .seq (
   .region false [⟨(some 6), (.load true 2 (.tmp 2)), none⟩,
     ⟨(some 7), (.call 0 false (.cst (.d (.fn n_ref01_Right))) [(.tmp 6)]), none⟩,
     ⟨(some 8), (.un .not (.tmp 7)), none⟩,
     ⟨(some 9), (.mv (.tmp 8)), none⟩,
     ⟨(some 10), (.load true 2 (.tmp 3)), (some (9, false))⟩,
     ⟨(some 11), (.call 0 false (.cst (.d (.fn n_ref01_Right))) [(.tmp 10)]), (some (9, false))⟩,
     ⟨(some 12), (.un .not (.tmp 11)), (some (9, false))⟩,
     ⟨(some 13), (.pick (.tmp 9) (.cst (.d (.bool true))) (.tmp 12)), none⟩] []) (
  .cond (.tmp 13) (
   .seq (
    .region false [⟨(some 4), (.mv (.cst (.d (.int .i64 0)))), none⟩] []) (
   .ret)) (
   .skip))) (
 .seq (
  .region false [⟨(some 14), (.fieldAddr 0 (.tmp 2)), none⟩,
    ⟨(some 15), (.load false 1 (.tmp 14)), none⟩,
    ⟨(some 16), (.fieldAddr 1 (.tmp 3)), none⟩,
    ⟨(some 17), (.load false 1 (.tmp 16)), none⟩,
    ⟨(some 18), (.bin .mul (.tmp 15) (.tmp 17)), none⟩,
    ⟨(some 19), (.fieldAddr 0 (.tmp 3)), none⟩,
    ⟨(some 20), (.load false 1 (.tmp 19)), none⟩,
    ⟨(some 21), (.fieldAddr 1 (.tmp 2)), none⟩,
    ⟨(some 22), (.load false 1 (.tmp 21)), none⟩,
    ⟨(some 23), (.bin .mul (.tmp 20) (.tmp 22)), none⟩,
    ⟨(some 24), (.bin .sub (.tmp 18) (.tmp 23)), none⟩,
    ⟨(some 5), (.mv (.tmp 24)), none⟩] []) (
 .seq (
  .seq (
   .region false [⟨(some 25), (.mv (.tmp 5)), none⟩, ⟨(some 26), (.bin .lss (.tmp 25) (.cst (.d (.int .i64 0)))), none⟩] []) (
  .cond (.tmp 26) (
   .seq (
    .region false [⟨(some 4), (.mv (.cst (.d (.int .i64 (-1))))), none⟩] []) (
   .ret)) (
   .skip))) (
 .seq (
  .seq (
   .region false [⟨(some 27), (.mv (.tmp 5)), none⟩, ⟨(some 28), (.bin .gtr (.tmp 27) (.cst (.d (.int .i64 0)))), none⟩] []) (
  .cond (.tmp 28) (
   .seq (
    .region false [⟨(some 4), (.mv (.cst (.d (.int .i64 1)))), none⟩] []) (
   .ret)) (
   .skip))) (
 .seq (
  .region false [⟨(some 4), (.mv (.cst (.d (.int .i64 0)))), none⟩] []) (
 .ret))))))
def R_ref01_Cmp : List LRes := [(.tmp 4)]
def V_ref01_Cmp : List Nat := [0, 1, 2, 3, 13, 5, 26, 28, 4]

def L_ref01_Least (n_ref01_Right : Nat) : LCode :=
 .seq (
  .region false [⟨(some 1), (.box 0 (.tmp 0)), none⟩, ⟨(some 2), (.alloc 1 2 [(.d (.int .i64 0)), (.d (.int .i64 0))]), none⟩] []) (
 .seq (
  .seq (
   .region false [⟨(some 4), (.load true 2 (.tmp 1)), none⟩,
     ⟨(some 5), (.call 0 false (.cst (.d (.fn n_ref01_Right))) [(.tmp 4)]), none⟩,
     ⟨(some 6), (.un .not (.tmp 5)), none⟩] []) (
  .cond (.tmp 6) (
   .seq (
    .region false [⟨(some 7), (.load true 2 (.tmp 1)), none⟩, ⟨none, (.store 2 (.tmp 2) (.tmp 7)), none⟩] []) (
   .ret)) (
   .skip))) (
 .seq (
  .seq (
   .region false [⟨(some 3), (.mv (.cst (.d (.int .i64 1)))), none⟩] []) (
  .block 0 (
   .loop (
    .seq (
     .seq (
      .region false [⟨(some 8), (.mv (.tmp 3)), none⟩,
        ⟨(some 9), (.fieldAddr 1 (.tmp 1)), none⟩,
        ⟨(some 10), (.load false 1 (.tmp 9)), none⟩,
        ⟨(some 11), (.bin .lss (.tmp 8) (.tmp 10)), none⟩] []) (
     .cond (.tmp 11) (
      .skip) (
      (.exit 0)))) (
    .seq (
     .block 1 (
      .seq (
       .region false [⟨(some 14), (.fieldAddr 0 (.tmp 1)), none⟩,
         ⟨(some 15), (.load false 1 (.tmp 14)), none⟩,
         ⟨(some 16), (.mv (.tmp 3)), none⟩,
         ⟨(some 17), (.bin .mul (.tmp 15) (.tmp 16)), none⟩,
         ⟨(some 18), (.fieldAddr 1 (.tmp 1)), none⟩,
         ⟨(some 19), (.load false 1 (.tmp 18)), none⟩,
         ⟨(some 20), (.bin .rem (.tmp 17) (.tmp 19)), none⟩,
         ⟨(some 21), (.bin .eql (.tmp 20) (.cst (.d (.int .i64 0)))), none⟩] []) (
      .cond (.tmp 21) (
       .seq (
        .region false [⟨(some 22), (.fieldAddr 0 (.tmp 1)), none⟩,
          ⟨(some 23), (.load false 1 (.tmp 22)), none⟩,
          ⟨(some 24), (.mv (.tmp 3)), none⟩,
          ⟨(some 25), (.bin .mul (.tmp 23) (.tmp 24)), none⟩,
          ⟨(some 26), (.fieldAddr 1 (.tmp 1)), none⟩,
          ⟨(some 27), (.load false 1 (.tmp 26)), none⟩,
          ⟨(some 28), (.bin .quo (.tmp 25) (.tmp 27)), none⟩,
          ⟨(some 29), (.mv (.tmp 3)), none⟩,
          ⟨(some 30), (.build [(.d (.int .i64 0)), (.d (.int .i64 0))] [(0, (1, (.tmp 28))), (1, (1, (.tmp 29)))]), none⟩,
          ⟨none, (.store 2 (.tmp 2) (.tmp 30)), none⟩] []) (
       .ret)) (
       .skip)))) (
    .region false [⟨(some 12), (.mv (.tmp 3)), none⟩,
      ⟨(some 13), (.bin .add (.tmp 12) (.cst (.d (.int .i64 1)))), none⟩,
      ⟨(some 3), (.mv (.tmp 13)), none⟩] [])))))) (
 .seq (
  .region false [⟨(some 31), (.load true 2 (.tmp 1)), none⟩, ⟨none, (.store 2 (.tmp 2) (.tmp 31)), none⟩] []) (
 .ret))))
def R_ref01_Least : List LRes := [(.cell 2 true 2)]
def V_ref01_Least : List Nat := [0, 1, 6, 2, 3, 11, 21]

def L_ref01_Max (n_ref01_Cmp : Nat) : LCode :=
 .seq (
  .region false [⟨(some 2), (.box 0 (.tmp 0)), none⟩,
    ⟨(some 3), (.box 1 (.tmp 1)), none⟩,
    ⟨(some 4), (.alloc 2 2 [(.d (.int .i64 0)), (.d (.int .i64 0))]), none⟩] []) (
 .seq (
  .seq (
   .region false [⟨(some 5), (.load true 2 (.tmp 3)), none⟩,
     ⟨(some 6), (.load true 2 (.tmp 2)), none⟩,
     ⟨(some 7), (.call 0 false (.cst (.d (.fn n_ref01_Cmp))) [(.tmp 5), (.tmp 6)]), none⟩,
     ⟨(some 8), (.bin .eql (.tmp 7) (.cst (.d (.int .i64 1)))), none⟩] []) (
  .cond (.tmp 8) (
   .seq (
    .region false [⟨(some 9), (.load true 2 (.tmp 3)), none⟩, ⟨none, (.store 2 (.tmp 4) (.tmp 9)), none⟩] []) (
   .ret)) (
   .skip))) (
 .seq (
  .region false [⟨(some 10), (.load true 2 (.tmp 2)), none⟩, ⟨none, (.store 2 (.tmp 4) (.tmp 10)), none⟩] []) (
 .ret)))
def R_ref01_Max : List LRes := [(.cell 4 true 2)]
def V_ref01_Max : List Nat := [0, 1, 3, 2, 8, 4]

end Go.Ago

/- Lowered functions of a package, callees by their numbers. Printed by a program of this session. Conditions: none. -/
set_option maxRecDepth 100000
set_option linter.unusedVariables false
namespace Go.Ago
def L_ref20_Same (n_ref08_SameLocs : Nat) (n_ref08_SameNums : Nat) (n_ref20_SameRats : Nat) (n_ref20_SameStamps : Nat) : LCode :=
 .seq (
  .region false [⟨(some 2), (.box 0 (.tmp 0)), none⟩,
    ⟨(some 3), (.box 1 (.tmp 1)), none⟩,
    ⟨(some 4), (.mv (.cst (.d (.bool false)))), none⟩] []) (
 .seq (
  .seq (
   .region false [⟨(some 6), (.fieldAddr 0 (.tmp 2)), none⟩,
     ⟨(some 7), (.load false 1 (.tmp 6)), none⟩,
     ⟨(some 8), (.fieldAddr 0 (.tmp 3)), none⟩,
     ⟨(some 9), (.load false 1 (.tmp 8)), none⟩,
     ⟨(some 10), (.call 0 false (.cst (.d (.fn n_ref08_SameLocs))) [(.tmp 7), (.tmp 9)]), none⟩,
     ⟨(some 11), (.un .not (.tmp 10)), none⟩,
     ⟨(some 12), (.mv (.tmp 11)), none⟩,
     ⟨(some 13), (.fieldAddr 2 (.tmp 2)), (some (12, false))⟩,
     ⟨(some 14), (.load false 1 (.tmp 13)), (some (12, false))⟩,
     ⟨(some 15), (.fieldAddr 2 (.tmp 3)), (some (12, false))⟩,
     ⟨(some 16), (.load false 1 (.tmp 15)), (some (12, false))⟩,
     ⟨(some 17), (.call 0 false (.cst (.d (.fn n_ref08_SameNums))) [(.tmp 14), (.tmp 16)]), (some (12, false))⟩,
     ⟨(some 18), (.un .not (.tmp 17)), (some (12, false))⟩,
     ⟨(some 19), (.pick (.tmp 12) (.cst (.d (.bool true))) (.tmp 18)), none⟩,
     ⟨(some 20), (.mv (.tmp 19)), none⟩,
     ⟨(some 21), (.fieldAddr 3 (.tmp 2)), (some (20, false))⟩,
     ⟨(some 22), (.load false 1 (.tmp 21)), (some (20, false))⟩,
     ⟨(some 23), (.fieldAddr 3 (.tmp 3)), (some (20, false))⟩,
     ⟨(some 24), (.load false 1 (.tmp 23)), (some (20, false))⟩,
     ⟨(some 25), (.call 0 false (.cst (.d (.fn n_ref20_SameRats))) [(.tmp 22), (.tmp 24)]), (some (20, false))⟩,
     ⟨(some 26), (.un .not (.tmp 25)), (some (20, false))⟩,
     ⟨(some 27), (.pick (.tmp 20) (.cst (.d (.bool true))) (.tmp 26)), none⟩,
     ⟨(some 28), (.mv (.tmp 27)), none⟩,
     ⟨(some 29), (.fieldAddr 4 (.tmp 2)), (some (28, false))⟩,
     ⟨(some 30), (.load false 1 (.tmp 29)), (some (28, false))⟩,
     ⟨(some 31), (.fieldAddr 4 (.tmp 3)), (some (28, false))⟩,
     ⟨(some 32), (.load false 1 (.tmp 31)), (some (28, false))⟩,
     ⟨(some 33), (.call 0 false (.cst (.d (.fn n_ref20_SameRats))) [(.tmp 30), (.tmp 32)]), (some (28, false))⟩,
     ⟨(some 34), (.un .not (.tmp 33)), (some (28, false))⟩,
     ⟨(some 35), (.pick (.tmp 28) (.cst (.d (.bool true))) (.tmp 34)), none⟩,
     ⟨(some 36), (.mv (.tmp 35)), none⟩,
     ⟨(some 37), (.fieldAddr 1 (.tmp 2)), (some (36, false))⟩,
     ⟨(some 38), (.load false 1 (.tmp 37)), (some (36, false))⟩,
     ⟨(some 39), (.len (.tmp 38)), (some (36, false))⟩,
     ⟨(some 40), (.fieldAddr 1 (.tmp 3)), (some (36, false))⟩,
     ⟨(some 41), (.load false 1 (.tmp 40)), (some (36, false))⟩,
     ⟨(some 42), (.len (.tmp 41)), (some (36, false))⟩,
     ⟨(some 43), (.bin .neq (.tmp 39) (.tmp 42)), (some (36, false))⟩,
     ⟨(some 44), (.pick (.tmp 36) (.cst (.d (.bool true))) (.tmp 43)), none⟩] []) (
  .cond (.tmp 44) (
   .seq (
    .region false [⟨(some 4), (.mv (.cst (.d (.bool false)))), none⟩] []) (
   .ret)) (
   .skip))) (
 .seq (
  .seq (
   .region false [⟨(some 5), (.mv (.cst (.d (.int .i64 0)))), none⟩] []) (
  .block 0 (
   .loop (
    .seq (
     .seq (
      .region false [⟨(some 45), (.mv (.tmp 5)), none⟩,
        ⟨(some 46), (.fieldAddr 1 (.tmp 2)), none⟩,
        ⟨(some 47), (.load false 1 (.tmp 46)), none⟩,
        ⟨(some 48), (.len (.tmp 47)), none⟩,
        ⟨(some 49), (.bin .lss (.tmp 45) (.tmp 48)), none⟩] []) (
     .cond (.tmp 49) (
      .skip) (
      (.exit 0)))) (
    .seq (
     .block 1 (
      .seq (
       .region true [⟨(some 52), (.fieldAddr 1 (.tmp 2)), none⟩,
         ⟨(some 53), (.load false 1 (.tmp 52)), none⟩,
         ⟨(some 54), (.mv (.tmp 5)), none⟩,
         ⟨(some 55), (.idxAddr 1 (.tmp 53) (.tmp 54)), none⟩,
         ⟨(some 56), (.load false 1 (.tmp 55)), none⟩,
         ⟨(some 57), (.fieldAddr 1 (.tmp 3)), none⟩,
         ⟨(some 58), (.load false 1 (.tmp 57)), none⟩,
         ⟨(some 59), (.mv (.tmp 5)), none⟩,
         ⟨(some 60), (.idxAddr 1 (.tmp 58) (.tmp 59)), none⟩,
         ⟨(some 61), (.load false 1 (.tmp 60)), none⟩,
         ⟨(some 62), (.call 0 false (.cst (.d (.fn n_ref20_SameStamps))) [(.tmp 56), (.tmp 61)]), none⟩,
         ⟨(some 63), (.un .not (.tmp 62)), none⟩] []) (
      .cond (.tmp 63) (
       .seq (
        .region false [⟨(some 4), (.mv (.cst (.d (.bool false)))), none⟩] []) (
       .ret)) (
       .skip)))) (
    .region false [⟨(some 50), (.mv (.tmp 5)), none⟩,
      ⟨(some 51), (.bin .add (.tmp 50) (.cst (.d (.int .i64 1)))), none⟩,
      ⟨(some 5), (.mv (.tmp 51)), none⟩] [])))))) (
 .seq (
  .region false [⟨(some 4), (.mv (.cst (.d (.bool true)))), none⟩] []) (
 .ret))))
def R_ref20_Same : List LRes := [(.tmp 4)]
def V_ref20_Same : List Nat := [0, 1, 2, 3, 44, 5, 49, 63, 4]

def L_ref20_Past_Memory (n_ref20_Past_Front : Nat) (n_ref20_Past_Value : Nat) (n_ref20_Past_Written : Nat) : LCode :=
 .seq (
  .region false [⟨(some 1), (.box 0 (.tmp 0)), none⟩, ⟨(some 2), (.alloc 1 5 [(.d (.list [] true)), (.d (.list [] true)), (.d (.list [] true)), (.d (.list [] true)), (.d (.list [] true))]), none⟩] []) (
 .seq (
  .region false [⟨(some 10), (.fieldAddr 0 (.tmp 1)), none⟩,
    ⟨(some 11), (.load false 1 (.tmp 10)), none⟩,
    ⟨(some 12), (.build [(.d (.list [] true)), (.d (.list [] true)), (.d (.list [] true)), (.d (.list [] true)), (.d (.list [] true))] [(0, (1, (.tmp 11)))]), none⟩,
    ⟨(some 3), (.alloc 0 5 [(.d (.list [] true)), (.d (.list [] true)), (.d (.list [] true)), (.d (.list [] true)), (.d (.list [] true))]), none⟩,
    ⟨none, (.store 5 (.tmp 3) (.tmp 12)), none⟩] []) (
 .seq (
  .seq (
   .region false [⟨(some 4), (.mv (.cst (.d (.int .i64 0)))), none⟩] []) (
  .block 0 (
   .loop (
    .seq (
     .seq (
      .region false [⟨(some 13), (.mv (.tmp 4)), none⟩,
        ⟨(some 14), (.fieldAddr 0 (.tmp 1)), none⟩,
        ⟨(some 15), (.load false 1 (.tmp 14)), none⟩,
        ⟨(some 16), (.len (.tmp 15)), none⟩,
        ⟨(some 17), (.bin .lss (.tmp 13) (.tmp 16)), none⟩] []) (
     .cond (.tmp 17) (
      .skip) (
      (.exit 0)))) (
    .seq (
     .block 1 (
      .seq (
       .region false [⟨(some 20), (.fieldAddr 0 (.tmp 1)), none⟩,
         ⟨(some 21), (.load false 1 (.tmp 20)), none⟩,
         ⟨(some 22), (.mv (.tmp 4)), none⟩,
         ⟨(some 23), (.idxAddr 2 (.tmp 21) (.tmp 22)), none⟩,
         ⟨(some 24), (.fieldAddr 0 (.tmp 23)), none⟩,
         ⟨(some 25), (.load false 1 (.tmp 24)), none⟩] []) (
      .cond (.tmp 25) (
       .seq (
        .region false [⟨(some 5), (.mv (.cst (.d (.list [] true)))), none⟩] []) (
       .seq (
        .seq (
         .region false [⟨(some 6), (.mv (.cst (.d (.int .i64 0)))), none⟩] []) (
        .block 2 (
         .loop (
          .seq (
           .seq (
            .region false [⟨(some 26), (.mv (.tmp 6)), none⟩,
              ⟨(some 27), (.fieldAddr 0 (.tmp 1)), none⟩,
              ⟨(some 28), (.load false 1 (.tmp 27)), none⟩,
              ⟨(some 29), (.len (.tmp 28)), none⟩,
              ⟨(some 30), (.bin .lss (.tmp 26) (.tmp 29)), none⟩] []) (
           .cond (.tmp 30) (
            .skip) (
            (.exit 2)))) (
          .seq (
           .block 3 (
            .region false [⟨(some 33), (.mv (.tmp 5)), none⟩,
              ⟨(some 34), (.load true 3 (.tmp 1)), none⟩,
              ⟨(some 35), (.mv (.tmp 4)), none⟩,
              ⟨(some 36), (.bin .sub (.cst (.d (.int .i64 (-1)))) (.tmp 35)), none⟩,
              ⟨(some 37), (.mv (.tmp 6)), none⟩,
              ⟨(some 38), (.fieldAddr 2 (.tmp 1)), none⟩,
              ⟨(some 39), (.load false 1 (.tmp 38)), none⟩,
              ⟨(some 40), (.len (.tmp 39)), none⟩,
              ⟨(some 41), (.call 0 false (.cst (.d (.fn n_ref20_Past_Front))) [(.tmp 34), (.tmp 36), (.tmp 37), (.tmp 40)]), none⟩,
              ⟨(some 42), (.bslice 0 2 1 [(.d (.int .i64 0)), (.d (.int .i64 0))] [(0, (.tmp 41))]), none⟩,
              ⟨(some 43), (.append 1 2 16 (.tmp 33) (.tmp 42)), none⟩,
              ⟨(some 5), (.mv (.tmp 43)), none⟩] [])) (
          .region false [⟨(some 31), (.mv (.tmp 6)), none⟩,
            ⟨(some 32), (.bin .add (.tmp 31) (.cst (.d (.int .i64 1)))), none⟩,
            ⟨(some 6), (.mv (.tmp 32)), none⟩] [])))))) (
       .region true [⟨(some 44), (.fieldAddr 1 (.tmp 3)), none⟩,
         ⟨(some 45), (.load false 1 (.tmp 44)), none⟩,
         ⟨(some 46), (.bslice 0 1 1 [(.d (.list [] true))] [(0, (.cst (.d (.list [] true))))]), none⟩,
         ⟨(some 47), (.append 1 1 24 (.tmp 45) (.tmp 46)), none⟩,
         ⟨(some 48), (.fieldAddr 2 (.tmp 3)), none⟩,
         ⟨(some 49), (.load false 1 (.tmp 48)), none⟩,
         ⟨(some 50), (.load true 3 (.tmp 1)), none⟩,
         ⟨(some 51), (.mv (.tmp 4)), none⟩,
         ⟨(some 52), (.call 2 false (.cst (.d (.fn n_ref20_Past_Value))) [(.tmp 50), (.tmp 51)]), none⟩,
         ⟨(some 53), (.bslice 2 1 1 [(.d (.int .i64 0))] [(0, (.tmp 52))]), none⟩,
         ⟨(some 54), (.append 3 1 8 (.tmp 49) (.tmp 53)), none⟩,
         ⟨(some 55), (.fieldAddr 3 (.tmp 3)), none⟩,
         ⟨(some 56), (.load false 1 (.tmp 55)), none⟩,
         ⟨(some 57), (.mv (.tmp 5)), none⟩,
         ⟨(some 58), (.bslice 4 1 1 [(.d (.list [] true))] [(0, (.tmp 57))]), none⟩,
         ⟨(some 59), (.append 5 1 24 (.tmp 56) (.tmp 58)), none⟩,
         ⟨(some 60), (.fieldAddr 1 (.tmp 3)), none⟩,
         ⟨none, (.store 1 (.tmp 60) (.tmp 47)), none⟩,
         ⟨(some 61), (.fieldAddr 2 (.tmp 3)), none⟩,
         ⟨none, (.store 1 (.tmp 61) (.tmp 54)), none⟩,
         ⟨(some 62), (.fieldAddr 3 (.tmp 3)), none⟩,
         ⟨none, (.store 1 (.tmp 62) (.tmp 59)), none⟩] [(1, 2), (3, 5), (2, 5), (3, 6), (2, 6), (5, 8), (5, 9), (10, 12), (9, 12), (8, 12), (3, 12), (2, 12), (12, 14), (10, 14), (9, 14), (8, 14), (6, 14), (5, 14), (3, 14), (2, 14), (1, 14)]))) (
       .region true [⟨(some 63), (.fieldAddr 1 (.tmp 3)), none⟩,
         ⟨(some 64), (.load false 1 (.tmp 63)), none⟩,
         ⟨(some 65), (.load true 3 (.tmp 1)), none⟩,
         ⟨(some 66), (.mv (.tmp 4)), none⟩,
         ⟨(some 67), (.call 0 true (.cst (.d (.fn n_ref20_Past_Written))) [(.tmp 65), (.tmp 66)]), none⟩,
         ⟨(some 68), (.bslice 1 1 1 [(.d (.list [] true))] [(0, (.tmp 67))]), none⟩,
         ⟨(some 69), (.append 2 1 24 (.tmp 64) (.tmp 68)), none⟩,
         ⟨(some 70), (.fieldAddr 2 (.tmp 3)), none⟩,
         ⟨(some 71), (.load false 1 (.tmp 70)), none⟩,
         ⟨(some 72), (.bslice 3 1 1 [(.d (.int .i64 0))] [(0, (.cst (.d (.int .i64 0))))]), none⟩,
         ⟨(some 73), (.append 4 1 8 (.tmp 71) (.tmp 72)), none⟩,
         ⟨(some 74), (.fieldAddr 3 (.tmp 3)), none⟩,
         ⟨(some 75), (.load false 1 (.tmp 74)), none⟩,
         ⟨(some 76), (.bslice 5 1 1 [(.d (.list [] true))] [(0, (.cst (.d (.list [] true))))]), none⟩,
         ⟨(some 77), (.append 6 1 24 (.tmp 75) (.tmp 76)), none⟩,
         ⟨(some 78), (.fieldAddr 1 (.tmp 3)), none⟩,
         ⟨none, (.store 1 (.tmp 78) (.tmp 69)), none⟩,
         ⟨(some 79), (.fieldAddr 2 (.tmp 3)), none⟩,
         ⟨none, (.store 1 (.tmp 79) (.tmp 73)), none⟩,
         ⟨(some 80), (.fieldAddr 3 (.tmp 3)), none⟩,
         ⟨none, (.store 1 (.tmp 80) (.tmp 77)), none⟩] [(1, 4), (1, 5), (6, 8), (5, 8), (4, 8), (8, 9), (6, 9), (5, 9), (4, 9), (2, 9), (1, 9), (10, 12), (9, 12), (6, 12), (5, 12), (4, 12), (12, 13), (10, 13), (9, 13), (8, 13), (6, 13), (5, 13), (4, 13), (2, 13), (1, 13)])))) (
    .region false [⟨(some 18), (.mv (.tmp 4)), none⟩,
      ⟨(some 19), (.bin .add (.tmp 18) (.cst (.d (.int .i64 1)))), none⟩,
      ⟨(some 4), (.mv (.tmp 19)), none⟩] [])))))) (
 .seq (
  .seq (
   .region false [⟨(some 7), (.mv (.cst (.d (.int .i64 0)))), none⟩] []) (
  .block 4 (
   .loop (
    .seq (
     .seq (
      .region false [⟨(some 81), (.mv (.tmp 7)), none⟩,
        ⟨(some 82), (.fieldAddr 1 (.tmp 1)), none⟩,
        ⟨(some 83), (.load false 1 (.tmp 82)), none⟩,
        ⟨(some 84), (.bin .lss (.tmp 81) (.tmp 83)), none⟩] []) (
     .cond (.tmp 84) (
      .skip) (
      (.exit 4)))) (
    .seq (
     .block 5 (
      .seq (
       .region false [⟨(some 8), (.mv (.cst (.d (.list [] true)))), none⟩] []) (
      .seq (
       .seq (
        .region false [⟨(some 9), (.mv (.cst (.d (.int .i64 0)))), none⟩] []) (
       .block 6 (
        .loop (
         .seq (
          .seq (
           .region false [⟨(some 87), (.mv (.tmp 9)), none⟩,
             ⟨(some 88), (.fieldAddr 0 (.tmp 1)), none⟩,
             ⟨(some 89), (.load false 1 (.tmp 88)), none⟩,
             ⟨(some 90), (.len (.tmp 89)), none⟩,
             ⟨(some 91), (.bin .lss (.tmp 87) (.tmp 90)), none⟩] []) (
          .cond (.tmp 91) (
           .skip) (
           (.exit 6)))) (
         .seq (
          .block 7 (
           .region false [⟨(some 94), (.mv (.tmp 8)), none⟩,
             ⟨(some 95), (.load true 3 (.tmp 1)), none⟩,
             ⟨(some 96), (.mv (.tmp 7)), none⟩,
             ⟨(some 97), (.mv (.tmp 9)), none⟩,
             ⟨(some 98), (.fieldAddr 2 (.tmp 1)), none⟩,
             ⟨(some 99), (.load false 1 (.tmp 98)), none⟩,
             ⟨(some 100), (.len (.tmp 99)), none⟩,
             ⟨(some 101), (.call 0 false (.cst (.d (.fn n_ref20_Past_Front))) [(.tmp 95), (.tmp 96), (.tmp 97), (.tmp 100)]), none⟩,
             ⟨(some 102), (.bslice 0 2 1 [(.d (.int .i64 0)), (.d (.int .i64 0))] [(0, (.tmp 101))]), none⟩,
             ⟨(some 103), (.append 1 2 16 (.tmp 94) (.tmp 102)), none⟩,
             ⟨(some 8), (.mv (.tmp 103)), none⟩] [])) (
         .region false [⟨(some 92), (.mv (.tmp 9)), none⟩,
           ⟨(some 93), (.bin .add (.tmp 92) (.cst (.d (.int .i64 1)))), none⟩,
           ⟨(some 9), (.mv (.tmp 93)), none⟩] [])))))) (
      .region false [⟨(some 104), (.fieldAddr 4 (.tmp 3)), none⟩,
        ⟨(some 105), (.load false 1 (.tmp 104)), none⟩,
        ⟨(some 106), (.mv (.tmp 8)), none⟩,
        ⟨(some 107), (.bslice 0 1 1 [(.d (.list [] true))] [(0, (.tmp 106))]), none⟩,
        ⟨(some 108), (.append 1 1 24 (.tmp 105) (.tmp 107)), none⟩,
        ⟨(some 109), (.fieldAddr 4 (.tmp 3)), none⟩,
        ⟨none, (.store 1 (.tmp 109) (.tmp 108)), none⟩] [])))) (
    .region false [⟨(some 85), (.mv (.tmp 7)), none⟩,
      ⟨(some 86), (.bin .add (.tmp 85) (.cst (.d (.int .i64 1)))), none⟩,
      ⟨(some 7), (.mv (.tmp 86)), none⟩] [])))))) (
 .seq (
  .region false [⟨(some 110), (.load true 5 (.tmp 3)), none⟩, ⟨none, (.store 5 (.tmp 2) (.tmp 110)), none⟩] []) (
 .ret)))))
def R_ref20_Past_Memory : List LRes := [(.cell 2 true 5)]
def V_ref20_Past_Memory : List Nat := [0, 1, 4, 17, 25, 6, 30, 5, 3, 7, 84, 9, 91, 8, 2]

def L_ref20_Past_Do (n_ref20_Past_Front : Nat) (n_ref20_Past_Value : Nat) (n_ref08_Right : Nat) (n_ref01_Right : Nat) (n_ref20_Past_writes : Nat) (n_ref01_Cmp : Nat) : LCode :=
 .seq (
  .region false [⟨(some 2), (.box 0 (.tmp 0)), none⟩,
    ⟨(some 3), (.box 1 (.tmp 1)), none⟩,
    ⟨(some 4), (.mv (.cst (.d (.int .i64 0)))), none⟩] []) (
 .seq (
  .region false [⟨(some 10), (.fieldAddr 1 (.tmp 3)), none⟩,
    ⟨(some 11), (.load true 4 (.tmp 10)), none⟩,
    ⟨(some 5), (.alloc 0 4 [(.d (.int .i64 0)), (.d (.int .i64 0)), (.d (.int .i64 0)), (.d (.int .i64 0))]), none⟩,
    ⟨none, (.store 4 (.tmp 5) (.tmp 11)), none⟩] []) (
 .seq (
  .region false [⟨(some 12), (.fieldAddr 0 (.tmp 5)), none⟩,
    ⟨(some 13), (.load false 1 (.tmp 12)), none⟩,
    ⟨(some 14), (.bin .eql (.tmp 13) (.cst (.d (.int .i64 1)))), none⟩,
    ⟨(some 15), (.mv (.tmp 14)), none⟩,
    ⟨(some 16), (.fieldAddr 0 (.tmp 5)), (some (15, false))⟩,
    ⟨(some 17), (.load false 1 (.tmp 16)), (some (15, false))⟩,
    ⟨(some 18), (.bin .eql (.tmp 17) (.cst (.d (.int .i64 2)))), (some (15, false))⟩,
    ⟨(some 19), (.pick (.tmp 15) (.cst (.d (.bool true))) (.tmp 18)), none⟩,
    ⟨(some 6), (.mv (.tmp 19)), none⟩] []) (
 .seq (
  .seq (
   .region false [⟨(some 20), (.fieldAddr 0 (.tmp 3)), none⟩,
     ⟨(some 21), (.load false 1 (.tmp 20)), none⟩,
     ⟨(some 22), (.bin .lss (.tmp 21) (.cst (.d (.int .i64 0)))), none⟩,
     ⟨(some 23), (.mv (.tmp 22)), none⟩,
     ⟨(some 24), (.fieldAddr 0 (.tmp 3)), (some (23, false))⟩,
     ⟨(some 25), (.load false 1 (.tmp 24)), (some (23, false))⟩,
     ⟨(some 26), (.fieldAddr 1 (.tmp 2)), (some (23, false))⟩,
     ⟨(some 27), (.load false 1 (.tmp 26)), (some (23, false))⟩,
     ⟨(some 28), (.bin .geq (.tmp 25) (.tmp 27)), (some (23, false))⟩,
     ⟨(some 29), (.pick (.tmp 23) (.cst (.d (.bool true))) (.tmp 28)), none⟩,
     ⟨(some 30), (.mv (.tmp 29)), none⟩,
     ⟨(some 31), (.load true 4 (.tmp 5)), (some (30, false))⟩,
     ⟨(some 32), (.fieldAddr 0 (.tmp 2)), (some (30, false))⟩,
     ⟨(some 33), (.load false 1 (.tmp 32)), (some (30, false))⟩,
     ⟨(some 34), (.call 0 false (.cst (.d (.fn n_ref08_Right))) [(.tmp 31), (.tmp 33)]), (some (30, false))⟩,
     ⟨(some 35), (.un .not (.tmp 34)), (some (30, false))⟩,
     ⟨(some 36), (.pick (.tmp 30) (.cst (.d (.bool true))) (.tmp 35)), none⟩,
     ⟨(some 37), (.mv (.tmp 36)), none⟩,
     ⟨(some 38), (.mv (.tmp 6)), (some (37, false))⟩,
     ⟨(some 39), (.mv (.tmp 38)), (some (37, false))⟩,
     ⟨(some 40), (.fieldAddr 5 (.tmp 3)), (some (39, true))⟩,
     ⟨(some 41), (.load true 2 (.tmp 40)), (some (39, true))⟩,
     ⟨(some 42), (.call 0 false (.cst (.d (.fn n_ref01_Right))) [(.tmp 41)]), (some (39, true))⟩,
     ⟨(some 43), (.un .not (.tmp 42)), (some (39, true))⟩,
     ⟨(some 44), (.pick (.tmp 39) (.tmp 43) (.cst (.d (.bool false)))), (some (37, false))⟩,
     ⟨(some 45), (.pick (.tmp 37) (.cst (.d (.bool true))) (.tmp 44)), none⟩,
     ⟨(some 46), (.mv (.tmp 45)), none⟩,
     ⟨(some 47), (.mv (.tmp 6)), (some (46, false))⟩,
     ⟨(some 48), (.un .not (.tmp 47)), (some (46, false))⟩,
     ⟨(some 49), (.mv (.tmp 48)), (some (46, false))⟩,
     ⟨(some 50), (.fieldAddr 5 (.tmp 3)), (some (49, true))⟩,
     ⟨(some 51), (.load true 2 (.tmp 50)), (some (49, true))⟩,
     ⟨(some 52), (.build [(.d (.int .i64 0)), (.d (.int .i64 0))] []), (some (49, true))⟩,
     ⟨(some 53), (.eq true (.flat [true, true]) (.tmp 51) (.tmp 52)), (some (49, true))⟩,
     ⟨(some 54), (.pick (.tmp 49) (.tmp 53) (.cst (.d (.bool false)))), (some (46, false))⟩,
     ⟨(some 55), (.pick (.tmp 46) (.cst (.d (.bool true))) (.tmp 54)), none⟩] []) (
  .cond (.tmp 55) (
   .seq (
    .region false [⟨(some 4), (.mv (.cst (.d (.int .i64 1)))), none⟩] []) (
   .ret)) (
   .skip))) (
 .seq (
  .seq (
   .region true [⟨(some 56), (.fieldAddr 0 (.tmp 5)), none⟩,
     ⟨(some 57), (.load false 1 (.tmp 56)), none⟩,
     ⟨(some 58), (.bin .eql (.tmp 57) (.cst (.d (.int .i64 3)))), none⟩,
     ⟨(some 59), (.mv (.tmp 58)), none⟩,
     ⟨(some 60), (.fieldAddr 0 (.tmp 5)), (some (59, false))⟩,
     ⟨(some 61), (.load false 1 (.tmp 60)), (some (59, false))⟩,
     ⟨(some 62), (.bin .eql (.tmp 61) (.cst (.d (.int .i64 5)))), (some (59, false))⟩,
     ⟨(some 63), (.pick (.tmp 59) (.cst (.d (.bool true))) (.tmp 62)), none⟩,
     ⟨(some 64), (.mv (.tmp 63)), none⟩,
     ⟨(some 65), (.load true 3 (.tmp 2)), (some (64, true))⟩,
     ⟨(some 66), (.fieldAddr 1 (.tmp 5)), (some (64, true))⟩,
     ⟨(some 67), (.load false 1 (.tmp 66)), (some (64, true))⟩,
     ⟨(some 68), (.call 0 false (.cst (.d (.fn n_ref20_Past_Value))) [(.tmp 65), (.tmp 67)]), (some (64, true))⟩,
     ⟨(some 69), (.fieldAddr 2 (.tmp 5)), (some (64, true))⟩,
     ⟨(some 70), (.load false 1 (.tmp 69)), (some (64, true))⟩,
     ⟨(some 71), (.bin .neq (.tmp 68) (.tmp 70)), (some (64, true))⟩,
     ⟨(some 72), (.pick (.tmp 64) (.tmp 71) (.cst (.d (.bool false)))), none⟩] [(12, 14)]) (
  .cond (.tmp 72) (
   .seq (
    .region false [⟨(some 4), (.mv (.cst (.d (.int .i64 3)))), none⟩] []) (
   .ret)) (
   .skip))) (
 .seq (
  .seq (
   .region false [⟨(some 73), (.mv (.tmp 6)), none⟩, ⟨(some 74), (.un .not (.tmp 73)), none⟩] []) (
  .cond (.tmp 74) (
   .seq (
    .region false [⟨(some 4), (.mv (.cst (.d (.int .i64 0)))), none⟩] []) (
   .ret)) (
   .skip))) (
 .seq (
  .region false [⟨(some 75), (.load true 3 (.tmp 2)), none⟩,
    ⟨(some 76), (.fieldAddr 0 (.tmp 3)), none⟩,
    ⟨(some 77), (.load false 1 (.tmp 76)), none⟩,
    ⟨(some 78), (.fieldAddr 1 (.tmp 5)), none⟩,
    ⟨(some 79), (.load false 1 (.tmp 78)), none⟩,
    ⟨(some 80), (.fieldAddr 2 (.tmp 2)), none⟩,
    ⟨(some 81), (.load false 1 (.tmp 80)), none⟩,
    ⟨(some 82), (.len (.tmp 81)), none⟩,
    ⟨(some 83), (.call 0 false (.cst (.d (.fn n_ref20_Past_Front))) [(.tmp 75), (.tmp 77), (.tmp 79), (.tmp 82)]), none⟩,
    ⟨(some 7), (.alloc 0 2 [(.d (.int .i64 0)), (.d (.int .i64 0))]), none⟩,
    ⟨none, (.store 2 (.tmp 7) (.tmp 83)), none⟩] []) (
 .seq (
  .region false [⟨(some 84), (.load true 3 (.tmp 2)), none⟩,
    ⟨(some 85), (.fieldAddr 1 (.tmp 5)), none⟩,
    ⟨(some 86), (.load false 1 (.tmp 85)), none⟩,
    ⟨(some 87), (.call 0 true (.cst (.d (.fn n_ref20_Past_writes))) [(.tmp 84), (.tmp 86)]), none⟩,
    ⟨(some 8), (.mv (.tmp 87)), none⟩] []) (
 .seq (
  .seq (
   .region false [⟨(some 9), (.mv (.cst (.d (.int .i64 0)))), none⟩] []) (
  .block 0 (
   .loop (
    .seq (
     .seq (
      .region false [⟨(some 88), (.mv (.tmp 9)), none⟩,
        ⟨(some 89), (.mv (.tmp 8)), none⟩,
        ⟨(some 90), (.len (.tmp 89)), none⟩,
        ⟨(some 91), (.bin .lss (.tmp 88) (.tmp 90)), none⟩] []) (
     .cond (.tmp 91) (
      .skip) (
      (.exit 0)))) (
    .seq (
     .block 1 (
      .seq (
       .seq (
        .region true [⟨(some 94), (.mv (.tmp 8)), none⟩,
          ⟨(some 95), (.mv (.tmp 9)), none⟩,
          ⟨(some 96), (.idxAddr 3 (.tmp 94) (.tmp 95)), none⟩,
          ⟨(some 97), (.fieldAddr 0 (.tmp 96)), none⟩,
          ⟨(some 98), (.load true 2 (.tmp 97)), none⟩,
          ⟨(some 99), (.fieldAddr 5 (.tmp 3)), none⟩,
          ⟨(some 100), (.load true 2 (.tmp 99)), none⟩,
          ⟨(some 101), (.call 0 false (.cst (.d (.fn n_ref01_Cmp))) [(.tmp 98), (.tmp 100)]), none⟩,
          ⟨(some 102), (.bin .neq (.tmp 101) (.cst (.d (.int .i64 0)))), none⟩] []) (
       .cond (.tmp 102) (
        (.exit 1)) (
        .skip))) (
      .seq (
       .block 2 (
        .seq (
         .region false [⟨(some 104), (.fieldAddr 0 (.tmp 5)), none⟩,
           ⟨(some 105), (.load false 1 (.tmp 104)), none⟩,
           ⟨(some 106), (.bin .eql (.tmp 105) (.cst (.d (.int .i64 2)))), none⟩,
           ⟨(some 103), (.mv (.tmp 106)), none⟩] []) (
        .cond (.tmp 103) (
         .seq (
          .region false [⟨(some 4), (.mv (.cst (.d (.int .i64 5)))), none⟩] []) (
         .ret)) (
         .seq (
          .region false [⟨(some 108), (.fieldAddr 5 (.tmp 3)), none⟩,
            ⟨(some 109), (.load true 2 (.tmp 108)), none⟩,
            ⟨(some 110), (.load true 2 (.tmp 7)), none⟩,
            ⟨(some 111), (.call 0 false (.cst (.d (.fn n_ref01_Cmp))) [(.tmp 109), (.tmp 110)]), none⟩,
            ⟨(some 112), (.bin .lss (.tmp 111) (.cst (.d (.int .i64 0)))), none⟩,
            ⟨(some 107), (.mv (.tmp 112)), none⟩] []) (
         .cond (.tmp 107) (
          .seq (
           .region false [⟨(some 4), (.mv (.cst (.d (.int .i64 6)))), none⟩] []) (
          .ret)) (
          .seq (
           .region true [⟨(some 114), (.mv (.tmp 8)), none⟩,
             ⟨(some 115), (.mv (.tmp 9)), none⟩,
             ⟨(some 116), (.idxAddr 3 (.tmp 114) (.tmp 115)), none⟩,
             ⟨(some 117), (.fieldAddr 2 (.tmp 116)), none⟩,
             ⟨(some 118), (.load false 1 (.tmp 117)), none⟩,
             ⟨(some 119), (.fieldAddr 2 (.tmp 5)), none⟩,
             ⟨(some 120), (.load false 1 (.tmp 119)), none⟩,
             ⟨(some 121), (.bin .neq (.tmp 118) (.tmp 120)), none⟩,
             ⟨(some 113), (.mv (.tmp 121)), none⟩] []) (
          .cond (.tmp 113) (
           .seq (
            .region false [⟨(some 4), (.mv (.cst (.d (.int .i64 3)))), none⟩] []) (
           .ret)) (
           .skip)))))))) (
      .seq (
       .region false [⟨(some 4), (.mv (.cst (.d (.int .i64 0)))), none⟩] []) (
      .ret))))) (
    .region false [⟨(some 92), (.mv (.tmp 9)), none⟩,
      ⟨(some 93), (.bin .add (.tmp 92) (.cst (.d (.int .i64 1)))), none⟩,
      ⟨(some 9), (.mv (.tmp 93)), none⟩] [])))))) (
 .seq (
  .seq (
   .region false [⟨(some 122), (.fieldAddr 0 (.tmp 5)), none⟩,
     ⟨(some 123), (.load false 1 (.tmp 122)), none⟩,
     ⟨(some 124), (.bin .eql (.tmp 123) (.cst (.d (.int .i64 1)))), none⟩] []) (
  .cond (.tmp 124) (
   .seq (
    .region false [⟨(some 4), (.mv (.cst (.d (.int .i64 4)))), none⟩] []) (
   .ret)) (
   .skip))) (
 .seq (
  .seq (
   .region false [⟨(some 125), (.fieldAddr 5 (.tmp 3)), none⟩,
     ⟨(some 126), (.load true 2 (.tmp 125)), none⟩,
     ⟨(some 127), (.load true 2 (.tmp 7)), none⟩,
     ⟨(some 128), (.call 0 false (.cst (.d (.fn n_ref01_Cmp))) [(.tmp 126), (.tmp 127)]), none⟩,
     ⟨(some 129), (.bin .leq (.tmp 128) (.cst (.d (.int .i64 0)))), none⟩] []) (
  .cond (.tmp 129) (
   .seq (
    .region false [⟨(some 4), (.mv (.cst (.d (.int .i64 6)))), none⟩] []) (
   .ret)) (
   .skip))) (
 .seq (
  .region false [⟨(some 4), (.mv (.cst (.d (.int .i64 0)))), none⟩] []) (
 .ret))))))))))))
def R_ref20_Past_Do : List LRes := [(.tmp 4)]
def V_ref20_Past_Do : List Nat := [0, 1, 3, 5, 2, 6, 55, 72, 74, 9, 8, 91, 102, 103, 7, 107, 113, 124, 129, 4]

def L_ref20_SameRats : LCode :=
 .seq (
  .region false [⟨(some 4), (.mv (.cst (.d (.bool false)))), none⟩] []) (
 .seq (
  .seq (
   .region false [⟨(some 7), (.mv (.tmp 0)), none⟩,
     ⟨(some 8), (.len (.tmp 7)), none⟩,
     ⟨(some 9), (.mv (.tmp 1)), none⟩,
     ⟨(some 10), (.len (.tmp 9)), none⟩,
     ⟨(some 11), (.bin .neq (.tmp 8) (.tmp 10)), none⟩] []) (
  .cond (.tmp 11) (
   .seq (
    .region false [⟨(some 4), (.mv (.cst (.d (.bool false)))), none⟩] []) (
   .ret)) (
   .skip))) (
 .seq (
  .seq (
   .region false [⟨(some 5), (.mv (.cst (.d (.int .i64 0)))), none⟩] []) (
  .block 0 (
   .loop (
    .seq (
     .seq (
      .region false [⟨(some 12), (.mv (.tmp 5)), none⟩,
        ⟨(some 13), (.mv (.tmp 0)), none⟩,
        ⟨(some 14), (.len (.tmp 13)), none⟩,
        ⟨(some 15), (.bin .lss (.tmp 12) (.tmp 14)), none⟩] []) (
     .cond (.tmp 15) (
      .skip) (
      (.exit 0)))) (
    .seq (
     .block 1 (
      .seq (
       .seq (
        .region true [⟨(some 18), (.mv (.tmp 0)), none⟩,
          ⟨(some 19), (.mv (.tmp 5)), none⟩,
          ⟨(some 20), (.idxAddr 1 (.tmp 18) (.tmp 19)), none⟩,
          ⟨(some 21), (.load false 1 (.tmp 20)), none⟩,
          ⟨(some 22), (.len (.tmp 21)), none⟩,
          ⟨(some 23), (.mv (.tmp 1)), none⟩,
          ⟨(some 24), (.mv (.tmp 5)), none⟩,
          ⟨(some 25), (.idxAddr 1 (.tmp 23) (.tmp 24)), none⟩,
          ⟨(some 26), (.load false 1 (.tmp 25)), none⟩,
          ⟨(some 27), (.len (.tmp 26)), none⟩,
          ⟨(some 28), (.bin .neq (.tmp 22) (.tmp 27)), none⟩] []) (
       .cond (.tmp 28) (
        .seq (
         .region false [⟨(some 4), (.mv (.cst (.d (.bool false)))), none⟩] []) (
        .ret)) (
        .skip))) (
      .seq (
       .region false [⟨(some 6), (.mv (.cst (.d (.int .i64 0)))), none⟩] []) (
      .block 2 (
       .loop (
        .seq (
         .seq (
          .region false [⟨(some 29), (.mv (.tmp 6)), none⟩,
            ⟨(some 30), (.mv (.tmp 0)), none⟩,
            ⟨(some 31), (.mv (.tmp 5)), none⟩,
            ⟨(some 32), (.idxAddr 1 (.tmp 30) (.tmp 31)), none⟩,
            ⟨(some 33), (.load false 1 (.tmp 32)), none⟩,
            ⟨(some 34), (.len (.tmp 33)), none⟩,
            ⟨(some 35), (.bin .lss (.tmp 29) (.tmp 34)), none⟩] []) (
         .cond (.tmp 35) (
          .skip) (
          (.exit 2)))) (
        .seq (
         .block 3 (
          .seq (
           .region true [⟨(some 38), (.mv (.tmp 0)), none⟩,
             ⟨(some 39), (.mv (.tmp 5)), none⟩,
             ⟨(some 40), (.idxAddr 1 (.tmp 38) (.tmp 39)), none⟩,
             ⟨(some 41), (.load false 1 (.tmp 40)), none⟩,
             ⟨(some 42), (.mv (.tmp 6)), none⟩,
             ⟨(some 43), (.idxAddr 2 (.tmp 41) (.tmp 42)), none⟩,
             ⟨(some 44), (.load true 2 (.tmp 43)), none⟩,
             ⟨(some 45), (.mv (.tmp 1)), none⟩,
             ⟨(some 46), (.mv (.tmp 5)), none⟩,
             ⟨(some 47), (.idxAddr 1 (.tmp 45) (.tmp 46)), none⟩,
             ⟨(some 48), (.load false 1 (.tmp 47)), none⟩,
             ⟨(some 49), (.mv (.tmp 6)), none⟩,
             ⟨(some 50), (.idxAddr 2 (.tmp 48) (.tmp 49)), none⟩,
             ⟨(some 51), (.load true 2 (.tmp 50)), none⟩,
             ⟨(some 52), (.eq true (.flat [true, true]) (.tmp 44) (.tmp 51)), none⟩] []) (
          .cond (.tmp 52) (
           .seq (
            .region false [⟨(some 4), (.mv (.cst (.d (.bool false)))), none⟩] []) (
           .ret)) (
           .skip)))) (
        .region false [⟨(some 36), (.mv (.tmp 6)), none⟩,
          ⟨(some 37), (.bin .add (.tmp 36) (.cst (.d (.int .i64 1)))), none⟩,
          ⟨(some 6), (.mv (.tmp 37)), none⟩] [])))))))) (
    .region false [⟨(some 16), (.mv (.tmp 5)), none⟩,
      ⟨(some 17), (.bin .add (.tmp 16) (.cst (.d (.int .i64 1)))), none⟩,
      ⟨(some 5), (.mv (.tmp 17)), none⟩] [])))))) (
 .seq (
  .region false [⟨(some 4), (.mv (.cst (.d (.bool true)))), none⟩] []) (
 .ret))))
def R_ref20_SameRats : List LRes := [(.tmp 4)]
def V_ref20_SameRats : List Nat := [0, 1, 11, 5, 15, 28, 6, 35, 52, 4]

def L_ref20_SameStamps : LCode :=
 .seq (
  .region false [⟨(some 4), (.mv (.cst (.d (.bool false)))), none⟩] []) (
 .seq (
  .seq (
   .region false [⟨(some 6), (.mv (.tmp 0)), none⟩,
     ⟨(some 7), (.len (.tmp 6)), none⟩,
     ⟨(some 8), (.mv (.tmp 1)), none⟩,
     ⟨(some 9), (.len (.tmp 8)), none⟩,
     ⟨(some 10), (.bin .neq (.tmp 7) (.tmp 9)), none⟩] []) (
  .cond (.tmp 10) (
   .seq (
    .region false [⟨(some 4), (.mv (.cst (.d (.bool false)))), none⟩] []) (
   .ret)) (
   .skip))) (
 .seq (
  .seq (
   .region false [⟨(some 5), (.mv (.cst (.d (.int .i64 0)))), none⟩] []) (
  .block 0 (
   .loop (
    .seq (
     .seq (
      .region false [⟨(some 11), (.mv (.tmp 5)), none⟩,
        ⟨(some 12), (.mv (.tmp 0)), none⟩,
        ⟨(some 13), (.len (.tmp 12)), none⟩,
        ⟨(some 14), (.bin .lss (.tmp 11) (.tmp 13)), none⟩] []) (
     .cond (.tmp 14) (
      .skip) (
      (.exit 0)))) (
    .seq (
     .block 1 (
      .seq (
       .region true [⟨(some 17), (.mv (.tmp 0)), none⟩,
         ⟨(some 18), (.mv (.tmp 5)), none⟩,
         ⟨(some 19), (.idxAddr 3 (.tmp 17) (.tmp 18)), none⟩,
         ⟨(some 20), (.load true 3 (.tmp 19)), none⟩,
         ⟨(some 21), (.mv (.tmp 1)), none⟩,
         ⟨(some 22), (.mv (.tmp 5)), none⟩,
         ⟨(some 23), (.idxAddr 3 (.tmp 21) (.tmp 22)), none⟩,
         ⟨(some 24), (.load true 3 (.tmp 23)), none⟩,
         ⟨(some 25), (.eq true (.flat [true, true, true]) (.tmp 20) (.tmp 24)), none⟩] []) (
      .cond (.tmp 25) (
       .seq (
        .region false [⟨(some 4), (.mv (.cst (.d (.bool false)))), none⟩] []) (
       .ret)) (
       .skip)))) (
    .region false [⟨(some 15), (.mv (.tmp 5)), none⟩,
      ⟨(some 16), (.bin .add (.tmp 15) (.cst (.d (.int .i64 1)))), none⟩,
      ⟨(some 5), (.mv (.tmp 16)), none⟩] [])))))) (
 .seq (
  .region false [⟨(some 4), (.mv (.cst (.d (.bool true)))), none⟩] []) (
 .ret))))
def R_ref20_SameStamps : List LRes := [(.tmp 4)]
def V_ref20_SameStamps : List Nat := [0, 1, 10, 5, 14, 25, 4]

def L_ref20_Past_Front (n_ref20_Past_Front : Nat) (n_ref20_zero : Nat) (n_ref01_Least : Nat) (n_ref01_Max : Nat) : LCode :=
 .seq (
  .region false [⟨(some 4), (.box 0 (.tmp 0)), none⟩, ⟨(some 8), (.alloc 1 2 [(.d (.int .i64 0)), (.d (.int .i64 0))]), none⟩] []) (
 .seq (
  .seq (
   .region false [⟨(some 12), (.mv (.tmp 3)), none⟩, ⟨(some 13), (.bin .eql (.tmp 12) (.cst (.d (.int .i64 0)))), none⟩] []) (
  .cond (.tmp 13) (
   .seq (
    .region false [⟨(some 14), (.call 0 false (.cst (.d (.fn n_ref20_zero))) []), none⟩, ⟨none, (.store 2 (.tmp 8) (.tmp 14)), none⟩] []) (
   .ret)) (
   .skip))) (
 .seq (
  .region false [⟨(some 15), (.fieldAddr 2 (.tmp 4)), none⟩,
    ⟨(some 16), (.load false 1 (.tmp 15)), none⟩,
    ⟨(some 17), (.mv (.tmp 3)), none⟩,
    ⟨(some 18), (.bin .sub (.tmp 17) (.cst (.d (.int .i64 1)))), none⟩,
    ⟨(some 19), (.idxAddr 7 (.tmp 16) (.tmp 18)), none⟩,
    ⟨(some 20), (.load true 7 (.tmp 19)), none⟩,
    ⟨(some 9), (.alloc 0 7 [(.d (.int .i64 0)), (.d (.int .i64 0)), (.d (.int .i64 0)), (.d (.int .i64 0)), (.d (.int .i64 0)), (.d (.int .i64 0)), (.d (.int .i64 0))]), none⟩,
    ⟨none, (.store 7 (.tmp 9) (.tmp 20)), none⟩] []) (
 .seq (
  .region false [⟨(some 21), (.load true 3 (.tmp 4)), none⟩,
    ⟨(some 22), (.mv (.tmp 1)), none⟩,
    ⟨(some 23), (.mv (.tmp 2)), none⟩,
    ⟨(some 24), (.mv (.tmp 3)), none⟩,
    ⟨(some 25), (.bin .sub (.tmp 24) (.cst (.d (.int .i64 1)))), none⟩,
    ⟨(some 26), (.call 0 false (.cst (.d (.fn n_ref20_Past_Front))) [(.tmp 21), (.tmp 22), (.tmp 23), (.tmp 25)]), none⟩,
    ⟨(some 10), (.alloc 0 2 [(.d (.int .i64 0)), (.d (.int .i64 0))]), none⟩,
    ⟨none, (.store 2 (.tmp 10) (.tmp 26)), none⟩] []) (
 .seq (
  .region false [⟨(some 27), (.fieldAddr 1 (.tmp 9)), none⟩,
    ⟨(some 28), (.load true 4 (.tmp 27)), none⟩,
    ⟨(some 11), (.alloc 0 4 [(.d (.int .i64 0)), (.d (.int .i64 0)), (.d (.int .i64 0)), (.d (.int .i64 0))]), none⟩,
    ⟨none, (.store 4 (.tmp 11) (.tmp 28)), none⟩] []) (
 .seq (
  .block 0 (
   .seq (
    .region false [⟨(some 30), (.fieldAddr 0 (.tmp 11)), none⟩,
      ⟨(some 31), (.load false 1 (.tmp 30)), none⟩,
      ⟨(some 32), (.bin .eql (.tmp 31) (.cst (.d (.int .i64 2)))), none⟩,
      ⟨(some 33), (.mv (.tmp 32)), none⟩,
      ⟨(some 34), (.mv (.tmp 1)), (some (33, true))⟩,
      ⟨(some 35), (.fieldAddr 0 (.tmp 9)), (some (33, true))⟩,
      ⟨(some 36), (.load false 1 (.tmp 35)), (some (33, true))⟩,
      ⟨(some 37), (.bin .eql (.tmp 34) (.tmp 36)), (some (33, true))⟩,
      ⟨(some 38), (.pick (.tmp 33) (.tmp 37) (.cst (.d (.bool false)))), none⟩,
      ⟨(some 39), (.mv (.tmp 38)), none⟩,
      ⟨(some 40), (.fieldAddr 1 (.tmp 11)), (some (39, true))⟩,
      ⟨(some 41), (.load false 1 (.tmp 40)), (some (39, true))⟩,
      ⟨(some 42), (.mv (.tmp 2)), (some (39, true))⟩,
      ⟨(some 43), (.bin .eql (.tmp 41) (.tmp 42)), (some (39, true))⟩,
      ⟨(some 44), (.pick (.tmp 39) (.tmp 43) (.cst (.d (.bool false)))), none⟩,
      ⟨(some 29), (.mv (.tmp 44)), none⟩] []) (
   .cond (.tmp 29) (
    .seq (
     .region false [⟨(some 45), (.fieldAddr 5 (.tmp 9)), none⟩,
       ⟨(some 46), (.load true 2 (.tmp 45)), none⟩,
       ⟨(some 47), (.call 0 false (.cst (.d (.fn n_ref01_Least))) [(.tmp 46)]), none⟩,
       ⟨none, (.store 2 (.tmp 8) (.tmp 47)), none⟩] []) (
    .ret)) (
    .seq (
     .region false [⟨(some 49), (.fieldAddr 0 (.tmp 11)), none⟩,
       ⟨(some 50), (.load false 1 (.tmp 49)), none⟩,
       ⟨(some 51), (.bin .eql (.tmp 50) (.cst (.d (.int .i64 3)))), none⟩,
       ⟨(some 52), (.mv (.tmp 51)), none⟩,
       ⟨(some 53), (.fieldAddr 0 (.tmp 11)), (some (52, false))⟩,
       ⟨(some 54), (.load false 1 (.tmp 53)), (some (52, false))⟩,
       ⟨(some 55), (.bin .eql (.tmp 54) (.cst (.d (.int .i64 4)))), (some (52, false))⟩,
       ⟨(some 56), (.pick (.tmp 52) (.cst (.d (.bool true))) (.tmp 55)), none⟩,
       ⟨(some 57), (.mv (.tmp 56)), none⟩,
       ⟨(some 58), (.fieldAddr 0 (.tmp 11)), (some (57, false))⟩,
       ⟨(some 59), (.load false 1 (.tmp 58)), (some (57, false))⟩,
       ⟨(some 60), (.bin .eql (.tmp 59) (.cst (.d (.int .i64 5)))), (some (57, false))⟩,
       ⟨(some 61), (.pick (.tmp 57) (.cst (.d (.bool true))) (.tmp 60)), none⟩,
       ⟨(some 62), (.mv (.tmp 61)), none⟩,
       ⟨(some 63), (.mv (.tmp 1)), (some (62, true))⟩,
       ⟨(some 64), (.fieldAddr 0 (.tmp 9)), (some (62, true))⟩,
       ⟨(some 65), (.load false 1 (.tmp 64)), (some (62, true))⟩,
       ⟨(some 66), (.bin .eql (.tmp 63) (.tmp 65)), (some (62, true))⟩,
       ⟨(some 67), (.pick (.tmp 62) (.tmp 66) (.cst (.d (.bool false)))), none⟩,
       ⟨(some 48), (.mv (.tmp 67)), none⟩] []) (
    .cond (.tmp 48) (
     .seq (
      .region true [⟨(some 68), (.load true 2 (.tmp 10)), none⟩,
        ⟨(some 69), (.load true 3 (.tmp 4)), none⟩,
        ⟨(some 70), (.fieldAddr 1 (.tmp 11)), none⟩,
        ⟨(some 71), (.load false 1 (.tmp 70)), none⟩,
        ⟨(some 72), (.bin .sub (.cst (.d (.int .i64 (-1)))) (.tmp 71)), none⟩,
        ⟨(some 73), (.mv (.tmp 2)), none⟩,
        ⟨(some 74), (.mv (.tmp 3)), none⟩,
        ⟨(some 75), (.bin .sub (.tmp 74) (.cst (.d (.int .i64 1)))), none⟩,
        ⟨(some 76), (.call 0 false (.cst (.d (.fn n_ref20_Past_Front))) [(.tmp 69), (.tmp 72), (.tmp 73), (.tmp 75)]), none⟩,
        ⟨(some 77), (.call 0 false (.cst (.d (.fn n_ref01_Max))) [(.tmp 68), (.tmp 76)]), none⟩,
        ⟨none, (.store 2 (.tmp 8) (.tmp 77)), none⟩] [(0, 8)]) (
     .ret)) (
     .seq (
      .region false [⟨(some 79), (.fieldAddr 0 (.tmp 11)), none⟩,
        ⟨(some 80), (.load false 1 (.tmp 79)), none⟩,
        ⟨(some 81), (.bin .eql (.tmp 80) (.cst (.d (.int .i64 4)))), none⟩,
        ⟨(some 82), (.mv (.tmp 81)), none⟩,
        ⟨(some 83), (.fieldAddr 0 (.tmp 11)), (some (82, false))⟩,
        ⟨(some 84), (.load false 1 (.tmp 83)), (some (82, false))⟩,
        ⟨(some 85), (.bin .eql (.tmp 84) (.cst (.d (.int .i64 5)))), (some (82, false))⟩,
        ⟨(some 86), (.pick (.tmp 82) (.cst (.d (.bool true))) (.tmp 85)), none⟩,
        ⟨(some 87), (.mv (.tmp 86)), none⟩,
        ⟨(some 88), (.mv (.tmp 1)), (some (87, true))⟩,
        ⟨(some 89), (.fieldAddr 1 (.tmp 11)), (some (87, true))⟩,
        ⟨(some 90), (.load false 1 (.tmp 89)), (some (87, true))⟩,
        ⟨(some 91), (.bin .sub (.cst (.d (.int .i64 (-1)))) (.tmp 90)), (some (87, true))⟩,
        ⟨(some 92), (.bin .eql (.tmp 88) (.tmp 91)), (some (87, true))⟩,
        ⟨(some 93), (.pick (.tmp 87) (.tmp 92) (.cst (.d (.bool false)))), none⟩,
        ⟨(some 78), (.mv (.tmp 93)), none⟩] []) (
     .cond (.tmp 78) (
      .seq (
       .region true [⟨(some 94), (.load true 2 (.tmp 10)), none⟩,
         ⟨(some 95), (.load true 3 (.tmp 4)), none⟩,
         ⟨(some 96), (.fieldAddr 0 (.tmp 9)), none⟩,
         ⟨(some 97), (.load false 1 (.tmp 96)), none⟩,
         ⟨(some 98), (.mv (.tmp 2)), none⟩,
         ⟨(some 99), (.mv (.tmp 3)), none⟩,
         ⟨(some 100), (.bin .sub (.tmp 99) (.cst (.d (.int .i64 1)))), none⟩,
         ⟨(some 101), (.call 0 false (.cst (.d (.fn n_ref20_Past_Front))) [(.tmp 95), (.tmp 97), (.tmp 98), (.tmp 100)]), none⟩,
         ⟨(some 102), (.call 0 false (.cst (.d (.fn n_ref01_Max))) [(.tmp 94), (.tmp 101)]), none⟩,
         ⟨none, (.store 2 (.tmp 8) (.tmp 102)), none⟩] [(0, 7)]) (
      .ret)) (
      .skip)))))))) (
 .seq (
  .region false [⟨(some 103), (.load true 2 (.tmp 10)), none⟩, ⟨none, (.store 2 (.tmp 8) (.tmp 103)), none⟩] []) (
 .ret)))))))
def R_ref20_Past_Front : List LRes := [(.cell 8 true 2)]
def V_ref20_Past_Front : List Nat := [0, 3, 13, 8, 4, 1, 2, 9, 11, 29, 48, 10, 78]

def L_ref20_Past_Value : LCode :=
 .seq (
  .region false [⟨(some 2), (.box 0 (.tmp 0)), none⟩, ⟨(some 4), (.mv (.cst (.d (.int .i64 0)))), none⟩] []) (
 .seq (
  .region false [⟨(some 8), (.fieldAddr 0 (.tmp 2)), none⟩,
    ⟨(some 9), (.load false 1 (.tmp 8)), none⟩,
    ⟨(some 10), (.mv (.tmp 1)), none⟩,
    ⟨(some 11), (.idxAddr 2 (.tmp 9) (.tmp 10)), none⟩,
    ⟨(some 12), (.fieldAddr 1 (.tmp 11)), none⟩,
    ⟨(some 13), (.load false 1 (.tmp 12)), none⟩,
    ⟨(some 5), (.mv (.tmp 13)), none⟩] []) (
 .seq (
  .seq (
   .region false [⟨(some 6), (.mv (.cst (.d (.int .i64 0)))), none⟩] []) (
  .block 0 (
   .loop (
    .seq (
     .seq (
      .region false [⟨(some 14), (.mv (.tmp 6)), none⟩,
        ⟨(some 15), (.fieldAddr 2 (.tmp 2)), none⟩,
        ⟨(some 16), (.load false 1 (.tmp 15)), none⟩,
        ⟨(some 17), (.len (.tmp 16)), none⟩,
        ⟨(some 18), (.bin .lss (.tmp 14) (.tmp 17)), none⟩] []) (
     .cond (.tmp 18) (
      .skip) (
      (.exit 0)))) (
    .seq (
     .block 1 (
      .seq (
       .region false [⟨(some 21), (.fieldAddr 2 (.tmp 2)), none⟩,
         ⟨(some 22), (.load false 1 (.tmp 21)), none⟩,
         ⟨(some 23), (.mv (.tmp 6)), none⟩,
         ⟨(some 24), (.idxAddr 7 (.tmp 22) (.tmp 23)), none⟩,
         ⟨(some 25), (.fieldAddr 1 (.tmp 24)), none⟩,
         ⟨(some 26), (.load true 4 (.tmp 25)), none⟩,
         ⟨(some 7), (.alloc 0 4 [(.d (.int .i64 0)), (.d (.int .i64 0)), (.d (.int .i64 0)), (.d (.int .i64 0))]), none⟩,
         ⟨none, (.store 4 (.tmp 7) (.tmp 26)), none⟩] []) (
      .seq (
       .region false [⟨(some 27), (.fieldAddr 1 (.tmp 7)), none⟩,
         ⟨(some 28), (.load false 1 (.tmp 27)), none⟩,
         ⟨(some 29), (.mv (.tmp 1)), none⟩,
         ⟨(some 30), (.bin .eql (.tmp 28) (.tmp 29)), none⟩,
         ⟨(some 31), (.mv (.tmp 30)), none⟩,
         ⟨(some 32), (.fieldAddr 0 (.tmp 7)), (some (31, true))⟩,
         ⟨(some 33), (.load false 1 (.tmp 32)), (some (31, true))⟩,
         ⟨(some 34), (.bin .eql (.tmp 33) (.cst (.d (.int .i64 4)))), (some (31, true))⟩,
         ⟨(some 35), (.mv (.tmp 34)), (some (31, true))⟩,
         ⟨(some 36), (.fieldAddr 0 (.tmp 7)), (some (35, false))⟩,
         ⟨(some 37), (.load false 1 (.tmp 36)), (some (35, false))⟩,
         ⟨(some 38), (.bin .eql (.tmp 37) (.cst (.d (.int .i64 5)))), (some (35, false))⟩,
         ⟨(some 39), (.pick (.tmp 35) (.cst (.d (.bool true))) (.tmp 38)), (some (31, true))⟩,
         ⟨(some 40), (.pick (.tmp 31) (.tmp 39) (.cst (.d (.bool false)))), none⟩] []) (
      .cond (.tmp 40) (
       .region false [⟨(some 41), (.fieldAddr 3 (.tmp 7)), none⟩,
         ⟨(some 42), (.load false 1 (.tmp 41)), none⟩,
         ⟨(some 5), (.mv (.tmp 42)), none⟩] []) (
       .skip))))) (
    .region false [⟨(some 19), (.mv (.tmp 6)), none⟩,
      ⟨(some 20), (.bin .add (.tmp 19) (.cst (.d (.int .i64 1)))), none⟩,
      ⟨(some 6), (.mv (.tmp 20)), none⟩] [])))))) (
 .seq (
  .region false [⟨(some 43), (.mv (.tmp 5)), none⟩, ⟨(some 4), (.mv (.tmp 43)), none⟩] []) (
 .ret))))
def R_ref20_Past_Value : List LRes := [(.tmp 4)]
def V_ref20_Past_Value : List Nat := [0, 2, 1, 6, 18, 7, 40, 5, 4]

def L_ref20_Past_Written (n_ref20_Past_writes : Nat) (n_ref01_Cmp : Nat) : LCode :=
 .seq (
  .region false [⟨(some 2), (.box 0 (.tmp 0)), none⟩, ⟨(some 4), (.mv (.cst (.d (.list [] true)))), none⟩] []) (
 .seq (
  .region false [⟨(some 8), (.load true 3 (.tmp 2)), none⟩,
    ⟨(some 9), (.mv (.tmp 1)), none⟩,
    ⟨(some 10), (.call 0 true (.cst (.d (.fn n_ref20_Past_writes))) [(.tmp 8), (.tmp 9)]), none⟩,
    ⟨(some 5), (.mv (.tmp 10)), none⟩] []) (
 .seq (
  .seq (
   .region false [⟨(some 6), (.mv (.cst (.d (.int .i64 0)))), none⟩] []) (
  .block 0 (
   .loop (
    .seq (
     .seq (
      .region false [⟨(some 11), (.mv (.tmp 6)), none⟩,
        ⟨(some 12), (.mv (.tmp 5)), none⟩,
        ⟨(some 13), (.len (.tmp 12)), none⟩,
        ⟨(some 14), (.bin .lss (.tmp 11) (.tmp 13)), none⟩] []) (
     .cond (.tmp 14) (
      .skip) (
      (.exit 0)))) (
    .seq (
     .block 1 (
      .seq (
       .region false [⟨(some 17), (.mv (.tmp 6)), none⟩,
         ⟨(some 18), (.bin .add (.tmp 17) (.cst (.d (.int .i64 1)))), none⟩,
         ⟨(some 7), (.mv (.tmp 18)), none⟩] []) (
      .block 2 (
       .loop (
        .seq (
         .seq (
          .region false [⟨(some 19), (.mv (.tmp 7)), none⟩,
            ⟨(some 20), (.mv (.tmp 5)), none⟩,
            ⟨(some 21), (.len (.tmp 20)), none⟩,
            ⟨(some 22), (.bin .lss (.tmp 19) (.tmp 21)), none⟩] []) (
         .cond (.tmp 22) (
          .skip) (
          (.exit 2)))) (
        .seq (
         .block 3 (
          .seq (
           .region true [⟨(some 25), (.mv (.tmp 5)), none⟩,
             ⟨(some 26), (.mv (.tmp 7)), none⟩,
             ⟨(some 27), (.idxAddr 3 (.tmp 25) (.tmp 26)), none⟩,
             ⟨(some 28), (.fieldAddr 0 (.tmp 27)), none⟩,
             ⟨(some 29), (.load true 2 (.tmp 28)), none⟩,
             ⟨(some 30), (.mv (.tmp 5)), none⟩,
             ⟨(some 31), (.mv (.tmp 6)), none⟩,
             ⟨(some 32), (.idxAddr 3 (.tmp 30) (.tmp 31)), none⟩,
             ⟨(some 33), (.fieldAddr 0 (.tmp 32)), none⟩,
             ⟨(some 34), (.load true 2 (.tmp 33)), none⟩,
             ⟨(some 35), (.call 0 false (.cst (.d (.fn n_ref01_Cmp))) [(.tmp 29), (.tmp 34)]), none⟩,
             ⟨(some 36), (.bin .lss (.tmp 35) (.cst (.d (.int .i64 0)))), none⟩] []) (
          .cond (.tmp 36) (
           .region true [⟨(some 37), (.mv (.tmp 5)), none⟩,
             ⟨(some 38), (.mv (.tmp 6)), none⟩,
             ⟨(some 39), (.mv (.tmp 5)), none⟩,
             ⟨(some 40), (.mv (.tmp 7)), none⟩,
             ⟨(some 41), (.mv (.tmp 5)), none⟩,
             ⟨(some 42), (.mv (.tmp 7)), none⟩,
             ⟨(some 43), (.idxAddr 3 (.tmp 41) (.tmp 42)), none⟩,
             ⟨(some 44), (.load true 3 (.tmp 43)), none⟩,
             ⟨(some 45), (.mv (.tmp 5)), none⟩,
             ⟨(some 46), (.mv (.tmp 6)), none⟩,
             ⟨(some 47), (.idxAddr 3 (.tmp 45) (.tmp 46)), none⟩,
             ⟨(some 48), (.load true 3 (.tmp 47)), none⟩,
             ⟨(some 49), (.idxAddr 3 (.tmp 37) (.tmp 38)), none⟩,
             ⟨none, (.store 3 (.tmp 49) (.tmp 44)), none⟩,
             ⟨(some 50), (.idxAddr 3 (.tmp 39) (.tmp 40)), none⟩,
             ⟨none, (.store 3 (.tmp 50) (.tmp 48)), none⟩] []) (
           .skip)))) (
        .region false [⟨(some 23), (.mv (.tmp 7)), none⟩,
          ⟨(some 24), (.bin .add (.tmp 23) (.cst (.d (.int .i64 1)))), none⟩,
          ⟨(some 7), (.mv (.tmp 24)), none⟩] []))))))) (
    .region false [⟨(some 15), (.mv (.tmp 6)), none⟩,
      ⟨(some 16), (.bin .add (.tmp 15) (.cst (.d (.int .i64 1)))), none⟩,
      ⟨(some 6), (.mv (.tmp 16)), none⟩] [])))))) (
 .seq (
  .region false [⟨(some 51), (.mv (.tmp 5)), none⟩, ⟨(some 4), (.mv (.tmp 51)), none⟩] []) (
 .ret))))
def R_ref20_Past_Written : List LRes := [(.tmp 4)]
def V_ref20_Past_Written : List Nat := [0, 2, 1, 6, 5, 14, 7, 22, 36, 4]

def L_ref20_Past_writes (n_ref20_zero : Nat) (n_ref01_Least : Nat) : LCode :=
 .seq (
  .region false [⟨(some 2), (.box 0 (.tmp 0)), none⟩, ⟨(some 4), (.mv (.cst (.d (.list [] true)))), none⟩] []) (
 .seq (
  .region true [⟨(some 8), (.call 0 false (.cst (.d (.fn n_ref20_zero))) []), none⟩,
    ⟨(some 9), (.fieldAddr 0 (.tmp 2)), none⟩,
    ⟨(some 10), (.load false 1 (.tmp 9)), none⟩,
    ⟨(some 11), (.mv (.tmp 1)), none⟩,
    ⟨(some 12), (.idxAddr 2 (.tmp 10) (.tmp 11)), none⟩,
    ⟨(some 13), (.fieldAddr 1 (.tmp 12)), none⟩,
    ⟨(some 14), (.load false 1 (.tmp 13)), none⟩,
    ⟨(some 15), (.build [(.d (.int .i64 0)), (.d (.int .i64 0)), (.d (.int .i64 0))] [(0, (2, (.tmp 8))), (2, (1, (.tmp 14)))]), none⟩,
    ⟨(some 16), (.bslice 0 3 1 [(.d (.int .i64 0)), (.d (.int .i64 0)), (.d (.int .i64 0))] [(0, (.tmp 15))]), none⟩,
    ⟨(some 5), (.mv (.tmp 16)), none⟩] [(0, 2), (0, 6)]) (
 .seq (
  .seq (
   .region false [⟨(some 6), (.mv (.cst (.d (.int .i64 0)))), none⟩] []) (
  .block 0 (
   .loop (
    .seq (
     .seq (
      .region false [⟨(some 17), (.mv (.tmp 6)), none⟩,
        ⟨(some 18), (.fieldAddr 2 (.tmp 2)), none⟩,
        ⟨(some 19), (.load false 1 (.tmp 18)), none⟩,
        ⟨(some 20), (.len (.tmp 19)), none⟩,
        ⟨(some 21), (.bin .lss (.tmp 17) (.tmp 20)), none⟩] []) (
     .cond (.tmp 21) (
      .skip) (
      (.exit 0)))) (
    .seq (
     .block 1 (
      .seq (
       .region false [⟨(some 24), (.fieldAddr 2 (.tmp 2)), none⟩,
         ⟨(some 25), (.load false 1 (.tmp 24)), none⟩,
         ⟨(some 26), (.mv (.tmp 6)), none⟩,
         ⟨(some 27), (.idxAddr 7 (.tmp 25) (.tmp 26)), none⟩,
         ⟨(some 28), (.fieldAddr 1 (.tmp 27)), none⟩,
         ⟨(some 29), (.load true 4 (.tmp 28)), none⟩,
         ⟨(some 7), (.alloc 0 4 [(.d (.int .i64 0)), (.d (.int .i64 0)), (.d (.int .i64 0)), (.d (.int .i64 0))]), none⟩,
         ⟨none, (.store 4 (.tmp 7) (.tmp 29)), none⟩] []) (
      .seq (
       .region false [⟨(some 30), (.fieldAddr 0 (.tmp 7)), none⟩,
         ⟨(some 31), (.load false 1 (.tmp 30)), none⟩,
         ⟨(some 32), (.bin .eql (.tmp 31) (.cst (.d (.int .i64 2)))), none⟩,
         ⟨(some 33), (.mv (.tmp 32)), none⟩,
         ⟨(some 34), (.fieldAddr 1 (.tmp 7)), (some (33, true))⟩,
         ⟨(some 35), (.load false 1 (.tmp 34)), (some (33, true))⟩,
         ⟨(some 36), (.mv (.tmp 1)), (some (33, true))⟩,
         ⟨(some 37), (.bin .eql (.tmp 35) (.tmp 36)), (some (33, true))⟩,
         ⟨(some 38), (.pick (.tmp 33) (.tmp 37) (.cst (.d (.bool false)))), none⟩] []) (
      .cond (.tmp 38) (
       .region true [⟨(some 39), (.mv (.tmp 5)), none⟩,
         ⟨(some 40), (.fieldAddr 2 (.tmp 2)), none⟩,
         ⟨(some 41), (.load false 1 (.tmp 40)), none⟩,
         ⟨(some 42), (.mv (.tmp 6)), none⟩,
         ⟨(some 43), (.idxAddr 7 (.tmp 41) (.tmp 42)), none⟩,
         ⟨(some 44), (.fieldAddr 5 (.tmp 43)), none⟩,
         ⟨(some 45), (.load true 2 (.tmp 44)), none⟩,
         ⟨(some 46), (.call 0 false (.cst (.d (.fn n_ref01_Least))) [(.tmp 45)]), none⟩,
         ⟨(some 47), (.fieldAddr 3 (.tmp 7)), none⟩,
         ⟨(some 48), (.load false 1 (.tmp 47)), none⟩,
         ⟨(some 49), (.build [(.d (.int .i64 0)), (.d (.int .i64 0)), (.d (.int .i64 0))] [(0, (2, (.tmp 46))), (2, (1, (.tmp 48)))]), none⟩,
         ⟨(some 50), (.bslice 0 3 1 [(.d (.int .i64 0)), (.d (.int .i64 0)), (.d (.int .i64 0))] [(0, (.tmp 49))]), none⟩,
         ⟨(some 51), (.append 1 3 24 (.tmp 39) (.tmp 50)), none⟩,
         ⟨(some 5), (.mv (.tmp 51)), none⟩] [(7, 9)]) (
       .skip))))) (
    .region false [⟨(some 22), (.mv (.tmp 6)), none⟩,
      ⟨(some 23), (.bin .add (.tmp 22) (.cst (.d (.int .i64 1)))), none⟩,
      ⟨(some 6), (.mv (.tmp 23)), none⟩] [])))))) (
 .seq (
  .region false [⟨(some 52), (.mv (.tmp 5)), none⟩, ⟨(some 4), (.mv (.tmp 52)), none⟩] []) (
 .ret))))
def R_ref20_Past_writes : List LRes := [(.tmp 4)]
def V_ref20_Past_writes : List Nat := [0, 2, 1, 6, 21, 7, 38, 5, 4]

def L_ref20_zero : LCode :=
 .seq (
  .region false [⟨(some 0), (.alloc 0 2 [(.d (.int .i64 0)), (.d (.int .i64 0))]), none⟩] []) (
 .seq (
  .region false [⟨(some 1), (.build [(.d (.int .i64 0)), (.d (.int .i64 0))] [(1, (1, (.cst (.d (.int .i64 1)))))]), none⟩, ⟨none, (.store 2 (.tmp 0) (.tmp 1)), none⟩] []) (
 .ret))
def R_ref20_zero : List LRes := [(.cell 0 true 2)]
def V_ref20_zero : List Nat := [0]

end Go.Ago

/- Lowered functions of a package, callees by their numbers. Printed by a program of this session. Conditions: none. -/
set_option maxRecDepth 100000
set_option linter.unusedVariables false
namespace Go.Ago
end Go.Ago

/- Lowered functions of a package, callees by their numbers. Printed by a program of this session. Conditions: none. -/
set_option maxRecDepth 100000
set_option linter.unusedVariables false
namespace Go.Ago
def L_law20_HistSteps (n_law20_awake : Nat) (n_hist_New : Nat) (n_ref20_Same : Nat) (n_ref20_Past_Memory : Nat) (n_hist_Do : Nat) (n_ref20_Past_Do : Nat) : LCode :=
 .seq (
  .region false [⟨(some 6), (.mv (.cst (.d (.bool false)))), none⟩] []) (
 .seq (
  .seq (
   .region false [⟨(some 13), (.call 0 false (.cst (.d (.fn n_law20_awake))) []), none⟩, ⟨(some 14), (.un .not (.tmp 13)), none⟩] []) (
  .cond (.tmp 14) (
   .seq (
    .region false [⟨(some 6), (.mv (.cst (.d (.bool false)))), none⟩] []) (
   .ret)) (
   .skip))) (
 .seq (
  .seq (
   .region false [⟨(some 15), (.mv (.tmp 0)), none⟩,
     ⟨(some 16), (.len (.tmp 15)), none⟩,
     ⟨(some 17), (.bin .gtr (.tmp 16) (.cst (.d (.int .i64 10)))), none⟩] []) (
  .cond (.tmp 17) (
   .seq (
    .region false [⟨(some 6), (.mv (.cst (.d (.bool true)))), none⟩] []) (
   .ret)) (
   .skip))) (
 .seq (
  .region false [⟨(some 19), (.mv (.tmp 0)), none⟩,
    ⟨(some 20), (.mv (.tmp 1)), none⟩,
    ⟨(some 21), (.call 0 false (.cst (.d (.fn n_hist_New))) [(.tmp 19), (.tmp 20)]), none⟩,
    ⟨(some 18), (.mv (.tmp 21)), none⟩,
    ⟨(some 22), (.extract 0 (.tmp 18)), none⟩,
    ⟨(some 23), (.extract 1 (.tmp 18)), none⟩,
    ⟨(some 7), (.alloc 0 5 [(.d (.list [] true)), (.d (.list [] true)), (.d (.list [] true)), (.d (.list [] true)), (.d (.list [] true))]), none⟩,
    ⟨none, (.store 5 (.tmp 7) (.tmp 22)), none⟩,
    ⟨(some 8), (.mv (.tmp 23)), none⟩] []) (
 .seq (
  .seq (
   .region false [⟨(some 24), (.mv (.tmp 1)), none⟩,
     ⟨(some 25), (.bin .lss (.tmp 24) (.cst (.d (.int .i64 1)))), none⟩,
     ⟨(some 26), (.mv (.tmp 25)), none⟩,
     ⟨(some 27), (.mv (.tmp 1)), (some (26, false))⟩,
     ⟨(some 28), (.bin .gtr (.tmp 27) (.cst (.d (.int .i64 3)))), (some (26, false))⟩,
     ⟨(some 29), (.pick (.tmp 26) (.cst (.d (.bool true))) (.tmp 28)), none⟩] []) (
  .cond (.tmp 29) (
   .seq (
    .region false [⟨(some 30), (.mv (.tmp 8)), none⟩,
      ⟨(some 31), (.bin .eql (.tmp 30) (.cst (.d (.int .i64 1)))), none⟩,
      ⟨(some 32), (.mv (.tmp 31)), none⟩,
      ⟨(some 33), (.load true 5 (.tmp 7)), (some (32, true))⟩,
      ⟨(some 34), (.build [(.d (.list [] true)), (.d (.list [] true)), (.d (.list [] true)), (.d (.list [] true)), (.d (.list [] true))] []), (some (32, true))⟩,
      ⟨(some 35), (.call 0 false (.cst (.d (.fn n_ref20_Same))) [(.tmp 33), (.tmp 34)]), (some (32, true))⟩,
      ⟨(some 36), (.pick (.tmp 32) (.tmp 35) (.cst (.d (.bool false)))), none⟩,
      ⟨(some 6), (.mv (.tmp 36)), none⟩] []) (
   .ret)) (
   .skip))) (
 .seq (
  .region false [⟨(some 37), (.mv (.tmp 0)), none⟩,
    ⟨(some 38), (.mv (.tmp 1)), none⟩,
    ⟨(some 39), (.build [(.d (.list [] true)), (.d (.int .i64 0)), (.d (.list [] true))] [(0, (1, (.tmp 37))), (1, (1, (.tmp 38)))]), none⟩,
    ⟨(some 9), (.alloc 0 3 [(.d (.list [] true)), (.d (.int .i64 0)), (.d (.list [] true))]), none⟩,
    ⟨none, (.store 3 (.tmp 9) (.tmp 39)), none⟩] []) (
 .seq (
  .seq (
   .region true [⟨(some 40), (.mv (.tmp 8)), none⟩,
     ⟨(some 41), (.bin .neq (.tmp 40) (.cst (.d (.int .i64 0)))), none⟩,
     ⟨(some 42), (.mv (.tmp 41)), none⟩,
     ⟨(some 43), (.load true 5 (.tmp 7)), (some (42, false))⟩,
     ⟨(some 44), (.load true 3 (.tmp 9)), (some (42, false))⟩,
     ⟨(some 45), (.call 0 false (.cst (.d (.fn n_ref20_Past_Memory))) [(.tmp 44)]), (some (42, false))⟩,
     ⟨(some 46), (.call 0 false (.cst (.d (.fn n_ref20_Same))) [(.tmp 43), (.tmp 45)]), (some (42, false))⟩,
     ⟨(some 47), (.un .not (.tmp 46)), (some (42, false))⟩,
     ⟨(some 48), (.pick (.tmp 42) (.cst (.d (.bool true))) (.tmp 47)), none⟩] [(3, 5)]) (
  .cond (.tmp 48) (
   .seq (
    .region false [⟨(some 6), (.mv (.cst (.d (.bool false)))), none⟩] []) (
   .ret)) (
   .skip))) (
 .seq (
  .seq (
   .region false [⟨(some 10), (.mv (.cst (.d (.int .i64 0)))), none⟩] []) (
  .block 0 (
   .loop (
    .seq (
     .seq (
      .region false [⟨(some 49), (.mv (.tmp 10)), none⟩,
        ⟨(some 50), (.mv (.tmp 2)), none⟩,
        ⟨(some 51), (.len (.tmp 50)), none⟩,
        ⟨(some 52), (.bin .lss (.tmp 49) (.tmp 51)), none⟩,
        ⟨(some 53), (.mv (.tmp 52)), none⟩,
        ⟨(some 54), (.mv (.tmp 10)), (some (53, true))⟩,
        ⟨(some 55), (.bin .lss (.tmp 54) (.cst (.d (.int .i64 12)))), (some (53, true))⟩,
        ⟨(some 56), (.pick (.tmp 53) (.tmp 55) (.cst (.d (.bool false)))), none⟩] []) (
     .cond (.tmp 56) (
      .skip) (
      (.exit 0)))) (
    .seq (
     .block 1 (
      .seq (
       .region true [⟨(some 60), (.load true 5 (.tmp 7)), none⟩,
         ⟨(some 61), (.mv (.tmp 2)), none⟩,
         ⟨(some 62), (.mv (.tmp 10)), none⟩,
         ⟨(some 63), (.idxAddr 7 (.tmp 61) (.tmp 62)), none⟩,
         ⟨(some 64), (.load true 7 (.tmp 63)), none⟩,
         ⟨(some 65), (.call 0 false (.cst (.d (.fn n_hist_Do))) [(.tmp 60), (.tmp 64)]), none⟩,
         ⟨(some 59), (.mv (.tmp 65)), none⟩,
         ⟨(some 66), (.extract 0 (.tmp 59)), none⟩,
         ⟨(some 67), (.extract 1 (.tmp 59)), none⟩,
         ⟨(some 11), (.alloc 0 5 [(.d (.list [] true)), (.d (.list [] true)), (.d (.list [] true)), (.d (.list [] true)), (.d (.list [] true))]), none⟩,
         ⟨none, (.store 5 (.tmp 11) (.tmp 66)), none⟩,
         ⟨(some 12), (.mv (.tmp 67)), none⟩] [(5, 9), (4, 9), (0, 9)]) (
      .seq (
       .seq (
        .region true [⟨(some 68), (.mv (.tmp 12)), none⟩,
          ⟨(some 69), (.load true 3 (.tmp 9)), none⟩,
          ⟨(some 70), (.mv (.tmp 2)), none⟩,
          ⟨(some 71), (.mv (.tmp 10)), none⟩,
          ⟨(some 72), (.idxAddr 7 (.tmp 70) (.tmp 71)), none⟩,
          ⟨(some 73), (.load true 7 (.tmp 72)), none⟩,
          ⟨(some 74), (.call 0 false (.cst (.d (.fn n_ref20_Past_Do))) [(.tmp 69), (.tmp 73)]), none⟩,
          ⟨(some 75), (.bin .neq (.tmp 68) (.tmp 74)), none⟩,
          ⟨(some 76), (.mv (.tmp 75)), none⟩,
          ⟨(some 77), (.load true 5 (.tmp 7)), (some (76, false))⟩,
          ⟨(some 78), (.load true 3 (.tmp 9)), (some (76, false))⟩,
          ⟨(some 79), (.call 0 false (.cst (.d (.fn n_ref20_Past_Memory))) [(.tmp 78)]), (some (76, false))⟩,
          ⟨(some 80), (.call 0 false (.cst (.d (.fn n_ref20_Same))) [(.tmp 77), (.tmp 79)]), (some (76, false))⟩,
          ⟨(some 81), (.un .not (.tmp 80)), (some (76, false))⟩,
          ⟨(some 82), (.pick (.tmp 76) (.cst (.d (.bool true))) (.tmp 81)), none⟩] [(9, 11)]) (
       .cond (.tmp 82) (
        .seq (
         .region false [⟨(some 6), (.mv (.cst (.d (.bool false)))), none⟩] []) (
        .ret)) (
        .skip))) (
      .seq (
       .seq (
        .region false [⟨(some 83), (.mv (.tmp 12)), none⟩, ⟨(some 84), (.bin .neq (.tmp 83) (.cst (.d (.int .i64 0)))), none⟩] []) (
       .cond (.tmp 84) (
        .seq (
         .seq (
          .region false [⟨(some 85), (.load true 5 (.tmp 11)), none⟩,
            ⟨(some 86), (.build [(.d (.list [] true)), (.d (.list [] true)), (.d (.list [] true)), (.d (.list [] true)), (.d (.list [] true))] []), none⟩,
            ⟨(some 87), (.call 0 false (.cst (.d (.fn n_ref20_Same))) [(.tmp 85), (.tmp 86)]), none⟩,
            ⟨(some 88), (.un .not (.tmp 87)), none⟩] []) (
         .cond (.tmp 88) (
          .seq (
           .region false [⟨(some 6), (.mv (.cst (.d (.bool false)))), none⟩] []) (
          .ret)) (
          .skip))) (
        (.exit 1))) (
        .skip))) (
      .seq (
       .region true [⟨(some 89), (.fieldAddr 2 (.tmp 9)), none⟩,
         ⟨(some 90), (.load false 1 (.tmp 89)), none⟩,
         ⟨(some 91), (.mv (.tmp 2)), none⟩,
         ⟨(some 92), (.mv (.tmp 10)), none⟩,
         ⟨(some 93), (.idxAddr 7 (.tmp 91) (.tmp 92)), none⟩,
         ⟨(some 94), (.load true 7 (.tmp 93)), none⟩,
         ⟨(some 95), (.bslice 0 7 1 [(.d (.int .i64 0)), (.d (.int .i64 0)), (.d (.int .i64 0)), (.d (.int .i64 0)), (.d (.int .i64 0)), (.d (.int .i64 0)), (.d (.int .i64 0))] [(0, (.tmp 94))]), none⟩,
         ⟨(some 96), (.append 1 7 56 (.tmp 90) (.tmp 95)), none⟩,
         ⟨(some 97), (.fieldAddr 2 (.tmp 9)), none⟩,
         ⟨none, (.store 1 (.tmp 97) (.tmp 96)), none⟩] [(1, 6)]) (
      .region false [⟨(some 98), (.load true 5 (.tmp 11)), none⟩, ⟨none, (.store 5 (.tmp 7) (.tmp 98)), none⟩] [])))))) (
    .region false [⟨(some 57), (.mv (.tmp 10)), none⟩,
      ⟨(some 58), (.bin .add (.tmp 57) (.cst (.d (.int .i64 1)))), none⟩,
      ⟨(some 10), (.mv (.tmp 58)), none⟩] [])))))) (
 .seq (
  .region true [⟨(some 99), (.load true 5 (.tmp 7)), none⟩,
    ⟨(some 100), (.load true 3 (.tmp 9)), none⟩,
    ⟨(some 101), (.call 0 false (.cst (.d (.fn n_ref20_Past_Memory))) [(.tmp 100)]), none⟩,
    ⟨(some 102), (.call 0 false (.cst (.d (.fn n_ref20_Same))) [(.tmp 99), (.tmp 101)]), none⟩,
    ⟨(some 6), (.mv (.tmp 102)), none⟩] [(0, 2)]) (
 .ret)))))))))
def R_law20_HistSteps : List LRes := [(.tmp 6)]
def V_law20_HistSteps : List Nat := [14, 0, 17, 1, 29, 8, 7, 9, 48, 10, 2, 56, 12, 82, 84, 11, 88, 6]

def L_law20_awake (n_hist_New : Nat) (n_hist_Do : Nat) (n_hist_Sees : Nat) : LCode :=
 .seq (
  .region false [⟨(some 0), (.mv (.cst (.d (.bool false)))), none⟩] []) (
 .seq (
  .region false [⟨(some 4), (.mkslice 0 2 16 [(.d (.bool false)), (.d (.int .i64 0))] (.cst (.d (.int .i64 1))) (.cst (.d (.int .i64 1)))), none⟩,
    ⟨(some 5), (.call 1 false (.cst (.d (.fn n_hist_New))) [(.tmp 4), (.cst (.d (.int .i64 2)))]), none⟩,
    ⟨(some 3), (.mv (.tmp 5)), none⟩,
    ⟨(some 6), (.extract 0 (.tmp 3)), none⟩,
    ⟨(some 7), (.extract 1 (.tmp 3)), none⟩,
    ⟨(some 1), (.alloc 1 5 [(.d (.list [] true)), (.d (.list [] true)), (.d (.list [] true)), (.d (.list [] true)), (.d (.list [] true))]), none⟩,
    ⟨none, (.store 5 (.tmp 1) (.tmp 6)), none⟩,
    ⟨(some 2), (.mv (.tmp 7)), none⟩] []) (
 .seq (
  .seq (
   .region false [⟨(some 8), (.mv (.tmp 2)), none⟩, ⟨(some 9), (.bin .neq (.tmp 8) (.cst (.d (.int .i64 0)))), none⟩] []) (
  .cond (.tmp 9) (
   .seq (
    .region false [⟨(some 0), (.mv (.cst (.d (.bool false)))), none⟩] []) (
   .ret)) (
   .skip))) (
 .seq (
  .region false [⟨(some 11), (.load true 5 (.tmp 1)), none⟩,
    ⟨(some 12), (.build [(.d (.int .i64 0)), (.d (.int .i64 0)), (.d (.int .i64 0)), (.d (.int .i64 0))] [(0, (1, (.cst (.d (.int .i64 2))))), (3, (1, (.cst (.d (.int .i64 1)))))]), none⟩,
    ⟨(some 13), (.build [(.d (.int .i64 0)), (.d (.int .i64 0))] [(0, (1, (.cst (.d (.int .i64 1))))), (1, (1, (.cst (.d (.int .i64 1)))))]), none⟩,
    ⟨(some 14), (.build [(.d (.int .i64 0)), (.d (.int .i64 0)), (.d (.int .i64 0)), (.d (.int .i64 0)), (.d (.int .i64 0)), (.d (.int .i64 0)), (.d (.int .i64 0))] [(1, (4, (.tmp 12))), (5, (2, (.tmp 13)))]), none⟩,
    ⟨(some 15), (.call 0 false (.cst (.d (.fn n_hist_Do))) [(.tmp 11), (.tmp 14)]), none⟩,
    ⟨(some 10), (.mv (.tmp 15)), none⟩,
    ⟨(some 16), (.extract 0 (.tmp 10)), none⟩,
    ⟨(some 17), (.extract 1 (.tmp 10)), none⟩,
    ⟨none, (.store 5 (.tmp 1) (.tmp 16)), none⟩,
    ⟨(some 2), (.mv (.tmp 17)), none⟩] []) (
 .seq (
  .region false [⟨(some 18), (.mv (.tmp 2)), none⟩,
    ⟨(some 19), (.bin .eql (.tmp 18) (.cst (.d (.int .i64 0)))), none⟩,
    ⟨(some 20), (.mv (.tmp 19)), none⟩,
    ⟨(some 21), (.load true 5 (.tmp 1)), (some (20, true))⟩,
    ⟨(some 22), (.call 0 true (.cst (.d (.fn n_hist_Sees))) [(.tmp 21), (.cst (.d (.int .i64 0))), (.cst (.d (.int .i64 0)))]), (some (20, true))⟩,
    ⟨(some 23), (.len (.tmp 22)), (some (20, true))⟩,
    ⟨(some 24), (.bin .eql (.tmp 23) (.cst (.d (.int .i64 1)))), (some (20, true))⟩,
    ⟨(some 25), (.pick (.tmp 20) (.tmp 24) (.cst (.d (.bool false)))), none⟩,
    ⟨(some 26), (.mv (.tmp 25)), none⟩,
    ⟨(some 27), (.load true 5 (.tmp 1)), (some (26, true))⟩,
    ⟨(some 28), (.call 1 true (.cst (.d (.fn n_hist_Sees))) [(.tmp 27), (.cst (.d (.int .i64 1))), (.cst (.d (.int .i64 0)))]), (some (26, true))⟩,
    ⟨(some 29), (.len (.tmp 28)), (some (26, true))⟩,
    ⟨(some 30), (.bin .eql (.tmp 29) (.cst (.d (.int .i64 2)))), (some (26, true))⟩,
    ⟨(some 31), (.pick (.tmp 26) (.tmp 30) (.cst (.d (.bool false)))), none⟩,
    ⟨(some 0), (.mv (.tmp 31)), none⟩] []) (
 .ret)))))
def R_law20_awake : List LRes := [(.tmp 0)]
def V_law20_awake : List Nat := [2, 9, 1, 0]

end Go.Ago

/- Lowered functions of a package, callees by their numbers. Printed by a program of this session. Conditions: none. -/
set_option maxRecDepth 100000
set_option linter.unusedVariables false
namespace Go.Ago
end Go.Ago

/- Lowered functions of a package, callees by their numbers. Printed by a program of this session. Conditions: none. -/
set_option maxRecDepth 100000
set_option linter.unusedVariables false
namespace Go.Ago
end Go.Ago

/- Lowered functions of a package, callees by their numbers. Printed by a program of this session. Conditions: none. -/
set_option maxRecDepth 100000
set_option linter.unusedVariables false
namespace Go.Ago
end Go.Ago

/- Lowered functions of a package, callees by their numbers. Printed by a program of this session. Conditions: none. -/
set_option maxRecDepth 100000
set_option linter.unusedVariables false
namespace Go.Ago
end Go.Ago

/- Lowered functions of a package, callees by their numbers. Printed by a program of this session. Conditions: none. -/
set_option maxRecDepth 100000
set_option linter.unusedVariables false
namespace Go.Ago
end Go.Ago

/- Lowered functions of a package, callees by their numbers. Printed by a program of this session. Conditions: none. -/
set_option maxRecDepth 100000
set_option linter.unusedVariables false
namespace Go.Ago
end Go.Ago
