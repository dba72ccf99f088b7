/- Lowered functions of a package, callees by their numbers. Printed by a program of this session. Conditions: none. -/
import Derived.Test.YtlphhmgfjdecjaaAgo27
set_option maxRecDepth 100000
set_option linter.unusedVariables false
namespace Go.Ago
def L_slices_BinarySearchFunc_api_Stamp_api_Rat : LCode :=
 .seq (
  .region false [⟨(some 4), (.box 0 (.tmp 1)), none⟩,
    ⟨(some 6), (.mv (.cst (.d (.int .i64 0)))), none⟩,
    ⟨(some 7), (.mv (.cst (.d (.bool false)))), none⟩] []) (
 .seq (
  .region false [⟨(some 12), (.mv (.tmp 0)), none⟩,
    ⟨(some 13), (.len (.tmp 12)), none⟩,
    ⟨(some 8), (.mv (.tmp 13)), none⟩] []) (
 .seq (
  .region false [⟨(some 14), (.mv (.tmp 8)), none⟩,
    ⟨(some 9), (.mv (.cst (.d (.int .i64 0)))), none⟩,
    ⟨(some 10), (.mv (.tmp 14)), none⟩] []) (
 .seq (
  .block 0 (
   .loop (
    .seq (
     .seq (
      .region false [⟨(some 15), (.mv (.tmp 9)), none⟩,
        ⟨(some 16), (.mv (.tmp 10)), none⟩,
        ⟨(some 17), (.bin .lss (.tmp 15) (.tmp 16)), none⟩] []) (
     .cond (.tmp 17) (
      .skip) (
      (.exit 0)))) (
    .block 1 (
     .seq (
      .region false [⟨(some 18), (.mv (.tmp 9)), none⟩,
        ⟨(some 19), (.mv (.tmp 10)), none⟩,
        ⟨(some 20), (.bin .add (.tmp 18) (.tmp 19)), none⟩,
        ⟨(some 21), (.conv .u64 (.tmp 20)), none⟩,
        ⟨(some 22), (.bin .shr (.tmp 21) (.cst (.d (.int .u64 1)))), none⟩,
        ⟨(some 23), (.conv .i64 (.tmp 22)), none⟩,
        ⟨(some 11), (.mv (.tmp 23)), none⟩] []) (
     .seq (
      .region true [⟨(some 24), (.mv (.tmp 2)), none⟩,
        ⟨(some 25), (.mv (.tmp 0)), none⟩,
        ⟨(some 26), (.mv (.tmp 11)), none⟩,
        ⟨(some 27), (.idxAddr 3 (.tmp 25) (.tmp 26)), none⟩,
        ⟨(some 28), (.load true 3 (.tmp 27)), none⟩,
        ⟨(some 29), (.load true 2 (.tmp 4)), none⟩,
        ⟨(some 30), (.call 0 false (.tmp 24) [(.tmp 28), (.tmp 29)]), none⟩,
        ⟨(some 31), (.bin .lss (.tmp 30) (.cst (.d (.int .i64 0)))), none⟩] []) (
     .cond (.tmp 31) (
      .region false [⟨(some 32), (.mv (.tmp 11)), none⟩,
        ⟨(some 33), (.bin .add (.tmp 32) (.cst (.d (.int .i64 1)))), none⟩,
        ⟨(some 9), (.mv (.tmp 33)), none⟩] []) (
      .region false [⟨(some 34), (.mv (.tmp 11)), none⟩, ⟨(some 10), (.mv (.tmp 34)), none⟩] [])))))))) (
 .seq (
  .region true [⟨(some 35), (.mv (.tmp 9)), none⟩,
    ⟨(some 36), (.mv (.tmp 9)), none⟩,
    ⟨(some 37), (.mv (.tmp 8)), none⟩,
    ⟨(some 38), (.bin .lss (.tmp 36) (.tmp 37)), none⟩,
    ⟨(some 39), (.mv (.tmp 38)), none⟩,
    ⟨(some 40), (.mv (.tmp 2)), (some (39, true))⟩,
    ⟨(some 41), (.mv (.tmp 0)), (some (39, true))⟩,
    ⟨(some 42), (.mv (.tmp 9)), (some (39, true))⟩,
    ⟨(some 43), (.idxAddr 3 (.tmp 41) (.tmp 42)), (some (39, true))⟩,
    ⟨(some 44), (.load true 3 (.tmp 43)), (some (39, true))⟩,
    ⟨(some 45), (.load true 2 (.tmp 4)), (some (39, true))⟩,
    ⟨(some 46), (.call 0 false (.tmp 40) [(.tmp 44), (.tmp 45)]), (some (39, true))⟩,
    ⟨(some 47), (.bin .eql (.tmp 46) (.cst (.d (.int .i64 0)))), (some (39, true))⟩,
    ⟨(some 48), (.pick (.tmp 39) (.tmp 47) (.cst (.d (.bool false)))), none⟩,
    ⟨(some 6), (.mv (.tmp 35)), none⟩,
    ⟨(some 7), (.mv (.tmp 48)), none⟩] []) (
 .ret)))))
def R_slices_BinarySearchFunc_api_Stamp_api_Rat : List LRes := [(.tmp 6), (.tmp 7)]
def V_slices_BinarySearchFunc_api_Stamp_api_Rat : List Nat := [1, 0, 8, 9, 10, 17, 2, 11, 4, 31, 6, 7]

def L_slices_overlaps_api_Stamp : LCode :=
 .skip
def R_slices_overlaps_api_Stamp : List LRes := []
def V_slices_overlaps_api_Stamp : List Nat := []

def L_slices_rotateRight_api_Stamp (n_slices_rotateLeft_api_Stamp : Nat) : LCode :=
 .region false [⟨(some 4), (.mv (.tmp 0)), none⟩,
   ⟨(some 5), (.mv (.tmp 0)), none⟩,
   ⟨(some 6), (.len (.tmp 5)), none⟩,
   ⟨(some 7), (.mv (.tmp 1)), none⟩,
   ⟨(some 8), (.bin .sub (.tmp 6) (.tmp 7)), none⟩,
   ⟨(some 9), (.call 0 false (.cst (.d (.fn n_slices_rotateLeft_api_Stamp))) [(.tmp 4), (.tmp 8)]), none⟩] []
def R_slices_rotateRight_api_Stamp : List LRes := []
def V_slices_rotateRight_api_Stamp : List Nat := [0, 1]

def L_slices_rotateLeft_api_Stamp (n_slices_Reverse_api_Stamp : Nat) : LCode :=
 .seq (
  .region false [⟨(some 4), (.mv (.tmp 0)), none⟩,
    ⟨(some 5), (.mv (.tmp 1)), none⟩,
    ⟨(some 6), (.slice 3 (.tmp 4) none (some (.tmp 5)) none), none⟩,
    ⟨(some 7), (.call 0 false (.cst (.d (.fn n_slices_Reverse_api_Stamp))) [(.tmp 6)]), none⟩] []) (
 .seq (
  .region false [⟨(some 8), (.mv (.tmp 0)), none⟩,
    ⟨(some 9), (.mv (.tmp 1)), none⟩,
    ⟨(some 10), (.slice 3 (.tmp 8) (some (.tmp 9)) none none), none⟩,
    ⟨(some 11), (.call 0 false (.cst (.d (.fn n_slices_Reverse_api_Stamp))) [(.tmp 10)]), none⟩] []) (
 .region false [⟨(some 12), (.mv (.tmp 0)), none⟩, ⟨(some 13), (.call 0 false (.cst (.d (.fn n_slices_Reverse_api_Stamp))) [(.tmp 12)]), none⟩] []))
def R_slices_rotateLeft_api_Stamp : List LRes := []
def V_slices_rotateLeft_api_Stamp : List Nat := [0, 1]

def L_slices_Reverse_api_Stamp : LCode :=
 .seq (
  .region false [⟨(some 4), (.mv (.tmp 0)), none⟩,
    ⟨(some 5), (.len (.tmp 4)), none⟩,
    ⟨(some 6), (.bin .sub (.tmp 5) (.cst (.d (.int .i64 1)))), none⟩,
    ⟨(some 2), (.mv (.cst (.d (.int .i64 0)))), none⟩,
    ⟨(some 3), (.mv (.tmp 6)), none⟩] []) (
 .block 0 (
  .loop (
   .seq (
    .seq (
     .region false [⟨(some 7), (.mv (.tmp 2)), none⟩,
       ⟨(some 8), (.mv (.tmp 3)), none⟩,
       ⟨(some 9), (.bin .lss (.tmp 7) (.tmp 8)), none⟩] []) (
    .cond (.tmp 9) (
     .skip) (
     (.exit 0)))) (
   .seq (
    .block 1 (
     .region true [⟨(some 14), (.mv (.tmp 0)), none⟩,
       ⟨(some 15), (.mv (.tmp 2)), none⟩,
       ⟨(some 16), (.mv (.tmp 0)), none⟩,
       ⟨(some 17), (.mv (.tmp 3)), none⟩,
       ⟨(some 18), (.mv (.tmp 0)), none⟩,
       ⟨(some 19), (.mv (.tmp 3)), none⟩,
       ⟨(some 20), (.idxAddr 3 (.tmp 18) (.tmp 19)), none⟩,
       ⟨(some 21), (.load true 3 (.tmp 20)), none⟩,
       ⟨(some 22), (.mv (.tmp 0)), none⟩,
       ⟨(some 23), (.mv (.tmp 2)), none⟩,
       ⟨(some 24), (.idxAddr 3 (.tmp 22) (.tmp 23)), none⟩,
       ⟨(some 25), (.load true 3 (.tmp 24)), none⟩,
       ⟨(some 26), (.idxAddr 3 (.tmp 14) (.tmp 15)), none⟩,
       ⟨none, (.store 3 (.tmp 26) (.tmp 21)), none⟩,
       ⟨(some 27), (.idxAddr 3 (.tmp 16) (.tmp 17)), none⟩,
       ⟨none, (.store 3 (.tmp 27) (.tmp 25)), none⟩] [])) (
   .region false [⟨(some 10), (.mv (.tmp 2)), none⟩,
     ⟨(some 11), (.bin .add (.tmp 10) (.cst (.d (.int .i64 1)))), none⟩,
     ⟨(some 12), (.mv (.tmp 3)), none⟩,
     ⟨(some 13), (.bin .sub (.tmp 12) (.cst (.d (.int .i64 1)))), none⟩,
     ⟨(some 2), (.mv (.tmp 11)), none⟩,
     ⟨(some 3), (.mv (.tmp 13)), none⟩] [])))))
def R_slices_Reverse_api_Stamp : List LRes := []
def V_slices_Reverse_api_Stamp : List Nat := [0, 2, 3, 9]

def L_slices_Clone_int64 : LCode :=
 .seq (
  .region false [⟨(some 2), (.mv (.cst (.d (.list [] true)))), none⟩] []) (
 .seq (
  .seq (
   .nilq [⟨(some 3), (.mv (.tmp 0)), none⟩] false 4 (.tmp 3)) (
  .cond (.tmp 4) (
   .seq (
    .region false [⟨(some 2), (.mv (.cst (.d (.list [] true)))), none⟩] []) (
   .ret)) (
   .skip))) (
 .seq (
  .region false [⟨(some 5), (.mv (.cst (.d (.list [] true)))), none⟩,
    ⟨(some 6), (.mv (.tmp 0)), none⟩,
    ⟨(some 7), (.append 0 1 8 (.tmp 5) (.tmp 6)), none⟩,
    ⟨(some 2), (.mv (.tmp 7)), none⟩] []) (
 .ret)))
def R_slices_Clone_int64 : List LRes := [(.tmp 2)]
def V_slices_Clone_int64 : List Nat := [0, 4, 2]

def L_slices_Clone_api_Loc : LCode :=
 .seq (
  .region false [⟨(some 2), (.mv (.cst (.d (.list [] true)))), none⟩] []) (
 .seq (
  .seq (
   .nilq [⟨(some 3), (.mv (.tmp 0)), none⟩] false 4 (.tmp 3)) (
  .cond (.tmp 4) (
   .seq (
    .region false [⟨(some 2), (.mv (.cst (.d (.list [] true)))), none⟩] []) (
   .ret)) (
   .skip))) (
 .seq (
  .region false [⟨(some 5), (.mv (.cst (.d (.list [] true)))), none⟩,
    ⟨(some 6), (.mv (.tmp 0)), none⟩,
    ⟨(some 7), (.append 0 2 16 (.tmp 5) (.tmp 6)), none⟩,
    ⟨(some 2), (.mv (.tmp 7)), none⟩] []) (
 .ret)))
def R_slices_Clone_api_Loc : List LRes := [(.tmp 2)]
def V_slices_Clone_api_Loc : List Nat := [0, 4, 2]

def L_slices_Clone_api_Rat : LCode :=
 .seq (
  .region false [⟨(some 2), (.mv (.cst (.d (.list [] true)))), none⟩] []) (
 .seq (
  .seq (
   .nilq [⟨(some 3), (.mv (.tmp 0)), none⟩] false 4 (.tmp 3)) (
  .cond (.tmp 4) (
   .seq (
    .region false [⟨(some 2), (.mv (.cst (.d (.list [] true)))), none⟩] []) (
   .ret)) (
   .skip))) (
 .seq (
  .region false [⟨(some 5), (.mv (.cst (.d (.list [] true)))), none⟩,
    ⟨(some 6), (.mv (.tmp 0)), none⟩,
    ⟨(some 7), (.append 0 2 16 (.tmp 5) (.tmp 6)), none⟩,
    ⟨(some 2), (.mv (.tmp 7)), none⟩] []) (
 .ret)))
def R_slices_Clone_api_Rat : List LRes := [(.tmp 2)]
def V_slices_Clone_api_Rat : List Nat := [0, 4, 2]

def L_slices_Clone_api_Stamp_api_Stamp : LCode :=
 .seq (
  .region false [⟨(some 2), (.mv (.cst (.d (.list [] true)))), none⟩] []) (
 .seq (
  .seq (
   .nilq [⟨(some 3), (.mv (.tmp 0)), none⟩] false 4 (.tmp 3)) (
  .cond (.tmp 4) (
   .seq (
    .region false [⟨(some 2), (.mv (.cst (.d (.list [] true)))), none⟩] []) (
   .ret)) (
   .skip))) (
 .seq (
  .region false [⟨(some 5), (.mv (.cst (.d (.list [] true)))), none⟩,
    ⟨(some 6), (.mv (.tmp 0)), none⟩,
    ⟨(some 7), (.append 0 1 24 (.tmp 5) (.tmp 6)), none⟩,
    ⟨(some 2), (.mv (.tmp 7)), none⟩] []) (
 .ret)))
def R_slices_Clone_api_Stamp_api_Stamp : List LRes := [(.tmp 2)]
def V_slices_Clone_api_Stamp_api_Stamp : List Nat := [0, 4, 2]

def L_slices_Clone_api_Rat_api_Rat : LCode :=
 .seq (
  .region false [⟨(some 2), (.mv (.cst (.d (.list [] true)))), none⟩] []) (
 .seq (
  .seq (
   .nilq [⟨(some 3), (.mv (.tmp 0)), none⟩] false 4 (.tmp 3)) (
  .cond (.tmp 4) (
   .seq (
    .region false [⟨(some 2), (.mv (.cst (.d (.list [] true)))), none⟩] []) (
   .ret)) (
   .skip))) (
 .seq (
  .region false [⟨(some 5), (.mv (.cst (.d (.list [] true)))), none⟩,
    ⟨(some 6), (.mv (.tmp 0)), none⟩,
    ⟨(some 7), (.append 0 1 24 (.tmp 5) (.tmp 6)), none⟩,
    ⟨(some 2), (.mv (.tmp 7)), none⟩] []) (
 .ret)))
def R_slices_Clone_api_Rat_api_Rat : List LRes := [(.tmp 2)]
def V_slices_Clone_api_Rat_api_Rat : List Nat := [0, 4, 2]

def L_slices_Clone_api_Stamp : LCode :=
 .seq (
  .region false [⟨(some 2), (.mv (.cst (.d (.list [] true)))), none⟩] []) (
 .seq (
  .seq (
   .nilq [⟨(some 3), (.mv (.tmp 0)), none⟩] false 4 (.tmp 3)) (
  .cond (.tmp 4) (
   .seq (
    .region false [⟨(some 2), (.mv (.cst (.d (.list [] true)))), none⟩] []) (
   .ret)) (
   .skip))) (
 .seq (
  .region false [⟨(some 5), (.mv (.cst (.d (.list [] true)))), none⟩,
    ⟨(some 6), (.mv (.tmp 0)), none⟩,
    ⟨(some 7), (.append 0 3 24 (.tmp 5) (.tmp 6)), none⟩,
    ⟨(some 2), (.mv (.tmp 7)), none⟩] []) (
 .ret)))
def R_slices_Clone_api_Stamp : List LRes := [(.tmp 2)]
def V_slices_Clone_api_Stamp : List Nat := [0, 4, 2]

end Go.Ago
