/- Lowered functions of a package, callees by their numbers. Printed by a program of this session. Conditions: none. -/
import Derived.Test.YtmknnljemhajoaaDoorAgoP3
set_option maxRecDepth 100000
set_option linter.unusedVariables false
namespace Go.Ago
end Go.Ago

/- Lowered functions of a package, callees by their numbers. Printed by a program of this session. Conditions: none. -/
set_option maxRecDepth 100000
set_option linter.unusedVariables false
namespace Go.Ago
def L_act_Right : LCode :=
 .seq (
  .region false [⟨(some 2), (.box 0 (.tmp 0)), none⟩, ⟨(some 4), (.mv (.cst (.d (.bool false)))), none⟩] []) (
 .seq (
  .region false [⟨(some 5), (.mv (.cst (.d (.bool false)))), none⟩,
    ⟨(some 6), (.mv (.cst (.d (.bool false)))), none⟩,
    ⟨(some 7), (.mv (.cst (.d (.bool false)))), none⟩] []) (
 .seq (
  .seq (
   .region false [⟨(some 8), (.fieldAddr 0 (.tmp 2)), none⟩, ⟨(some 9), (.load false 1 (.tmp 8)), none⟩] []) (
  .block 0 (
   .seq (
    .region false [⟨(some 11), (.bin .eql (.tmp 9) (.cst (.d (.int .i64 6)))), none⟩, ⟨(some 10), (.mv (.tmp 11)), none⟩] []) (
   .cond (.tmp 10) (
    .seq (
     .region false [⟨(some 12), (.fieldAddr 1 (.tmp 2)), none⟩,
       ⟨(some 13), (.load false 1 (.tmp 12)), none⟩,
       ⟨(some 14), (.bin .eql (.tmp 13) (.cst (.d (.int .i64 0)))), none⟩,
       ⟨(some 15), (.mv (.tmp 14)), none⟩,
       ⟨(some 16), (.fieldAddr 2 (.tmp 2)), (some (15, true))⟩,
       ⟨(some 17), (.load false 1 (.tmp 16)), (some (15, true))⟩,
       ⟨(some 18), (.bin .eql (.tmp 17) (.cst (.d (.int .i64 0)))), (some (15, true))⟩,
       ⟨(some 19), (.pick (.tmp 15) (.tmp 18) (.cst (.d (.bool false)))), none⟩,
       ⟨(some 4), (.mv (.tmp 19)), none⟩] []) (
    .ret)) (
    .seq (
     .region false [⟨(some 21), (.bin .eql (.tmp 9) (.cst (.d (.int .i64 1)))), none⟩, ⟨(some 20), (.mv (.tmp 21)), none⟩] []) (
    .cond (.tmp 20) (
     .region false [⟨(some 5), (.mv (.cst (.d (.bool true)))), none⟩] []) (
     .seq (
      .region false [⟨(some 23), (.bin .eql (.tmp 9) (.cst (.d (.int .i64 2)))), none⟩, ⟨(some 22), (.mv (.tmp 23)), none⟩] []) (
     .cond (.tmp 22) (
      .region false [⟨(some 6), (.mv (.cst (.d (.bool true)))), none⟩] []) (
      .seq (
       .region false [⟨(some 25), (.bin .eql (.tmp 9) (.cst (.d (.int .i64 3)))), none⟩, ⟨(some 24), (.mv (.tmp 25)), none⟩] []) (
      .cond (.tmp 24) (
       .region false [⟨(some 5), (.mv (.cst (.d (.bool true)))), none⟩, ⟨(some 7), (.mv (.cst (.d (.bool true)))), none⟩] []) (
       .seq (
        .region false [⟨(some 27), (.bin .eql (.tmp 9) (.cst (.d (.int .i64 4)))), none⟩, ⟨(some 26), (.mv (.tmp 27)), none⟩] []) (
       .cond (.tmp 26) (
        .region false [⟨(some 6), (.mv (.cst (.d (.bool true)))), none⟩, ⟨(some 7), (.mv (.cst (.d (.bool true)))), none⟩] []) (
        .seq (
         .region false [⟨(some 29), (.bin .eql (.tmp 9) (.cst (.d (.int .i64 5)))), none⟩, ⟨(some 28), (.mv (.tmp 29)), none⟩] []) (
        .cond (.tmp 28) (
         .region false [⟨(some 5), (.mv (.cst (.d (.bool true)))), none⟩,
           ⟨(some 6), (.mv (.cst (.d (.bool true)))), none⟩,
           ⟨(some 7), (.mv (.cst (.d (.bool true)))), none⟩] []) (
         .seq (
          .region false [⟨(some 4), (.mv (.cst (.d (.bool false)))), none⟩] []) (
         .ret)))))))))))))))) (
 .seq (
  .region false [⟨(some 30), (.fieldAddr 1 (.tmp 2)), none⟩,
    ⟨(some 31), (.load false 1 (.tmp 30)), none⟩,
    ⟨(some 32), (.bin .geq (.tmp 31) (.cst (.d (.int .i64 0)))), none⟩,
    ⟨(some 33), (.mv (.tmp 32)), none⟩,
    ⟨(some 34), (.fieldAddr 1 (.tmp 2)), (some (33, true))⟩,
    ⟨(some 35), (.load false 1 (.tmp 34)), (some (33, true))⟩,
    ⟨(some 36), (.mv (.tmp 1)), (some (33, true))⟩,
    ⟨(some 37), (.len (.tmp 36)), (some (33, true))⟩,
    ⟨(some 38), (.bin .lss (.tmp 35) (.tmp 37)), (some (33, true))⟩,
    ⟨(some 39), (.pick (.tmp 33) (.tmp 38) (.cst (.d (.bool false)))), none⟩,
    ⟨(some 40), (.mv (.tmp 39)), none⟩,
    ⟨(some 41), (.mv (.tmp 1)), (some (40, true))⟩,
    ⟨(some 42), (.fieldAddr 1 (.tmp 2)), (some (40, true))⟩,
    ⟨(some 43), (.load false 1 (.tmp 42)), (some (40, true))⟩,
    ⟨(some 44), (.idxAddr 2 (.tmp 41) (.tmp 43)), (some (40, true))⟩,
    ⟨(some 45), (.fieldAddr 0 (.tmp 44)), (some (40, true))⟩,
    ⟨(some 46), (.load false 1 (.tmp 45)), (some (40, true))⟩,
    ⟨(some 47), (.mv (.tmp 7)), (some (40, true))⟩,
    ⟨(some 48), (.eq false .bool (.tmp 46) (.tmp 47)), (some (40, true))⟩,
    ⟨(some 49), (.pick (.tmp 40) (.tmp 48) (.cst (.d (.bool false)))), none⟩,
    ⟨(some 50), (.mv (.tmp 49)), none⟩,
    ⟨(some 51), (.mv (.tmp 5)), (some (50, true))⟩,
    ⟨(some 52), (.mv (.tmp 51)), (some (50, true))⟩,
    ⟨(some 53), (.fieldAddr 2 (.tmp 2)), (some (52, false))⟩,
    ⟨(some 54), (.load false 1 (.tmp 53)), (some (52, false))⟩,
    ⟨(some 55), (.bin .eql (.tmp 54) (.cst (.d (.int .i64 0)))), (some (52, false))⟩,
    ⟨(some 56), (.pick (.tmp 52) (.cst (.d (.bool true))) (.tmp 55)), (some (50, true))⟩,
    ⟨(some 57), (.pick (.tmp 50) (.tmp 56) (.cst (.d (.bool false)))), none⟩,
    ⟨(some 58), (.mv (.tmp 57)), none⟩,
    ⟨(some 59), (.mv (.tmp 6)), (some (58, true))⟩,
    ⟨(some 60), (.mv (.tmp 59)), (some (58, true))⟩,
    ⟨(some 61), (.fieldAddr 3 (.tmp 2)), (some (60, false))⟩,
    ⟨(some 62), (.load false 1 (.tmp 61)), (some (60, false))⟩,
    ⟨(some 63), (.bin .eql (.tmp 62) (.cst (.d (.int .i64 0)))), (some (60, false))⟩,
    ⟨(some 64), (.pick (.tmp 60) (.cst (.d (.bool true))) (.tmp 63)), (some (58, true))⟩,
    ⟨(some 65), (.pick (.tmp 58) (.tmp 64) (.cst (.d (.bool false)))), none⟩,
    ⟨(some 4), (.mv (.tmp 65)), none⟩] []) (
 .ret))))
def R_act_Right : List LRes := [(.tmp 4)]
def V_act_Right : List Nat := [0, 2, 9, 10, 20, 22, 24, 26, 28, 1, 7, 5, 6, 4]

end Go.Ago

/- Lowered functions of a package, callees by their numbers. Printed by a program of this session. Conditions: none. -/
set_option maxRecDepth 100000
set_option linter.unusedVariables false
namespace Go.Ago
end Go.Ago

/- Lowered functions of a package, callees by their numbers. Printed by a program of this session. Conditions: none. -/
set_option maxRecDepth 100000
set_option linter.unusedVariables false
namespace Go.Ago
def L_slices_Clone_api_Loc : LCode :=
 .seq (
  .region false [⟨(some 2), (.mv (.cst (.d (.list [] true)))), none⟩] []) (
 .seq (
  .seq (
   .nilq [⟨(some 3), (.mv (.tmp 0)), none⟩] false 4 (.tmp 3)) (
  .cond (.tmp 4) (
   .seq (
    .region false [⟨(some 2), (.mv (.cst (.d (.list [] true)))), none⟩] []) (
   .ret)) (
   .skip))) (
 .seq (
  .region false [⟨(some 5), (.mv (.cst (.d (.list [] true)))), none⟩,
    ⟨(some 6), (.mv (.tmp 0)), none⟩,
    ⟨(some 7), (.append 0 2 16 (.tmp 5) (.tmp 6)), none⟩,
    ⟨(some 2), (.mv (.tmp 7)), none⟩] []) (
 .ret)))
def R_slices_Clone_api_Loc : List LRes := [(.tmp 2)]
def V_slices_Clone_api_Loc : List Nat := [0, 4, 2]

def L_slices_ContainsFunc_uint64 (n_slices_IndexFunc_uint64 : Nat) : LCode :=
 .seq (
  .region false [⟨(some 4), (.mv (.cst (.d (.bool false)))), none⟩] []) (
 .seq (
  .region false [⟨(some 5), (.mv (.tmp 0)), none⟩,
    ⟨(some 6), (.mv (.tmp 1)), none⟩,
    ⟨(some 7), (.call 0 false (.cst (.d (.fn n_slices_IndexFunc_uint64))) [(.tmp 5), (.tmp 6)]), none⟩,
    ⟨(some 8), (.bin .geq (.tmp 7) (.cst (.d (.int .i64 0)))), none⟩,
    ⟨(some 4), (.mv (.tmp 8)), none⟩] []) (
 .ret))
def R_slices_ContainsFunc_uint64 : List LRes := [(.tmp 4)]
def V_slices_ContainsFunc_uint64 : List Nat := [0, 1, 4]

def L_slices_Clone_uint64 : LCode :=
 .seq (
  .region false [⟨(some 2), (.mv (.cst (.d (.list [] true)))), none⟩] []) (
 .seq (
  .seq (
   .nilq [⟨(some 3), (.mv (.tmp 0)), none⟩] false 4 (.tmp 3)) (
  .cond (.tmp 4) (
   .seq (
    .region false [⟨(some 2), (.mv (.cst (.d (.list [] true)))), none⟩] []) (
   .ret)) (
   .skip))) (
 .seq (
  .region false [⟨(some 5), (.mv (.cst (.d (.list [] true)))), none⟩,
    ⟨(some 6), (.mv (.tmp 0)), none⟩,
    ⟨(some 7), (.append 0 1 8 (.tmp 5) (.tmp 6)), none⟩,
    ⟨(some 2), (.mv (.tmp 7)), none⟩] []) (
 .ret)))
def R_slices_Clone_uint64 : List LRes := [(.tmp 2)]
def V_slices_Clone_uint64 : List Nat := [0, 4, 2]

def L_slices_IndexFunc_uint64 : LCode :=
 .seq (
  .region false [⟨(some 4), (.mv (.cst (.d (.int .i64 0)))), none⟩] []) (
 .seq (
  .seq (
   .region false [⟨(some 6), (.mv (.tmp 0)), none⟩,
     ⟨(some 7), (.len (.tmp 6)), none⟩,
     ⟨(some 8), (.mv (.cst (.d (.int .i64 0)))), none⟩] []) (
  .block 0 (
   .loop (
    .seq (
     .region false [⟨(some 9), (.bin .lss (.tmp 8) (.tmp 7)), none⟩] []) (
    .seq (
     .cond (.tmp 9) (
      .skip) (
      (.exit 0))) (
    .seq (
     .block 1 (
      .seq (
       .region false [⟨(some 10), (.mv (.tmp 8)), none⟩, ⟨(some 5), (.mv (.tmp 10)), none⟩] []) (
      .seq (
       .region false [⟨(some 11), (.mv (.tmp 1)), none⟩,
         ⟨(some 12), (.mv (.tmp 0)), none⟩,
         ⟨(some 13), (.mv (.tmp 5)), none⟩,
         ⟨(some 14), (.idxAddr 1 (.tmp 12) (.tmp 13)), none⟩,
         ⟨(some 15), (.load false 1 (.tmp 14)), none⟩,
         ⟨(some 16), (.call 0 false (.tmp 11) [(.tmp 15)]), none⟩] []) (
      .cond (.tmp 16) (
       .seq (
        .region false [⟨(some 17), (.mv (.tmp 5)), none⟩, ⟨(some 4), (.mv (.tmp 17)), none⟩] []) (
       .ret)) (
       .skip))))) (
    .region false [⟨(some 18), (.bin .add (.tmp 8) (.cst (.d (.int .i64 1)))), none⟩, ⟨(some 8), (.mv (.tmp 18)), none⟩] []))))))) (
 .seq (
  .region false [⟨(some 4), (.mv (.cst (.d (.int .i64 (-1))))), none⟩] []) (
 .ret)))
def R_slices_IndexFunc_uint64 : List LRes := [(.tmp 4)]
def V_slices_IndexFunc_uint64 : List Nat := [0, 8, 7, 9, 1, 5, 16, 4]

def L_slices_Clone_int : LCode :=
 .seq (
  .region false [⟨(some 2), (.mv (.cst (.d (.list [] true)))), none⟩] []) (
 .seq (
  .seq (
   .nilq [⟨(some 3), (.mv (.tmp 0)), none⟩] false 4 (.tmp 3)) (
  .cond (.tmp 4) (
   .seq (
    .region false [⟨(some 2), (.mv (.cst (.d (.list [] true)))), none⟩] []) (
   .ret)) (
   .skip))) (
 .seq (
  .region false [⟨(some 5), (.mv (.cst (.d (.list [] true)))), none⟩,
    ⟨(some 6), (.mv (.tmp 0)), none⟩,
    ⟨(some 7), (.append 0 1 8 (.tmp 5) (.tmp 6)), none⟩,
    ⟨(some 2), (.mv (.tmp 7)), none⟩] []) (
 .ret)))
def R_slices_Clone_int : List LRes := [(.tmp 2)]
def V_slices_Clone_int : List Nat := [0, 4, 2]

def L_slices_Equal_int : LCode :=
 .seq (
  .region false [⟨(some 4), (.mv (.cst (.d (.bool false)))), none⟩] []) (
 .seq (
  .seq (
   .region false [⟨(some 6), (.mv (.tmp 0)), none⟩,
     ⟨(some 7), (.len (.tmp 6)), none⟩,
     ⟨(some 8), (.mv (.tmp 1)), none⟩,
     ⟨(some 9), (.len (.tmp 8)), none⟩,
     ⟨(some 10), (.bin .neq (.tmp 7) (.tmp 9)), none⟩] []) (
  .cond (.tmp 10) (
   .seq (
    .region false [⟨(some 4), (.mv (.cst (.d (.bool false)))), none⟩] []) (
   .ret)) (
   .skip))) (
 .seq (
  .seq (
   .region false [⟨(some 11), (.mv (.tmp 0)), none⟩,
     ⟨(some 12), (.len (.tmp 11)), none⟩,
     ⟨(some 13), (.mv (.cst (.d (.int .i64 0)))), none⟩] []) (
  .block 0 (
   .loop (
    .seq (
     .region false [⟨(some 14), (.bin .lss (.tmp 13) (.tmp 12)), none⟩] []) (
    .seq (
     .cond (.tmp 14) (
      .skip) (
      (.exit 0))) (
    .seq (
     .block 1 (
      .seq (
       .region false [⟨(some 15), (.mv (.tmp 13)), none⟩, ⟨(some 5), (.mv (.tmp 15)), none⟩] []) (
      .seq (
       .region true [⟨(some 16), (.mv (.tmp 0)), none⟩,
         ⟨(some 17), (.mv (.tmp 5)), none⟩,
         ⟨(some 18), (.idxAddr 1 (.tmp 16) (.tmp 17)), none⟩,
         ⟨(some 19), (.load false 1 (.tmp 18)), none⟩,
         ⟨(some 20), (.mv (.tmp 1)), none⟩,
         ⟨(some 21), (.mv (.tmp 5)), none⟩,
         ⟨(some 22), (.idxAddr 1 (.tmp 20) (.tmp 21)), none⟩,
         ⟨(some 23), (.load false 1 (.tmp 22)), none⟩,
         ⟨(some 24), (.bin .neq (.tmp 19) (.tmp 23)), none⟩] []) (
      .cond (.tmp 24) (
       .seq (
        .region false [⟨(some 4), (.mv (.cst (.d (.bool false)))), none⟩] []) (
       .ret)) (
       .skip))))) (
    .region false [⟨(some 25), (.bin .add (.tmp 13) (.cst (.d (.int .i64 1)))), none⟩, ⟨(some 13), (.mv (.tmp 25)), none⟩] []))))))) (
 .seq (
  .region false [⟨(some 4), (.mv (.cst (.d (.bool true)))), none⟩] []) (
 .ret))))
def R_slices_Equal_int : List LRes := [(.tmp 4)]
def V_slices_Equal_int : List Nat := [0, 1, 10, 13, 12, 14, 5, 24, 4]

end Go.Ago

/- Lowered functions of a package, callees by their numbers. Printed by a program of this session. Conditions: none. -/
set_option maxRecDepth 100000
set_option linter.unusedVariables false
namespace Go.Ago
def L_rel_Of : LCode :=
 .seq (
  .region false [⟨(some 4), (.mv (.cst (.d (.list [] true)))), none⟩, ⟨(some 5), (.mv (.cst (.d (.int .i64 0)))), none⟩] []) (
 .seq (
  .seq (
   .region false [⟨(some 9), (.mv (.tmp 0)), none⟩,
     ⟨(some 10), (.bin .lss (.tmp 9) (.cst (.d (.int .i64 0)))), none⟩,
     ⟨(some 11), (.mv (.tmp 10)), none⟩,
     ⟨(some 12), (.mv (.tmp 0)), (some (11, false))⟩,
     ⟨(some 13), (.bin .gtr (.tmp 12) (.cst (.d (.int .i64 64)))), (some (11, false))⟩,
     ⟨(some 14), (.pick (.tmp 11) (.cst (.d (.bool true))) (.tmp 13)), none⟩] []) (
  .cond (.tmp 14) (
   .seq (
    .region false [⟨(some 4), (.mv (.cst (.d (.list [] true)))), none⟩, ⟨(some 5), (.mv (.cst (.d (.int .i64 1)))), none⟩] []) (
   .ret)) (
   .skip))) (
 .seq (
  .region false [⟨(some 15), (.mv (.tmp 0)), none⟩,
    ⟨(some 16), (.mkslice 0 1 8 [(.d (.int .u64 0))] (.tmp 15) (.tmp 15)), none⟩,
    ⟨(some 6), (.mv (.tmp 16)), none⟩] []) (
 .seq (
  .seq (
   .region false [⟨(some 17), (.mv (.tmp 1)), none⟩,
     ⟨(some 18), (.len (.tmp 17)), none⟩,
     ⟨(some 19), (.mv (.cst (.d (.int .i64 0)))), none⟩] []) (
  .block 0 (
   .loop (
    .seq (
     .region false [⟨(some 20), (.bin .lss (.tmp 19) (.tmp 18)), none⟩] []) (
    .seq (
     .cond (.tmp 20) (
      .skip) (
      (.exit 0))) (
    .seq (
     .block 1 (
      .seq (
       .region false [⟨(some 21), (.idxAddr 2 (.tmp 17) (.tmp 19)), none⟩,
         ⟨(some 22), (.load true 2 (.tmp 21)), none⟩,
         ⟨(some 8), (.alloc 0 2 [(.d (.int .i64 0)), (.d (.int .i64 0))]), none⟩,
         ⟨none, (.store 2 (.tmp 8) (.tmp 22)), none⟩] []) (
      .seq (
       .seq (
        .region false [⟨(some 23), (.idxArrAddr 2 1 (.tmp 8) (.cst (.d (.int .i64 0)))), none⟩,
          ⟨(some 24), (.load false 1 (.tmp 23)), none⟩,
          ⟨(some 25), (.bin .lss (.tmp 24) (.cst (.d (.int .i64 0)))), none⟩,
          ⟨(some 26), (.mv (.tmp 25)), none⟩,
          ⟨(some 27), (.idxArrAddr 2 1 (.tmp 8) (.cst (.d (.int .i64 0)))), (some (26, false))⟩,
          ⟨(some 28), (.load false 1 (.tmp 27)), (some (26, false))⟩,
          ⟨(some 29), (.mv (.tmp 0)), (some (26, false))⟩,
          ⟨(some 30), (.bin .geq (.tmp 28) (.tmp 29)), (some (26, false))⟩,
          ⟨(some 31), (.pick (.tmp 26) (.cst (.d (.bool true))) (.tmp 30)), none⟩,
          ⟨(some 32), (.mv (.tmp 31)), none⟩,
          ⟨(some 33), (.idxArrAddr 2 1 (.tmp 8) (.cst (.d (.int .i64 1)))), (some (32, false))⟩,
          ⟨(some 34), (.load false 1 (.tmp 33)), (some (32, false))⟩,
          ⟨(some 35), (.bin .lss (.tmp 34) (.cst (.d (.int .i64 0)))), (some (32, false))⟩,
          ⟨(some 36), (.pick (.tmp 32) (.cst (.d (.bool true))) (.tmp 35)), none⟩,
          ⟨(some 37), (.mv (.tmp 36)), none⟩,
          ⟨(some 38), (.idxArrAddr 2 1 (.tmp 8) (.cst (.d (.int .i64 1)))), (some (37, false))⟩,
          ⟨(some 39), (.load false 1 (.tmp 38)), (some (37, false))⟩,
          ⟨(some 40), (.mv (.tmp 0)), (some (37, false))⟩,
          ⟨(some 41), (.bin .geq (.tmp 39) (.tmp 40)), (some (37, false))⟩,
          ⟨(some 42), (.pick (.tmp 37) (.cst (.d (.bool true))) (.tmp 41)), none⟩] []) (
       .cond (.tmp 42) (
        .seq (
         .region false [⟨(some 4), (.mv (.cst (.d (.list [] true)))), none⟩, ⟨(some 5), (.mv (.cst (.d (.int .i64 2)))), none⟩] []) (
        .ret)) (
        .skip))) (
      .region true [⟨(some 43), (.mv (.tmp 6)), none⟩,
        ⟨(some 44), (.idxArrAddr 2 1 (.tmp 8) (.cst (.d (.int .i64 0)))), none⟩,
        ⟨(some 45), (.load false 1 (.tmp 44)), none⟩,
        ⟨(some 46), (.idxAddr 1 (.tmp 43) (.tmp 45)), none⟩,
        ⟨(some 47), (.load false 1 (.tmp 46)), none⟩,
        ⟨(some 48), (.idxArrAddr 2 1 (.tmp 8) (.cst (.d (.int .i64 1)))), none⟩,
        ⟨(some 49), (.load false 1 (.tmp 48)), none⟩,
        ⟨(some 50), (.conv .u64 (.tmp 49)), none⟩,
        ⟨(some 51), (.bin .shl (.cst (.d (.int .u64 1))) (.tmp 50)), none⟩,
        ⟨(some 52), (.bin .or (.tmp 47) (.tmp 51)), none⟩,
        ⟨(some 53), (.idxAddr 1 (.tmp 43) (.tmp 45)), none⟩,
        ⟨none, (.store 1 (.tmp 53) (.tmp 52)), none⟩] [])))) (
    .region false [⟨(some 54), (.bin .add (.tmp 19) (.cst (.d (.int .i64 1)))), none⟩, ⟨(some 19), (.mv (.tmp 54)), none⟩] []))))))) (
 .seq (
  .region false [⟨(some 55), (.mv (.tmp 6)), none⟩,
    ⟨(some 4), (.mv (.tmp 55)), none⟩,
    ⟨(some 5), (.mv (.cst (.d (.int .i64 0)))), none⟩] []) (
 .ret)))))
def R_rel_Of : List LRes := [(.tmp 4), (.tmp 5)]
def V_rel_Of : List Nat := [0, 14, 1, 19, 18, 20, 17, 8, 42, 6, 4, 5]

def L_rel_Ring (n_rel_Plus : Nat) : LCode :=
 .seq (
  .region false [⟨(some 2), (.mv (.cst (.d (.bool false)))), none⟩] []) (
 .seq (
  .seq (
   .region false [⟨(some 5), (.mv (.tmp 0)), none⟩,
     ⟨(some 6), (.call 0 true (.cst (.d (.fn n_rel_Plus))) [(.tmp 5)]), none⟩,
     ⟨(some 7), (.len (.tmp 6)), none⟩,
     ⟨(some 8), (.mv (.cst (.d (.int .i64 0)))), none⟩] []) (
  .block 0 (
   .loop (
    .seq (
     .region false [⟨(some 9), (.bin .lss (.tmp 8) (.tmp 7)), none⟩] []) (
    .seq (
     .cond (.tmp 9) (
      .skip) (
      (.exit 0))) (
    .seq (
     .block 1 (
      .seq (
       .region false [⟨(some 10), (.mv (.tmp 8)), none⟩,
         ⟨(some 11), (.idxAddr 1 (.tmp 6) (.tmp 8)), none⟩,
         ⟨(some 12), (.load false 1 (.tmp 11)), none⟩,
         ⟨(some 3), (.mv (.tmp 10)), none⟩,
         ⟨(some 4), (.mv (.tmp 12)), none⟩] []) (
      .seq (
       .region false [⟨(some 13), (.mv (.tmp 4)), none⟩,
         ⟨(some 14), (.mv (.tmp 3)), none⟩,
         ⟨(some 15), (.conv .u64 (.tmp 14)), none⟩,
         ⟨(some 16), (.bin .shr (.tmp 13) (.tmp 15)), none⟩,
         ⟨(some 17), (.bin .and (.tmp 16) (.cst (.d (.int .u64 1)))), none⟩,
         ⟨(some 18), (.bin .eql (.tmp 17) (.cst (.d (.int .u64 1)))), none⟩] []) (
      .cond (.tmp 18) (
       .seq (
        .region false [⟨(some 2), (.mv (.cst (.d (.bool true)))), none⟩] []) (
       .ret)) (
       .skip))))) (
    .region false [⟨(some 19), (.bin .add (.tmp 8) (.cst (.d (.int .i64 1)))), none⟩, ⟨(some 8), (.mv (.tmp 19)), none⟩] []))))))) (
 .seq (
  .region false [⟨(some 2), (.mv (.cst (.d (.bool false)))), none⟩] []) (
 .ret)))
def R_rel_Ring : List LRes := [(.tmp 2)]
def V_rel_Ring : List Nat := [0, 8, 7, 9, 6, 4, 3, 18, 2]

def L_rel_Has (n_rel_size : Nat) : LCode :=
 .seq (
  .region false [⟨(some 6), (.mv (.cst (.d (.bool false)))), none⟩] []) (
 .seq (
  .region false [⟨(some 8), (.mv (.tmp 0)), none⟩,
    ⟨(some 9), (.call 0 false (.cst (.d (.fn n_rel_size))) [(.tmp 8)]), none⟩,
    ⟨(some 7), (.mv (.tmp 9)), none⟩] []) (
 .seq (
  .region false [⟨(some 10), (.mv (.tmp 1)), none⟩,
    ⟨(some 11), (.bin .geq (.tmp 10) (.cst (.d (.int .i64 0)))), none⟩,
    ⟨(some 12), (.mv (.tmp 11)), none⟩,
    ⟨(some 13), (.mv (.tmp 1)), (some (12, true))⟩,
    ⟨(some 14), (.mv (.tmp 7)), (some (12, true))⟩,
    ⟨(some 15), (.bin .lss (.tmp 13) (.tmp 14)), (some (12, true))⟩,
    ⟨(some 16), (.pick (.tmp 12) (.tmp 15) (.cst (.d (.bool false)))), none⟩,
    ⟨(some 17), (.mv (.tmp 16)), none⟩,
    ⟨(some 18), (.mv (.tmp 2)), (some (17, true))⟩,
    ⟨(some 19), (.bin .geq (.tmp 18) (.cst (.d (.int .i64 0)))), (some (17, true))⟩,
    ⟨(some 20), (.pick (.tmp 17) (.tmp 19) (.cst (.d (.bool false)))), none⟩,
    ⟨(some 21), (.mv (.tmp 20)), none⟩,
    ⟨(some 22), (.mv (.tmp 2)), (some (21, true))⟩,
    ⟨(some 23), (.mv (.tmp 7)), (some (21, true))⟩,
    ⟨(some 24), (.bin .lss (.tmp 22) (.tmp 23)), (some (21, true))⟩,
    ⟨(some 25), (.pick (.tmp 21) (.tmp 24) (.cst (.d (.bool false)))), none⟩,
    ⟨(some 26), (.mv (.tmp 25)), none⟩,
    ⟨(some 27), (.mv (.tmp 0)), (some (26, true))⟩,
    ⟨(some 28), (.mv (.tmp 1)), (some (26, true))⟩,
    ⟨(some 29), (.idxAddr 1 (.tmp 27) (.tmp 28)), (some (26, true))⟩,
    ⟨(some 30), (.load false 1 (.tmp 29)), (some (26, true))⟩,
    ⟨(some 31), (.mv (.tmp 2)), (some (26, true))⟩,
    ⟨(some 32), (.conv .u64 (.tmp 31)), (some (26, true))⟩,
    ⟨(some 33), (.bin .shr (.tmp 30) (.tmp 32)), (some (26, true))⟩,
    ⟨(some 34), (.bin .and (.tmp 33) (.cst (.d (.int .u64 1)))), (some (26, true))⟩,
    ⟨(some 35), (.bin .eql (.tmp 34) (.cst (.d (.int .u64 1)))), (some (26, true))⟩,
    ⟨(some 36), (.pick (.tmp 26) (.tmp 35) (.cst (.d (.bool false)))), none⟩,
    ⟨(some 6), (.mv (.tmp 36)), none⟩] []) (
 .ret)))
def R_rel_Has : List LRes := [(.tmp 6)]
def V_rel_Has : List Nat := [0, 1, 7, 2, 6]

def L_rel_Back (n_rel_size : Nat) (n_rel_row : Nat) (n_math_bits_TrailingZeros64 : Nat) : LCode :=
 .seq (
  .region false [⟨(some 2), (.mv (.cst (.d (.list [] true)))), none⟩] []) (
 .seq (
  .region false [⟨(some 6), (.mv (.tmp 0)), none⟩,
    ⟨(some 7), (.call 0 false (.cst (.d (.fn n_rel_size))) [(.tmp 6)]), none⟩,
    ⟨(some 8), (.mkslice 0 1 8 [(.d (.int .u64 0))] (.tmp 7) (.tmp 7)), none⟩,
    ⟨(some 3), (.mv (.tmp 8)), none⟩] []) (
 .seq (
  .seq (
   .region false [⟨(some 9), (.mv (.tmp 3)), none⟩,
     ⟨(some 10), (.len (.tmp 9)), none⟩,
     ⟨(some 11), (.mv (.cst (.d (.int .i64 0)))), none⟩] []) (
  .block 0 (
   .loop (
    .seq (
     .region false [⟨(some 12), (.bin .lss (.tmp 11) (.tmp 10)), none⟩] []) (
    .seq (
     .cond (.tmp 12) (
      .skip) (
      (.exit 0))) (
    .seq (
     .block 1 (
      .seq (
       .region false [⟨(some 13), (.mv (.tmp 11)), none⟩, ⟨(some 4), (.mv (.tmp 13)), none⟩] []) (
      .seq (
       .region false [⟨(some 14), (.mv (.tmp 0)), none⟩,
         ⟨(some 15), (.mv (.tmp 4)), none⟩,
         ⟨(some 16), (.call 0 false (.cst (.d (.fn n_rel_row))) [(.tmp 14), (.tmp 15)]), none⟩,
         ⟨(some 5), (.mv (.tmp 16)), none⟩] []) (
      .block 2 (
       .loop (
        .seq (
         .seq (
          .region false [⟨(some 17), (.mv (.tmp 5)), none⟩, ⟨(some 18), (.bin .neq (.tmp 17) (.cst (.d (.int .u64 0)))), none⟩] []) (
         .cond (.tmp 18) (
          .skip) (
          (.exit 2)))) (
        .seq (
         .block 3 (
          .region false [⟨(some 23), (.mv (.tmp 3)), none⟩,
            ⟨(some 24), (.mv (.tmp 5)), none⟩,
            ⟨(some 25), (.call 0 false (.cst (.d (.fn n_math_bits_TrailingZeros64))) [(.tmp 24)]), none⟩,
            ⟨(some 26), (.idxAddr 1 (.tmp 23) (.tmp 25)), none⟩,
            ⟨(some 27), (.load false 1 (.tmp 26)), none⟩,
            ⟨(some 28), (.mv (.tmp 4)), none⟩,
            ⟨(some 29), (.conv .u64 (.tmp 28)), none⟩,
            ⟨(some 30), (.bin .shl (.cst (.d (.int .u64 1))) (.tmp 29)), none⟩,
            ⟨(some 31), (.bin .or (.tmp 27) (.tmp 30)), none⟩,
            ⟨(some 32), (.idxAddr 1 (.tmp 23) (.tmp 25)), none⟩,
            ⟨none, (.store 1 (.tmp 32) (.tmp 31)), none⟩] [])) (
        .region false [⟨(some 19), (.mv (.tmp 5)), none⟩,
          ⟨(some 20), (.mv (.tmp 5)), none⟩,
          ⟨(some 21), (.bin .sub (.tmp 20) (.cst (.d (.int .u64 1)))), none⟩,
          ⟨(some 22), (.bin .and (.tmp 19) (.tmp 21)), none⟩,
          ⟨(some 5), (.mv (.tmp 22)), none⟩] [])))))))) (
    .region false [⟨(some 33), (.bin .add (.tmp 11) (.cst (.d (.int .i64 1)))), none⟩, ⟨(some 11), (.mv (.tmp 33)), none⟩] []))))))) (
 .seq (
  .region false [⟨(some 34), (.mv (.tmp 3)), none⟩, ⟨(some 2), (.mv (.tmp 34)), none⟩] []) (
 .ret))))
def R_rel_Back : List LRes := [(.tmp 2)]
def V_rel_Back : List Nat := [0, 3, 11, 10, 12, 4, 5, 18, 2]

def L_rel_Plus (n_rel_lay : Nat) (n_rel_Plus_1 : Nat) : LCode :=
 .seq (
  .region false [⟨(some 2), (.mv (.cst (.d (.list [] true)))), none⟩] []) (
 .seq (
  .region false [⟨(some 6), (.mv (.tmp 0)), none⟩,
    ⟨(some 7), (.call 0 true (.cst (.d (.fn n_rel_lay))) [(.tmp 6), (.cst (.d (.list [] true))), (.cst (.d (.fn n_rel_Plus_1)))]), none⟩,
    ⟨(some 3), (.mv (.tmp 7)), none⟩] []) (
 .seq (
  .seq (
   .region false [⟨(some 8), (.mv (.tmp 3)), none⟩,
     ⟨(some 9), (.len (.tmp 8)), none⟩,
     ⟨(some 10), (.mv (.cst (.d (.int .i64 0)))), none⟩] []) (
  .block 0 (
   .loop (
    .seq (
     .region false [⟨(some 11), (.bin .lss (.tmp 10) (.tmp 9)), none⟩] []) (
    .seq (
     .cond (.tmp 11) (
      .skip) (
      (.exit 0))) (
    .seq (
     .block 1 (
      .seq (
       .region false [⟨(some 12), (.mv (.tmp 10)), none⟩, ⟨(some 4), (.mv (.tmp 12)), none⟩] []) (
      .seq (
       .region false [⟨(some 13), (.mv (.tmp 3)), none⟩,
         ⟨(some 14), (.len (.tmp 13)), none⟩,
         ⟨(some 15), (.mv (.cst (.d (.int .i64 0)))), none⟩] []) (
      .block 2 (
       .loop (
        .seq (
         .region false [⟨(some 16), (.bin .lss (.tmp 15) (.tmp 14)), none⟩] []) (
        .seq (
         .cond (.tmp 16) (
          .skip) (
          (.exit 2))) (
        .seq (
         .block 3 (
          .seq (
           .region false [⟨(some 17), (.mv (.tmp 15)), none⟩, ⟨(some 5), (.mv (.tmp 17)), none⟩] []) (
          .seq (
           .region false [⟨(some 18), (.mv (.tmp 3)), none⟩,
             ⟨(some 19), (.mv (.tmp 5)), none⟩,
             ⟨(some 20), (.idxAddr 1 (.tmp 18) (.tmp 19)), none⟩,
             ⟨(some 21), (.load false 1 (.tmp 20)), none⟩,
             ⟨(some 22), (.mv (.tmp 4)), none⟩,
             ⟨(some 23), (.conv .u64 (.tmp 22)), none⟩,
             ⟨(some 24), (.bin .shr (.tmp 21) (.tmp 23)), none⟩,
             ⟨(some 25), (.bin .and (.tmp 24) (.cst (.d (.int .u64 1)))), none⟩,
             ⟨(some 26), (.bin .eql (.tmp 25) (.cst (.d (.int .u64 1)))), none⟩] []) (
          .cond (.tmp 26) (
           .region true [⟨(some 27), (.mv (.tmp 3)), none⟩,
             ⟨(some 28), (.mv (.tmp 5)), none⟩,
             ⟨(some 29), (.idxAddr 1 (.tmp 27) (.tmp 28)), none⟩,
             ⟨(some 30), (.load false 1 (.tmp 29)), none⟩,
             ⟨(some 31), (.mv (.tmp 3)), none⟩,
             ⟨(some 32), (.mv (.tmp 4)), none⟩,
             ⟨(some 33), (.idxAddr 1 (.tmp 31) (.tmp 32)), none⟩,
             ⟨(some 34), (.load false 1 (.tmp 33)), none⟩,
             ⟨(some 35), (.bin .or (.tmp 30) (.tmp 34)), none⟩,
             ⟨(some 36), (.idxAddr 1 (.tmp 27) (.tmp 28)), none⟩,
             ⟨none, (.store 1 (.tmp 36) (.tmp 35)), none⟩] []) (
           .skip))))) (
        .region false [⟨(some 37), (.bin .add (.tmp 15) (.cst (.d (.int .i64 1)))), none⟩, ⟨(some 15), (.mv (.tmp 37)), none⟩] []))))))))) (
    .region false [⟨(some 38), (.bin .add (.tmp 10) (.cst (.d (.int .i64 1)))), none⟩, ⟨(some 10), (.mv (.tmp 38)), none⟩] []))))))) (
 .seq (
  .region false [⟨(some 39), (.mv (.tmp 3)), none⟩, ⟨(some 2), (.mv (.tmp 39)), none⟩] []) (
 .ret))))
def R_rel_Plus : List LRes := [(.tmp 2)]
def V_rel_Plus : List Nat := [0, 3, 10, 9, 11, 15, 14, 16, 5, 4, 26, 2]

def L_rel_Union (n_rel_lay : Nat) (n_rel_Union_1 : Nat) : LCode :=
 .seq (
  .region false [⟨(some 4), (.mv (.cst (.d (.list [] true)))), none⟩] []) (
 .seq (
  .region false [⟨(some 5), (.mv (.tmp 0)), none⟩,
    ⟨(some 6), (.mv (.tmp 1)), none⟩,
    ⟨(some 7), (.call 0 true (.cst (.d (.fn n_rel_lay))) [(.tmp 5), (.tmp 6), (.cst (.d (.fn n_rel_Union_1)))]), none⟩,
    ⟨(some 4), (.mv (.tmp 7)), none⟩] []) (
 .ret))
def R_rel_Union : List LRes := [(.tmp 4)]
def V_rel_Union : List Nat := [0, 1, 4]

def L_rel_Then (n_rel_size : Nat) (n_rel_row : Nat) (n_math_bits_TrailingZeros64 : Nat) : LCode :=
 .seq (
  .region false [⟨(some 4), (.mv (.cst (.d (.list [] true)))), none⟩] []) (
 .seq (
  .region false [⟨(some 8), (.mv (.tmp 0)), none⟩,
    ⟨(some 9), (.call 0 false (.cst (.d (.fn n_rel_size))) [(.tmp 8)]), none⟩,
    ⟨(some 10), (.mv (.tmp 1)), none⟩,
    ⟨(some 11), (.call 0 false (.cst (.d (.fn n_rel_size))) [(.tmp 10)]), none⟩,
    ⟨(some 12), (.maxi (.tmp 9) (.tmp 11)), none⟩,
    ⟨(some 13), (.mkslice 0 1 8 [(.d (.int .u64 0))] (.tmp 12) (.tmp 12)), none⟩,
    ⟨(some 5), (.mv (.tmp 13)), none⟩] []) (
 .seq (
  .seq (
   .region false [⟨(some 14), (.mv (.tmp 5)), none⟩,
     ⟨(some 15), (.len (.tmp 14)), none⟩,
     ⟨(some 16), (.mv (.cst (.d (.int .i64 0)))), none⟩] []) (
  .block 0 (
   .loop (
    .seq (
     .region false [⟨(some 17), (.bin .lss (.tmp 16) (.tmp 15)), none⟩] []) (
    .seq (
     .cond (.tmp 17) (
      .skip) (
      (.exit 0))) (
    .seq (
     .block 1 (
      .seq (
       .region false [⟨(some 18), (.mv (.tmp 16)), none⟩, ⟨(some 6), (.mv (.tmp 18)), none⟩] []) (
      .seq (
       .region false [⟨(some 19), (.mv (.tmp 0)), none⟩,
         ⟨(some 20), (.mv (.tmp 6)), none⟩,
         ⟨(some 21), (.call 0 false (.cst (.d (.fn n_rel_row))) [(.tmp 19), (.tmp 20)]), none⟩,
         ⟨(some 7), (.mv (.tmp 21)), none⟩] []) (
      .block 2 (
       .loop (
        .seq (
         .seq (
          .region false [⟨(some 22), (.mv (.tmp 7)), none⟩, ⟨(some 23), (.bin .neq (.tmp 22) (.cst (.d (.int .u64 0)))), none⟩] []) (
         .cond (.tmp 23) (
          .skip) (
          (.exit 2)))) (
        .seq (
         .block 3 (
          .region true [⟨(some 28), (.mv (.tmp 5)), none⟩,
            ⟨(some 29), (.mv (.tmp 6)), none⟩,
            ⟨(some 30), (.idxAddr 1 (.tmp 28) (.tmp 29)), none⟩,
            ⟨(some 31), (.load false 1 (.tmp 30)), none⟩,
            ⟨(some 32), (.mv (.tmp 1)), none⟩,
            ⟨(some 33), (.mv (.tmp 7)), none⟩,
            ⟨(some 34), (.call 0 false (.cst (.d (.fn n_math_bits_TrailingZeros64))) [(.tmp 33)]), none⟩,
            ⟨(some 35), (.call 0 false (.cst (.d (.fn n_rel_row))) [(.tmp 32), (.tmp 34)]), none⟩,
            ⟨(some 36), (.bin .or (.tmp 31) (.tmp 35)), none⟩,
            ⟨(some 37), (.idxAddr 1 (.tmp 28) (.tmp 29)), none⟩,
            ⟨none, (.store 1 (.tmp 37) (.tmp 36)), none⟩] [(3, 6), (3, 7)])) (
        .region false [⟨(some 24), (.mv (.tmp 7)), none⟩,
          ⟨(some 25), (.mv (.tmp 7)), none⟩,
          ⟨(some 26), (.bin .sub (.tmp 25) (.cst (.d (.int .u64 1)))), none⟩,
          ⟨(some 27), (.bin .and (.tmp 24) (.tmp 26)), none⟩,
          ⟨(some 7), (.mv (.tmp 27)), none⟩] [])))))))) (
    .region false [⟨(some 38), (.bin .add (.tmp 16) (.cst (.d (.int .i64 1)))), none⟩, ⟨(some 16), (.mv (.tmp 38)), none⟩] []))))))) (
 .seq (
  .region false [⟨(some 39), (.mv (.tmp 5)), none⟩, ⟨(some 4), (.mv (.tmp 39)), none⟩] []) (
 .ret))))
def R_rel_Then : List LRes := [(.tmp 4)]
def V_rel_Then : List Nat := [0, 1, 5, 16, 15, 17, 6, 7, 23, 4]

def L_rel_Inter (n_rel_lay : Nat) (n_rel_Inter_1 : Nat) : LCode :=
 .seq (
  .region false [⟨(some 4), (.mv (.cst (.d (.list [] true)))), none⟩] []) (
 .seq (
  .region false [⟨(some 5), (.mv (.tmp 0)), none⟩,
    ⟨(some 6), (.mv (.tmp 1)), none⟩,
    ⟨(some 7), (.call 0 true (.cst (.d (.fn n_rel_lay))) [(.tmp 5), (.tmp 6), (.cst (.d (.fn n_rel_Inter_1)))]), none⟩,
    ⟨(some 4), (.mv (.tmp 7)), none⟩] []) (
 .ret))
def R_rel_Inter : List LRes := [(.tmp 4)]
def V_rel_Inter : List Nat := [0, 1, 4]

def L_rel_size : LCode :=
 .seq (
  .region false [⟨(some 2), (.mv (.cst (.d (.int .i64 0)))), none⟩] []) (
 .seq (
  .region false [⟨(some 3), (.mv (.tmp 0)), none⟩,
    ⟨(some 4), (.len (.tmp 3)), none⟩,
    ⟨(some 5), (.mini (.tmp 4) (.cst (.d (.int .i64 64)))), none⟩,
    ⟨(some 2), (.mv (.tmp 5)), none⟩] []) (
 .ret))
def R_rel_size : List LRes := [(.tmp 2)]
def V_rel_size : List Nat := [0, 2]

def L_rel_row (n_rel_size : Nat) (n_rel_all : Nat) : LCode :=
 .seq (
  .region false [⟨(some 4), (.mv (.cst (.d (.int .u64 0)))), none⟩] []) (
 .seq (
  .seq (
   .region false [⟨(some 6), (.mv (.tmp 0)), none⟩,
     ⟨(some 7), (.call 0 false (.cst (.d (.fn n_rel_size))) [(.tmp 6)]), none⟩,
     ⟨(some 5), (.mv (.tmp 7)), none⟩] []) (
  .seq (
   .region false [⟨(some 8), (.mv (.tmp 1)), none⟩,
     ⟨(some 9), (.mv (.tmp 5)), none⟩,
     ⟨(some 10), (.bin .lss (.tmp 8) (.tmp 9)), none⟩] []) (
  .cond (.tmp 10) (
   .seq (
    .region true [⟨(some 11), (.mv (.tmp 0)), none⟩,
      ⟨(some 12), (.mv (.tmp 1)), none⟩,
      ⟨(some 13), (.idxAddr 1 (.tmp 11) (.tmp 12)), none⟩,
      ⟨(some 14), (.load false 1 (.tmp 13)), none⟩,
      ⟨(some 15), (.mv (.tmp 5)), none⟩,
      ⟨(some 16), (.call 0 false (.cst (.d (.fn n_rel_all))) [(.tmp 15)]), none⟩,
      ⟨(some 17), (.bin .and (.tmp 14) (.tmp 16)), none⟩,
      ⟨(some 4), (.mv (.tmp 17)), none⟩] [(3, 5)]) (
   .ret)) (
   .skip)))) (
 .seq (
  .region false [⟨(some 4), (.mv (.cst (.d (.int .u64 0)))), none⟩] []) (
 .ret)))
def R_rel_row : List LRes := [(.tmp 4)]
def V_rel_row : List Nat := [0, 1, 5, 10, 4]

def L_rel_lay (n_rel_size : Nat) (n_rel_row : Nat) : LCode :=
 .seq (
  .region false [⟨(some 6), (.mv (.cst (.d (.list [] true)))), none⟩] []) (
 .seq (
  .region false [⟨(some 9), (.mv (.tmp 0)), none⟩,
    ⟨(some 10), (.call 0 false (.cst (.d (.fn n_rel_size))) [(.tmp 9)]), none⟩,
    ⟨(some 11), (.mv (.tmp 1)), none⟩,
    ⟨(some 12), (.call 0 false (.cst (.d (.fn n_rel_size))) [(.tmp 11)]), none⟩,
    ⟨(some 13), (.maxi (.tmp 10) (.tmp 12)), none⟩,
    ⟨(some 14), (.mkslice 0 1 8 [(.d (.int .u64 0))] (.tmp 13) (.tmp 13)), none⟩,
    ⟨(some 7), (.mv (.tmp 14)), none⟩] []) (
 .seq (
  .seq (
   .region false [⟨(some 15), (.mv (.tmp 7)), none⟩,
     ⟨(some 16), (.len (.tmp 15)), none⟩,
     ⟨(some 17), (.mv (.cst (.d (.int .i64 0)))), none⟩] []) (
  .block 0 (
   .loop (
    .seq (
     .region false [⟨(some 18), (.bin .lss (.tmp 17) (.tmp 16)), none⟩] []) (
    .seq (
     .cond (.tmp 18) (
      .skip) (
      (.exit 0))) (
    .seq (
     .block 1 (
      .seq (
       .region false [⟨(some 19), (.mv (.tmp 17)), none⟩, ⟨(some 8), (.mv (.tmp 19)), none⟩] []) (
      .region false [⟨(some 20), (.mv (.tmp 7)), none⟩,
        ⟨(some 21), (.mv (.tmp 8)), none⟩,
        ⟨(some 22), (.mv (.tmp 2)), none⟩,
        ⟨(some 23), (.mv (.tmp 0)), none⟩,
        ⟨(some 24), (.mv (.tmp 8)), none⟩,
        ⟨(some 25), (.call 0 false (.cst (.d (.fn n_rel_row))) [(.tmp 23), (.tmp 24)]), none⟩,
        ⟨(some 26), (.mv (.tmp 1)), none⟩,
        ⟨(some 27), (.mv (.tmp 8)), none⟩,
        ⟨(some 28), (.call 0 false (.cst (.d (.fn n_rel_row))) [(.tmp 26), (.tmp 27)]), none⟩,
        ⟨(some 29), (.call 0 false (.tmp 22) [(.tmp 25), (.tmp 28)]), none⟩,
        ⟨(some 30), (.idxAddr 1 (.tmp 20) (.tmp 21)), none⟩,
        ⟨none, (.store 1 (.tmp 30) (.tmp 29)), none⟩] []))) (
    .region false [⟨(some 31), (.bin .add (.tmp 17) (.cst (.d (.int .i64 1)))), none⟩, ⟨(some 17), (.mv (.tmp 31)), none⟩] []))))))) (
 .seq (
  .region false [⟨(some 32), (.mv (.tmp 7)), none⟩, ⟨(some 6), (.mv (.tmp 32)), none⟩] []) (
 .ret))))
def R_rel_lay : List LRes := [(.tmp 6)]
def V_rel_lay : List Nat := [0, 1, 7, 17, 16, 18, 8, 2, 6]

def L_rel_Plus_1 : LCode :=
 .seq (
  .region false [⟨(some 4), (.mv (.cst (.d (.int .u64 0)))), none⟩] []) (
 .seq (
  .region false [⟨(some 5), (.mv (.tmp 0)), none⟩, ⟨(some 4), (.mv (.tmp 5)), none⟩] []) (
 .ret))
def R_rel_Plus_1 : List LRes := [(.tmp 4)]
def V_rel_Plus_1 : List Nat := [0, 4]

def L_rel_Union_1 : LCode :=
 .seq (
  .region false [⟨(some 4), (.mv (.cst (.d (.int .u64 0)))), none⟩] []) (
 .seq (
  .region false [⟨(some 5), (.mv (.tmp 0)), none⟩,
    ⟨(some 6), (.mv (.tmp 1)), none⟩,
    ⟨(some 7), (.bin .or (.tmp 5) (.tmp 6)), none⟩,
    ⟨(some 4), (.mv (.tmp 7)), none⟩] []) (
 .ret))
def R_rel_Union_1 : List LRes := [(.tmp 4)]
def V_rel_Union_1 : List Nat := [0, 1, 4]

def L_rel_Inter_1 : LCode :=
 .seq (
  .region false [⟨(some 4), (.mv (.cst (.d (.int .u64 0)))), none⟩] []) (
 .seq (
  .region false [⟨(some 5), (.mv (.tmp 0)), none⟩,
    ⟨(some 6), (.mv (.tmp 1)), none⟩,
    ⟨(some 7), (.bin .and (.tmp 5) (.tmp 6)), none⟩,
    ⟨(some 4), (.mv (.tmp 7)), none⟩] []) (
 .ret))
def R_rel_Inter_1 : List LRes := [(.tmp 4)]
def V_rel_Inter_1 : List Nat := [0, 1, 4]

def L_rel_all : LCode :=
 .seq (
  .region false [⟨(some 2), (.mv (.cst (.d (.int .u64 0)))), none⟩] []) (
 .seq (
  .seq (
   .region false [⟨(some 3), (.mv (.tmp 0)), none⟩, ⟨(some 4), (.bin .geq (.tmp 3) (.cst (.d (.int .i64 64)))), none⟩] []) (
  .cond (.tmp 4) (
   .seq (
    .region false [⟨(some 2), (.mv (.cst (.d (.int .u64 18446744073709551615)))), none⟩] []) (
   .ret)) (
   .skip))) (
 .seq (
  .region false [⟨(some 5), (.mv (.tmp 0)), none⟩,
    ⟨(some 6), (.conv .u64 (.tmp 5)), none⟩,
    ⟨(some 7), (.bin .shl (.cst (.d (.int .u64 1))) (.tmp 6)), none⟩,
    ⟨(some 8), (.bin .sub (.tmp 7) (.cst (.d (.int .u64 1)))), none⟩,
    ⟨(some 2), (.mv (.tmp 8)), none⟩] []) (
 .ret)))
def R_rel_all : List LRes := [(.tmp 2)]
def V_rel_all : List Nat := [0, 4, 2]

end Go.Ago

/- Lowered functions of a package, callees by their numbers. Printed by a program of this session. Conditions: none. -/
set_option maxRecDepth 100000
set_option linter.unusedVariables false
namespace Go.Ago
def L_math_bits_TrailingZeros64 : LCode :=
 .seq (
  .region false [⟨(some 2), (.mv (.cst (.d (.int .i64 0)))), none⟩] []) (
 .seq (
  .seq (
   .region false [⟨(some 3), (.mv (.tmp 0)), none⟩, ⟨(some 4), (.bin .eql (.tmp 3) (.cst (.d (.int .u64 0)))), none⟩] []) (
  .cond (.tmp 4) (
   .seq (
    .region false [⟨(some 2), (.mv (.cst (.d (.int .i64 64)))), none⟩] []) (
   .ret)) (
   .skip))) (
 .seq (
  .region false [⟨(some 5), (.mv (.tmp 0)), none⟩,
    ⟨(some 6), (.mv (.tmp 0)), none⟩,
    ⟨(some 7), (.un .neg (.tmp 6)), none⟩,
    ⟨(some 8), (.bin .and (.tmp 5) (.tmp 7)), none⟩,
    ⟨(some 9), (.bin .mul (.tmp 8) (.cst (.d (.int .u64 285870213051353865)))), none⟩,
    ⟨(some 10), (.bin .shr (.tmp 9) (.cst (.d (.int .u64 58)))), none⟩,
    ⟨(some 11), (.idxArrAddr 64 1 (.cst (.dptr tabCells 0)) (.tmp 10)), none⟩,
    ⟨(some 12), (.load false 1 (.tmp 11)), none⟩,
    ⟨(some 13), (.conv .i64 (.tmp 12)), none⟩,
    ⟨(some 2), (.mv (.tmp 13)), none⟩] []) (
 .ret)))
def R_math_bits_TrailingZeros64 : List LRes := [(.tmp 2)]
def V_math_bits_TrailingZeros64 : List Nat := [0, 4, 2]

end Go.Ago

/- Lowered functions of a package, callees by their numbers. Printed by a program of this session. Conditions: none. -/
set_option maxRecDepth 100000
set_option linter.unusedVariables false
namespace Go.Ago
end Go.Ago

/- Lowered functions of a package, callees by their numbers. Printed by a program of this session. Conditions: none. -/
set_option maxRecDepth 100000
set_option linter.unusedVariables false
namespace Go.Ago
def L_axiom_Build (n_axiom_Deeds : Nat) (n_axiom_reads : Nat) (n_axiom_writes : Nat) (n_slices_Clone_int : Nat) (n_slices_Sort_int : Nat) (n_slices_Equal_int : Nat) (n_slices_Clone_api_Loc : Nat) (n_rel_Of : Nat) : LCode :=
 .seq (
  .region false [⟨(some 8), (.alloc 0 4 [(.d (.list [] true)), (.d (.list [] true)), (.d (.list [] true)), (.d (.list [] true))]), none⟩, ⟨(some 9), (.mv (.cst (.d (.int .i64 0)))), none⟩] []) (
 .seq (
  .region false [⟨(some 29), (.mv (.tmp 0)), none⟩,
    ⟨(some 30), (.mv (.tmp 1)), none⟩,
    ⟨(some 31), (.call 0 false (.cst (.d (.fn n_axiom_Deeds))) [(.tmp 29), (.tmp 30)]), none⟩,
    ⟨(some 28), (.mv (.tmp 31)), none⟩,
    ⟨(some 32), (.extract 0 (.tmp 28)), none⟩,
    ⟨(some 33), (.extract 1 (.tmp 28)), none⟩,
    ⟨(some 10), (.mv (.tmp 32)), none⟩,
    ⟨(some 11), (.mv (.tmp 33)), none⟩] []) (
 .seq (
  .seq (
   .region false [⟨(some 34), (.mv (.tmp 11)), none⟩, ⟨(some 35), (.bin .neq (.tmp 34) (.cst (.d (.int .i64 0)))), none⟩] []) (
  .cond (.tmp 35) (
   .seq (
    .region false [⟨(some 36), (.build [(.d (.list [] true)), (.d (.list [] true)), (.d (.list [] true)), (.d (.list [] true))] []), none⟩,
      ⟨(some 37), (.mv (.tmp 11)), none⟩,
      ⟨none, (.store 4 (.tmp 8) (.tmp 36)), none⟩,
      ⟨(some 9), (.mv (.tmp 37)), none⟩] []) (
   .ret)) (
   .skip))) (
 .seq (
  .region false [⟨(some 12), (.mv (.cst (.d (.list [] true)))), none⟩, ⟨(some 13), (.mv (.cst (.d (.list [] true)))), none⟩] []) (
 .seq (
  .seq (
   .region false [⟨(some 38), (.mv (.tmp 10)), none⟩,
     ⟨(some 39), (.len (.tmp 38)), none⟩,
     ⟨(some 40), (.mv (.cst (.d (.int .i64 0)))), none⟩] []) (
  .block 0 (
   .loop (
    .seq (
     .region false [⟨(some 41), (.bin .lss (.tmp 40) (.tmp 39)), none⟩] []) (
    .seq (
     .cond (.tmp 41) (
      .skip) (
      (.exit 0))) (
    .seq (
     .block 1 (
      .seq (
       .region false [⟨(some 42), (.mv (.tmp 40)), none⟩,
         ⟨(some 43), (.idxAddr 5 (.tmp 38) (.tmp 40)), none⟩,
         ⟨(some 44), (.load true 5 (.tmp 43)), none⟩,
         ⟨(some 15), (.alloc 0 5 [(.d (.int .i64 0)), (.d (.int .i64 0)), (.d (.int .i64 0)), (.d (.int .i64 0)), (.d (.int .i64 0))]), none⟩,
         ⟨(some 14), (.mv (.tmp 42)), none⟩,
         ⟨none, (.store 5 (.tmp 15) (.tmp 44)), none⟩] []) (
      .seq (
       .seq (
        .region false [⟨(some 45), (.load true 5 (.tmp 15)), none⟩,
          ⟨(some 46), (.call 0 false (.cst (.d (.fn n_axiom_reads))) [(.tmp 45)]), none⟩,
          ⟨(some 47), (.un .not (.tmp 46)), none⟩] []) (
       .cond (.tmp 47) (
        (.exit 1)) (
        .skip))) (
      .seq (
       .seq (
        .region false [⟨(some 48), (.mv (.tmp 2)), none⟩,
          ⟨(some 49), (.len (.tmp 48)), none⟩,
          ⟨(some 50), (.bin .eql (.tmp 49) (.cst (.d (.int .i64 0)))), none⟩] []) (
       .cond (.tmp 50) (
        .seq (
         .region false [⟨(some 51), (.build [(.d (.list [] true)), (.d (.list [] true)), (.d (.list [] true)), (.d (.list [] true))] []), none⟩,
           ⟨none, (.store 4 (.tmp 8) (.tmp 51)), none⟩,
           ⟨(some 9), (.mv (.cst (.d (.int .i64 3)))), none⟩] []) (
        .ret)) (
        .skip))) (
      .seq (
       .region false [⟨(some 52), (.mv (.tmp 2)), none⟩,
         ⟨(some 53), (.idxAddr 1 (.tmp 52) (.cst (.d (.int .i64 0)))), none⟩,
         ⟨(some 54), (.load false 1 (.tmp 53)), none⟩,
         ⟨(some 16), (.mv (.tmp 54)), none⟩] []) (
      .seq (
       .region false [⟨(some 55), (.mv (.tmp 2)), none⟩,
         ⟨(some 56), (.slice 1 (.tmp 55) (some (.cst (.d (.int .i64 1)))) none none), none⟩,
         ⟨(some 2), (.mv (.tmp 56)), none⟩] []) (
      .seq (
       .seq (
        .region true [⟨(some 57), (.mv (.tmp 16)), none⟩,
          ⟨(some 58), (.bin .lss (.tmp 57) (.cst (.d (.int .i64 0)))), none⟩,
          ⟨(some 59), (.mv (.tmp 58)), none⟩,
          ⟨(some 60), (.mv (.tmp 16)), (some (59, false))⟩,
          ⟨(some 61), (.mv (.tmp 10)), (some (59, false))⟩,
          ⟨(some 62), (.len (.tmp 61)), (some (59, false))⟩,
          ⟨(some 63), (.bin .geq (.tmp 60) (.tmp 62)), (some (59, false))⟩,
          ⟨(some 64), (.pick (.tmp 59) (.cst (.d (.bool true))) (.tmp 63)), none⟩,
          ⟨(some 65), (.mv (.tmp 64)), none⟩,
          ⟨(some 66), (.mv (.tmp 16)), (some (65, false))⟩,
          ⟨(some 67), (.mv (.tmp 14)), (some (65, false))⟩,
          ⟨(some 68), (.bin .eql (.tmp 66) (.tmp 67)), (some (65, false))⟩,
          ⟨(some 69), (.pick (.tmp 65) (.cst (.d (.bool true))) (.tmp 68)), none⟩,
          ⟨(some 70), (.mv (.tmp 69)), none⟩,
          ⟨(some 71), (.mv (.tmp 10)), (some (70, false))⟩,
          ⟨(some 72), (.mv (.tmp 16)), (some (70, false))⟩,
          ⟨(some 73), (.idxAddr 5 (.tmp 71) (.tmp 72)), (some (70, false))⟩,
          ⟨(some 74), (.load true 5 (.tmp 73)), (some (70, false))⟩,
          ⟨(some 75), (.call 0 false (.cst (.d (.fn n_axiom_writes))) [(.tmp 74)]), (some (70, false))⟩,
          ⟨(some 76), (.un .not (.tmp 75)), (some (70, false))⟩,
          ⟨(some 77), (.pick (.tmp 70) (.cst (.d (.bool true))) (.tmp 76)), none⟩,
          ⟨(some 78), (.mv (.tmp 77)), none⟩,
          ⟨(some 79), (.mv (.tmp 10)), (some (78, false))⟩,
          ⟨(some 80), (.mv (.tmp 16)), (some (78, false))⟩,
          ⟨(some 81), (.idxAddr 5 (.tmp 79) (.tmp 80)), (some (78, false))⟩,
          ⟨(some 82), (.fieldAddr 1 (.tmp 81)), (some (78, false))⟩,
          ⟨(some 83), (.fieldAddr 1 (.tmp 82)), (some (78, false))⟩,
          ⟨(some 84), (.load false 1 (.tmp 83)), (some (78, false))⟩,
          ⟨(some 85), (.fieldAddr 1 (.tmp 15)), (some (78, false))⟩,
          ⟨(some 86), (.fieldAddr 1 (.tmp 85)), (some (78, false))⟩,
          ⟨(some 87), (.load false 1 (.tmp 86)), (some (78, false))⟩,
          ⟨(some 88), (.bin .neq (.tmp 84) (.tmp 87)), (some (78, false))⟩,
          ⟨(some 89), (.pick (.tmp 78) (.cst (.d (.bool true))) (.tmp 88)), none⟩,
          ⟨(some 90), (.mv (.tmp 89)), none⟩,
          ⟨(some 91), (.mv (.tmp 10)), (some (90, false))⟩,
          ⟨(some 92), (.mv (.tmp 16)), (some (90, false))⟩,
          ⟨(some 93), (.idxAddr 5 (.tmp 91) (.tmp 92)), (some (90, false))⟩,
          ⟨(some 94), (.fieldAddr 1 (.tmp 93)), (some (90, false))⟩,
          ⟨(some 95), (.fieldAddr 3 (.tmp 94)), (some (90, false))⟩,
          ⟨(some 96), (.load false 1 (.tmp 95)), (some (90, false))⟩,
          ⟨(some 97), (.fieldAddr 1 (.tmp 15)), (some (90, false))⟩,
          ⟨(some 98), (.fieldAddr 2 (.tmp 97)), (some (90, false))⟩,
          ⟨(some 99), (.load false 1 (.tmp 98)), (some (90, false))⟩,
          ⟨(some 100), (.bin .neq (.tmp 96) (.tmp 99)), (some (90, false))⟩,
          ⟨(some 101), (.pick (.tmp 90) (.cst (.d (.bool true))) (.tmp 100)), none⟩] []) (
       .cond (.tmp 101) (
        .seq (
         .region false [⟨(some 102), (.build [(.d (.list [] true)), (.d (.list [] true)), (.d (.list [] true)), (.d (.list [] true))] []), none⟩,
           ⟨none, (.store 4 (.tmp 8) (.tmp 102)), none⟩,
           ⟨(some 9), (.mv (.cst (.d (.int .i64 3)))), none⟩] []) (
        .ret)) (
        .skip))) (
      .region false [⟨(some 103), (.mv (.tmp 12)), none⟩,
        ⟨(some 104), (.mv (.tmp 16)), none⟩,
        ⟨(some 105), (.mv (.tmp 14)), none⟩,
        ⟨(some 106), (.build [(.d (.int .i64 0)), (.d (.int .i64 0))] [(0, (1, (.tmp 104))), (1, (1, (.tmp 105)))]), none⟩,
        ⟨(some 107), (.bslice 0 2 1 [(.d (.int .i64 0)), (.d (.int .i64 0))] [(0, (.tmp 106))]), none⟩,
        ⟨(some 108), (.append 1 2 16 (.tmp 103) (.tmp 107)), none⟩,
        ⟨(some 12), (.mv (.tmp 108)), none⟩] [])))))))) (
    .region false [⟨(some 109), (.bin .add (.tmp 40) (.cst (.d (.int .i64 1)))), none⟩, ⟨(some 40), (.mv (.tmp 109)), none⟩] []))))))) (
 .seq (
  .seq (
   .region false [⟨(some 110), (.mv (.tmp 2)), none⟩,
     ⟨(some 111), (.len (.tmp 110)), none⟩,
     ⟨(some 112), (.bin .gtr (.tmp 111) (.cst (.d (.int .i64 0)))), none⟩,
     ⟨(some 113), (.mv (.tmp 112)), none⟩,
     ⟨(some 114), (.mv (.tmp 3)), (some (113, false))⟩,
     ⟨(some 115), (.len (.tmp 114)), (some (113, false))⟩,
     ⟨(some 116), (.mv (.tmp 0)), (some (113, false))⟩,
     ⟨(some 117), (.len (.tmp 116)), (some (113, false))⟩,
     ⟨(some 118), (.bin .neq (.tmp 115) (.tmp 117)), (some (113, false))⟩,
     ⟨(some 119), (.pick (.tmp 113) (.cst (.d (.bool true))) (.tmp 118)), none⟩] []) (
  .cond (.tmp 119) (
   .seq (
    .region false [⟨(some 120), (.build [(.d (.list [] true)), (.d (.list [] true)), (.d (.list [] true)), (.d (.list [] true))] []), none⟩,
      ⟨none, (.store 4 (.tmp 8) (.tmp 120)), none⟩,
      ⟨(some 9), (.mv (.cst (.d (.int .i64 3)))), none⟩] []) (
   .ret)) (
   .skip))) (
 .seq (
  .seq (
   .region false [⟨(some 121), (.mv (.tmp 3)), none⟩,
     ⟨(some 122), (.len (.tmp 121)), none⟩,
     ⟨(some 123), (.mv (.cst (.d (.int .i64 0)))), none⟩] []) (
  .block 2 (
   .loop (
    .seq (
     .region false [⟨(some 124), (.bin .lss (.tmp 123) (.tmp 122)), none⟩] []) (
    .seq (
     .cond (.tmp 124) (
      .skip) (
      (.exit 2))) (
    .seq (
     .block 3 (
      .seq (
       .region false [⟨(some 125), (.mv (.tmp 123)), none⟩,
         ⟨(some 126), (.idxAddr 1 (.tmp 121) (.tmp 123)), none⟩,
         ⟨(some 127), (.load false 1 (.tmp 126)), none⟩,
         ⟨(some 17), (.mv (.tmp 125)), none⟩,
         ⟨(some 18), (.mv (.tmp 127)), none⟩] []) (
      .seq (
       .region false [⟨(some 19), (.mv (.cst (.d (.list [] true)))), none⟩] []) (
      .seq (
       .seq (
        .region false [⟨(some 128), (.mv (.tmp 10)), none⟩,
          ⟨(some 129), (.len (.tmp 128)), none⟩,
          ⟨(some 130), (.mv (.cst (.d (.int .i64 0)))), none⟩] []) (
       .block 4 (
        .loop (
         .seq (
          .region false [⟨(some 131), (.bin .lss (.tmp 130) (.tmp 129)), none⟩] []) (
         .seq (
          .cond (.tmp 131) (
           .skip) (
           (.exit 4))) (
         .seq (
          .block 5 (
           .seq (
            .region false [⟨(some 132), (.mv (.tmp 130)), none⟩,
              ⟨(some 133), (.idxAddr 5 (.tmp 128) (.tmp 130)), none⟩,
              ⟨(some 134), (.load true 5 (.tmp 133)), none⟩,
              ⟨(some 21), (.alloc 0 5 [(.d (.int .i64 0)), (.d (.int .i64 0)), (.d (.int .i64 0)), (.d (.int .i64 0)), (.d (.int .i64 0))]), none⟩,
              ⟨(some 20), (.mv (.tmp 132)), none⟩,
              ⟨none, (.store 5 (.tmp 21) (.tmp 134)), none⟩] []) (
           .seq (
            .region false [⟨(some 135), (.mv (.tmp 20)), none⟩,
              ⟨(some 136), (.mv (.tmp 0)), none⟩,
              ⟨(some 137), (.len (.tmp 136)), none⟩,
              ⟨(some 138), (.bin .geq (.tmp 135) (.tmp 137)), none⟩,
              ⟨(some 139), (.mv (.tmp 138)), none⟩,
              ⟨(some 140), (.load true 5 (.tmp 21)), (some (139, true))⟩,
              ⟨(some 141), (.call 0 false (.cst (.d (.fn n_axiom_writes))) [(.tmp 140)]), (some (139, true))⟩,
              ⟨(some 142), (.pick (.tmp 139) (.tmp 141) (.cst (.d (.bool false)))), none⟩,
              ⟨(some 143), (.mv (.tmp 142)), none⟩,
              ⟨(some 144), (.fieldAddr 1 (.tmp 21)), (some (143, true))⟩,
              ⟨(some 145), (.fieldAddr 1 (.tmp 144)), (some (143, true))⟩,
              ⟨(some 146), (.load false 1 (.tmp 145)), (some (143, true))⟩,
              ⟨(some 147), (.mv (.tmp 17)), (some (143, true))⟩,
              ⟨(some 148), (.bin .eql (.tmp 146) (.tmp 147)), (some (143, true))⟩,
              ⟨(some 149), (.pick (.tmp 143) (.tmp 148) (.cst (.d (.bool false)))), none⟩] []) (
           .cond (.tmp 149) (
            .region false [⟨(some 150), (.mv (.tmp 19)), none⟩,
              ⟨(some 151), (.mv (.tmp 20)), none⟩,
              ⟨(some 152), (.bslice 0 1 1 [(.d (.int .i64 0))] [(0, (.tmp 151))]), none⟩,
              ⟨(some 153), (.append 1 1 8 (.tmp 150) (.tmp 152)), none⟩,
              ⟨(some 19), (.mv (.tmp 153)), none⟩] []) (
            .skip))))) (
         .region false [⟨(some 154), (.bin .add (.tmp 130) (.cst (.d (.int .i64 1)))), none⟩, ⟨(some 130), (.mv (.tmp 154)), none⟩] []))))))) (
      .seq (
       .region false [⟨(some 155), (.mv (.tmp 18)), none⟩,
         ⟨(some 156), (.call 0 true (.cst (.d (.fn n_slices_Clone_int))) [(.tmp 155)]), none⟩,
         ⟨(some 22), (.mv (.tmp 156)), none⟩] []) (
      .seq (
       .region false [⟨(some 157), (.mv (.tmp 22)), none⟩, ⟨(some 158), (.call 0 false (.cst (.d (.fn n_slices_Sort_int))) [(.tmp 157)]), none⟩] []) (
      .seq (
       .seq (
        .region false [⟨(some 159), (.mv (.tmp 22)), none⟩,
          ⟨(some 160), (.mv (.tmp 19)), none⟩,
          ⟨(some 161), (.call 0 false (.cst (.d (.fn n_slices_Equal_int))) [(.tmp 159), (.tmp 160)]), none⟩,
          ⟨(some 162), (.un .not (.tmp 161)), none⟩] []) (
       .cond (.tmp 162) (
        .seq (
         .region false [⟨(some 163), (.build [(.d (.list [] true)), (.d (.list [] true)), (.d (.list [] true)), (.d (.list [] true))] []), none⟩,
           ⟨none, (.store 4 (.tmp 8) (.tmp 163)), none⟩,
           ⟨(some 9), (.mv (.cst (.d (.int .i64 3)))), none⟩] []) (
        .ret)) (
        .skip))) (
      .seq (
       .region false [⟨(some 164), (.mv (.tmp 17)), none⟩,
         ⟨(some 165), (.bslice 0 1 1 [(.d (.int .i64 0))] [(0, (.tmp 164))]), none⟩,
         ⟨(some 166), (.mv (.tmp 18)), none⟩,
         ⟨(some 167), (.append 1 1 8 (.tmp 165) (.tmp 166)), none⟩,
         ⟨(some 23), (.mv (.tmp 167)), none⟩] []) (
      .seq (
       .region false [⟨(some 168), (.mv (.tmp 23)), none⟩,
         ⟨(some 169), (.len (.tmp 168)), none⟩,
         ⟨(some 170), (.mv (.cst (.d (.int .i64 0)))), none⟩] []) (
      .block 6 (
       .loop (
        .seq (
         .region false [⟨(some 171), (.bin .lss (.tmp 170) (.tmp 169)), none⟩] []) (
        .seq (
         .cond (.tmp 171) (
          .skip) (
          (.exit 6))) (
        .seq (
         .block 7 (
          .seq (
           .region false [⟨(some 172), (.mv (.tmp 170)), none⟩, ⟨(some 24), (.mv (.tmp 172)), none⟩] []) (
          .seq (
           .region false [⟨(some 173), (.mv (.tmp 23)), none⟩,
             ⟨(some 174), (.mv (.tmp 24)), none⟩,
             ⟨(some 175), (.bin .add (.tmp 174) (.cst (.d (.int .i64 1)))), none⟩,
             ⟨(some 176), (.slice 1 (.tmp 173) (some (.tmp 175)) none none), none⟩,
             ⟨(some 177), (.len (.tmp 176)), none⟩,
             ⟨(some 178), (.mv (.cst (.d (.int .i64 0)))), none⟩] []) (
          .block 8 (
           .loop (
            .seq (
             .region false [⟨(some 179), (.bin .lss (.tmp 178) (.tmp 177)), none⟩] []) (
            .seq (
             .cond (.tmp 179) (
              .skip) (
              (.exit 8))) (
            .seq (
             .block 9 (
              .seq (
               .region false [⟨(some 180), (.idxAddr 1 (.tmp 176) (.tmp 178)), none⟩,
                 ⟨(some 181), (.load false 1 (.tmp 180)), none⟩,
                 ⟨(some 26), (.mv (.tmp 181)), none⟩] []) (
              .region false [⟨(some 182), (.mv (.tmp 13)), none⟩,
                ⟨(some 183), (.mv (.tmp 23)), none⟩,
                ⟨(some 184), (.mv (.tmp 24)), none⟩,
                ⟨(some 185), (.idxAddr 1 (.tmp 183) (.tmp 184)), none⟩,
                ⟨(some 186), (.load false 1 (.tmp 185)), none⟩,
                ⟨(some 187), (.mv (.tmp 26)), none⟩,
                ⟨(some 188), (.build [(.d (.int .i64 0)), (.d (.int .i64 0))] [(0, (1, (.tmp 186))), (1, (1, (.tmp 187)))]), none⟩,
                ⟨(some 189), (.bslice 0 2 1 [(.d (.int .i64 0)), (.d (.int .i64 0))] [(0, (.tmp 188))]), none⟩,
                ⟨(some 190), (.append 1 2 16 (.tmp 182) (.tmp 189)), none⟩,
                ⟨(some 13), (.mv (.tmp 190)), none⟩] []))) (
            .region false [⟨(some 191), (.bin .add (.tmp 178) (.cst (.d (.int .i64 1)))), none⟩, ⟨(some 178), (.mv (.tmp 191)), none⟩] []))))))))) (
        .region false [⟨(some 192), (.bin .add (.tmp 170) (.cst (.d (.int .i64 1)))), none⟩, ⟨(some 170), (.mv (.tmp 192)), none⟩] []))))))))))))))) (
    .region false [⟨(some 193), (.bin .add (.tmp 123) (.cst (.d (.int .i64 1)))), none⟩, ⟨(some 123), (.mv (.tmp 193)), none⟩] []))))))) (
 .seq (
  .region false [⟨(some 194), (.mv (.tmp 0)), none⟩,
    ⟨(some 195), (.call 0 true (.cst (.d (.fn n_slices_Clone_api_Loc))) [(.tmp 194)]), none⟩,
    ⟨(some 196), (.mv (.tmp 10)), none⟩,
    ⟨(some 197), (.build [(.d (.list [] true)), (.d (.list [] true)), (.d (.list [] true)), (.d (.list [] true))] [(0, (1, (.tmp 195))), (1, (1, (.tmp 196)))]), none⟩,
    ⟨(some 27), (.alloc 1 4 [(.d (.list [] true)), (.d (.list [] true)), (.d (.list [] true)), (.d (.list [] true))]), none⟩,
    ⟨none, (.store 4 (.tmp 27) (.tmp 197)), none⟩] []) (
 .seq (
  .region false [⟨(some 199), (.mv (.tmp 10)), none⟩,
    ⟨(some 200), (.len (.tmp 199)), none⟩,
    ⟨(some 201), (.mv (.tmp 12)), none⟩,
    ⟨(some 202), (.call 0 false (.cst (.d (.fn n_rel_Of))) [(.tmp 200), (.tmp 201)]), none⟩,
    ⟨(some 198), (.mv (.tmp 202)), none⟩,
    ⟨(some 203), (.extract 0 (.tmp 198)), none⟩,
    ⟨(some 204), (.extract 1 (.tmp 198)), none⟩,
    ⟨(some 205), (.fieldAddr 2 (.tmp 27)), none⟩,
    ⟨none, (.store 1 (.tmp 205) (.tmp 203)), none⟩] []) (
 .seq (
  .region false [⟨(some 207), (.mv (.tmp 10)), none⟩,
    ⟨(some 208), (.len (.tmp 207)), none⟩,
    ⟨(some 209), (.mv (.tmp 13)), none⟩,
    ⟨(some 210), (.call 0 false (.cst (.d (.fn n_rel_Of))) [(.tmp 208), (.tmp 209)]), none⟩,
    ⟨(some 206), (.mv (.tmp 210)), none⟩,
    ⟨(some 211), (.extract 0 (.tmp 206)), none⟩,
    ⟨(some 212), (.extract 1 (.tmp 206)), none⟩,
    ⟨(some 213), (.fieldAddr 3 (.tmp 27)), none⟩,
    ⟨none, (.store 1 (.tmp 213) (.tmp 211)), none⟩] []) (
 .seq (
  .region false [⟨(some 214), (.load true 4 (.tmp 27)), none⟩,
    ⟨none, (.store 4 (.tmp 8) (.tmp 214)), none⟩,
    ⟨(some 9), (.mv (.cst (.d (.int .i64 0)))), none⟩] []) (
 .ret)))))))))))
def R_axiom_Build : List LRes := [(.cell 8 true 4), (.tmp 9)]
def V_axiom_Build : List Nat := [0, 1, 11, 35, 8, 10, 40, 39, 41, 38, 15, 47, 2, 50, 16, 14, 101, 12, 3, 119, 123, 122, 124, 121, 130, 129, 131, 128, 20, 21, 17, 149, 19, 18, 22, 162, 23, 170, 169, 171, 24, 178, 177, 179, 176, 13, 26, 27, 9]

def L_axiom_Deeds (n_act_Right : Nat) : LCode :=
 .seq (
  .region false [⟨(some 4), (.mv (.cst (.d (.list [] true)))), none⟩, ⟨(some 5), (.mv (.cst (.d (.int .i64 0)))), none⟩] []) (
 .seq (
  .seq (
   .region false [⟨(some 15), (.mv (.tmp 0)), none⟩,
     ⟨(some 16), (.len (.tmp 15)), none⟩,
     ⟨(some 17), (.bin .gtr (.tmp 16) (.cst (.d (.int .i64 16)))), none⟩,
     ⟨(some 18), (.mv (.tmp 17)), none⟩,
     ⟨(some 19), (.mv (.tmp 1)), (some (18, false))⟩,
     ⟨(some 20), (.len (.tmp 19)), (some (18, false))⟩,
     ⟨(some 21), (.bin .gtr (.tmp 20) (.cst (.d (.int .i64 3)))), (some (18, false))⟩,
     ⟨(some 22), (.pick (.tmp 18) (.cst (.d (.bool true))) (.tmp 21)), none⟩] []) (
  .cond (.tmp 22) (
   .seq (
    .region false [⟨(some 4), (.mv (.cst (.d (.list [] true)))), none⟩, ⟨(some 5), (.mv (.cst (.d (.int .i64 1)))), none⟩] []) (
   .ret)) (
   .skip))) (
 .seq (
  .region false [⟨(some 6), (.mv (.cst (.d (.list [] true)))), none⟩] []) (
 .seq (
  .seq (
   .region false [⟨(some 23), (.mv (.tmp 0)), none⟩,
     ⟨(some 24), (.len (.tmp 23)), none⟩,
     ⟨(some 25), (.mv (.cst (.d (.int .i64 0)))), none⟩] []) (
  .block 0 (
   .loop (
    .seq (
     .region false [⟨(some 26), (.bin .lss (.tmp 25) (.tmp 24)), none⟩] []) (
    .seq (
     .cond (.tmp 26) (
      .skip) (
      (.exit 0))) (
    .seq (
     .block 1 (
      .seq (
       .region false [⟨(some 27), (.mv (.tmp 25)), none⟩,
         ⟨(some 28), (.idxAddr 2 (.tmp 23) (.tmp 25)), none⟩,
         ⟨(some 29), (.load true 2 (.tmp 28)), none⟩,
         ⟨(some 8), (.alloc 0 2 [(.d (.bool false)), (.d (.int .i64 0))]), none⟩,
         ⟨(some 7), (.mv (.tmp 27)), none⟩,
         ⟨none, (.store 2 (.tmp 8) (.tmp 29)), none⟩] []) (
      .seq (
       .region false [⟨(some 30), (.mv (.tmp 7)), none⟩,
         ⟨(some 31), (.fieldAddr 1 (.tmp 8)), none⟩,
         ⟨(some 32), (.load false 1 (.tmp 31)), none⟩,
         ⟨(some 33), (.build [(.d (.int .i64 0)), (.d (.int .i64 0)), (.d (.int .i64 0)), (.d (.int .i64 0))] [(0, (1, (.cst (.d (.int .i64 2))))), (1, (1, (.tmp 30))), (3, (1, (.tmp 32)))]), none⟩,
         ⟨(some 9), (.alloc 0 4 [(.d (.int .i64 0)), (.d (.int .i64 0)), (.d (.int .i64 0)), (.d (.int .i64 0))]), none⟩,
         ⟨none, (.store 4 (.tmp 9) (.tmp 33)), none⟩] []) (
      .seq (
       .seq (
        .region false [⟨(some 34), (.fieldAddr 0 (.tmp 8)), none⟩, ⟨(some 35), (.load false 1 (.tmp 34)), none⟩] []) (
       .cond (.tmp 35) (
        .region false [⟨(some 36), (.fieldAddr 0 (.tmp 9)), none⟩, ⟨none, (.store 1 (.tmp 36) (.cst (.d (.int .i64 4)))), none⟩] []) (
        .skip))) (
      .region false [⟨(some 37), (.mv (.tmp 6)), none⟩,
        ⟨(some 38), (.load true 4 (.tmp 9)), none⟩,
        ⟨(some 39), (.build [(.d (.int .i64 0)), (.d (.int .i64 0)), (.d (.int .i64 0)), (.d (.int .i64 0)), (.d (.int .i64 0))] [(0, (1, (.cst (.d (.int .i64 (-1)))))), (1, (4, (.tmp 38)))]), none⟩,
        ⟨(some 40), (.bslice 0 5 1 [(.d (.int .i64 0)), (.d (.int .i64 0)), (.d (.int .i64 0)), (.d (.int .i64 0)), (.d (.int .i64 0))] [(0, (.tmp 39))]), none⟩,
        ⟨(some 41), (.append 1 5 40 (.tmp 37) (.tmp 40)), none⟩,
        ⟨(some 6), (.mv (.tmp 41)), none⟩] []))))) (
    .region false [⟨(some 42), (.bin .add (.tmp 25) (.cst (.d (.int .i64 1)))), none⟩, ⟨(some 25), (.mv (.tmp 42)), none⟩] []))))))) (
 .seq (
  .region false [⟨(some 43), (.mv (.tmp 6)), none⟩,
    ⟨(some 44), (.len (.tmp 43)), none⟩,
    ⟨(some 10), (.mv (.tmp 44)), none⟩] []) (
 .seq (
  .seq (
   .region false [⟨(some 45), (.mv (.tmp 1)), none⟩,
     ⟨(some 46), (.len (.tmp 45)), none⟩,
     ⟨(some 47), (.mv (.cst (.d (.int .i64 0)))), none⟩] []) (
  .block 2 (
   .loop (
    .seq (
     .region false [⟨(some 48), (.bin .lss (.tmp 47) (.tmp 46)), none⟩] []) (
    .seq (
     .cond (.tmp 48) (
      .skip) (
      (.exit 2))) (
    .seq (
     .block 3 (
      .seq (
       .region false [⟨(some 49), (.mv (.tmp 47)), none⟩,
         ⟨(some 50), (.idxAddr 1 (.tmp 45) (.tmp 47)), none⟩,
         ⟨(some 51), (.load false 1 (.tmp 50)), none⟩,
         ⟨(some 11), (.mv (.tmp 49)), none⟩,
         ⟨(some 12), (.mv (.tmp 51)), none⟩] []) (
      .seq (
       .region false [⟨(some 52), (.mv (.tmp 12)), none⟩,
         ⟨(some 53), (.len (.tmp 52)), none⟩,
         ⟨(some 54), (.mv (.cst (.d (.int .i64 0)))), none⟩] []) (
      .block 4 (
       .loop (
        .seq (
         .region false [⟨(some 55), (.bin .lss (.tmp 54) (.tmp 53)), none⟩] []) (
        .seq (
         .cond (.tmp 55) (
          .skip) (
          (.exit 4))) (
        .seq (
         .block 5 (
          .seq (
           .region false [⟨(some 56), (.idxAddr 4 (.tmp 52) (.tmp 54)), none⟩,
             ⟨(some 57), (.load true 4 (.tmp 56)), none⟩,
             ⟨(some 14), (.alloc 0 4 [(.d (.int .i64 0)), (.d (.int .i64 0)), (.d (.int .i64 0)), (.d (.int .i64 0))]), none⟩,
             ⟨none, (.store 4 (.tmp 14) (.tmp 57)), none⟩] []) (
          .seq (
           .seq (
            .region false [⟨(some 58), (.load true 4 (.tmp 14)), none⟩,
              ⟨(some 59), (.mv (.tmp 0)), none⟩,
              ⟨(some 60), (.call 0 false (.cst (.d (.fn n_act_Right))) [(.tmp 58), (.tmp 59)]), none⟩,
              ⟨(some 61), (.un .not (.tmp 60)), none⟩] []) (
           .cond (.tmp 61) (
            .seq (
             .region false [⟨(some 4), (.mv (.cst (.d (.list [] true)))), none⟩, ⟨(some 5), (.mv (.cst (.d (.int .i64 3)))), none⟩] []) (
            .ret)) (
            .skip))) (
          .seq (
           .seq (
            .region false [⟨(some 62), (.fieldAddr 0 (.tmp 14)), none⟩,
              ⟨(some 63), (.load false 1 (.tmp 62)), none⟩,
              ⟨(some 64), (.bin .eql (.tmp 63) (.cst (.d (.int .i64 6)))), none⟩] []) (
           .cond (.tmp 64) (
            (.exit 5)) (
            .skip))) (
          .seq (
           .region false [⟨(some 65), (.mv (.tmp 10)), none⟩,
             ⟨(some 66), (.bin .add (.tmp 65) (.cst (.d (.int .i64 1)))), none⟩,
             ⟨(some 10), (.mv (.tmp 66)), none⟩] []) (
          .seq (
           .region false [⟨(some 67), (.mv (.tmp 10)), none⟩, ⟨(some 68), (.bin .leq (.tmp 67) (.cst (.d (.int .i64 64)))), none⟩] []) (
          .cond (.tmp 68) (
           .region false [⟨(some 69), (.mv (.tmp 6)), none⟩,
             ⟨(some 70), (.mv (.tmp 11)), none⟩,
             ⟨(some 71), (.load true 4 (.tmp 14)), none⟩,
             ⟨(some 72), (.build [(.d (.int .i64 0)), (.d (.int .i64 0)), (.d (.int .i64 0)), (.d (.int .i64 0)), (.d (.int .i64 0))] [(0, (1, (.tmp 70))), (1, (4, (.tmp 71)))]), none⟩,
             ⟨(some 73), (.bslice 0 5 1 [(.d (.int .i64 0)), (.d (.int .i64 0)), (.d (.int .i64 0)), (.d (.int .i64 0)), (.d (.int .i64 0))] [(0, (.tmp 72))]), none⟩,
             ⟨(some 74), (.append 1 5 40 (.tmp 69) (.tmp 73)), none⟩,
             ⟨(some 6), (.mv (.tmp 74)), none⟩] []) (
           .skip)))))))) (
        .region false [⟨(some 75), (.bin .add (.tmp 54) (.cst (.d (.int .i64 1)))), none⟩, ⟨(some 54), (.mv (.tmp 75)), none⟩] []))))))))) (
    .region false [⟨(some 76), (.bin .add (.tmp 47) (.cst (.d (.int .i64 1)))), none⟩, ⟨(some 47), (.mv (.tmp 76)), none⟩] []))))))) (
 .seq (
  .seq (
   .region false [⟨(some 77), (.mv (.tmp 10)), none⟩, ⟨(some 78), (.bin .gtr (.tmp 77) (.cst (.d (.int .i64 64)))), none⟩] []) (
  .cond (.tmp 78) (
   .seq (
    .region false [⟨(some 4), (.mv (.cst (.d (.list [] true)))), none⟩, ⟨(some 5), (.mv (.cst (.d (.int .i64 15)))), none⟩] []) (
   .ret)) (
   .skip))) (
 .seq (
  .region false [⟨(some 79), (.mv (.tmp 6)), none⟩,
    ⟨(some 4), (.mv (.tmp 79)), none⟩,
    ⟨(some 5), (.mv (.cst (.d (.int .i64 0)))), none⟩] []) (
 .ret))))))))
def R_axiom_Deeds : List LRes := [(.tmp 4), (.tmp 5)]
def V_axiom_Deeds : List Nat := [0, 1, 22, 25, 24, 26, 23, 7, 8, 35, 9, 6, 47, 46, 48, 45, 12, 54, 53, 55, 52, 14, 61, 64, 10, 68, 11, 78, 4, 5]

def L_axiom_Check (n_axiom_Order : Nat) (n_axiom_Fr : Nat) (n_rel_Ring : Nat) (n_rel_Union : Nat) (n_axiom_only : Nat) (n_axiom_meets : Nat) : LCode :=
 .seq (
  .region false [⟨(some 1), (.box 0 (.tmp 0)), none⟩, ⟨(some 2), (.mv (.cst (.d (.int .i64 0)))), none⟩] []) (
 .seq (
  .region true [⟨(some 5), (.load true 4 (.tmp 1)), none⟩,
    ⟨(some 6), (.call 0 true (.cst (.d (.fn n_axiom_Order))) [(.tmp 5)]), none⟩,
    ⟨(some 7), (.load true 4 (.tmp 1)), none⟩,
    ⟨(some 8), (.call 1 true (.cst (.d (.fn n_axiom_Fr))) [(.tmp 7)]), none⟩,
    ⟨(some 3), (.mv (.tmp 6)), none⟩,
    ⟨(some 4), (.mv (.tmp 8)), none⟩] [(1, 2)]) (
 .seq (
  .block 0 (
   .seq (
    .region true [⟨(some 10), (.mv (.tmp 3)), none⟩,
      ⟨(some 11), (.fieldAddr 2 (.tmp 1)), none⟩,
      ⟨(some 12), (.load false 1 (.tmp 11)), none⟩,
      ⟨(some 13), (.call 0 true (.cst (.d (.fn n_rel_Union))) [(.tmp 10), (.tmp 12)]), none⟩,
      ⟨(some 14), (.load true 4 (.tmp 1)), none⟩,
      ⟨(some 15), (.mv (.tmp 4)), none⟩,
      ⟨(some 16), (.call 1 true (.cst (.d (.fn n_axiom_only))) [(.tmp 14), (.tmp 15)]), none⟩,
      ⟨(some 17), (.call 2 true (.cst (.d (.fn n_rel_Union))) [(.tmp 13), (.tmp 16)]), none⟩,
      ⟨(some 18), (.call 3 false (.cst (.d (.fn n_rel_Ring))) [(.tmp 17)]), none⟩,
      ⟨(some 9), (.mv (.tmp 18)), none⟩] [(3, 4)]) (
   .cond (.tmp 9) (
    .seq (
     .region false [⟨(some 2), (.mv (.cst (.d (.int .i64 1)))), none⟩] []) (
    .ret)) (
    .seq (
     .region false [⟨(some 20), (.mv (.tmp 3)), none⟩,
       ⟨(some 21), (.fieldAddr 3 (.tmp 1)), none⟩,
       ⟨(some 22), (.load false 1 (.tmp 21)), none⟩,
       ⟨(some 23), (.call 0 false (.cst (.d (.fn n_axiom_meets))) [(.tmp 20), (.tmp 22)]), none⟩,
       ⟨(some 19), (.mv (.tmp 23)), none⟩] []) (
    .cond (.tmp 19) (
     .seq (
      .region false [⟨(some 2), (.mv (.cst (.d (.int .i64 2)))), none⟩] []) (
     .ret)) (
     .seq (
      .region false [⟨(some 25), (.mv (.tmp 3)), none⟩,
        ⟨(some 26), (.mv (.tmp 4)), none⟩,
        ⟨(some 27), (.call 0 false (.cst (.d (.fn n_axiom_meets))) [(.tmp 25), (.tmp 26)]), none⟩,
        ⟨(some 24), (.mv (.tmp 27)), none⟩] []) (
     .cond (.tmp 24) (
      .seq (
       .region false [⟨(some 2), (.mv (.cst (.d (.int .i64 3)))), none⟩] []) (
      .ret)) (
      .skip)))))))) (
 .seq (
  .region false [⟨(some 2), (.mv (.cst (.d (.int .i64 0)))), none⟩] []) (
 .ret))))
def R_axiom_Check : List LRes := [(.tmp 2)]
def V_axiom_Check : List Nat := [0, 1, 3, 4, 9, 19, 24, 2]

def L_axiom_Order (n_rel_Union : Nat) (n_axiom_only : Nat) (n_rel_Plus : Nat) : LCode :=
 .seq (
  .region false [⟨(some 1), (.box 0 (.tmp 0)), none⟩, ⟨(some 2), (.mv (.cst (.d (.list [] true)))), none⟩] []) (
 .seq (
  .region true [⟨(some 8), (.load true 4 (.tmp 1)), none⟩,
    ⟨(some 9), (.fieldAddr 2 (.tmp 1)), none⟩,
    ⟨(some 10), (.load false 1 (.tmp 9)), none⟩,
    ⟨(some 11), (.fieldAddr 3 (.tmp 1)), none⟩,
    ⟨(some 12), (.load false 1 (.tmp 11)), none⟩,
    ⟨(some 13), (.call 0 true (.cst (.d (.fn n_rel_Union))) [(.tmp 10), (.tmp 12)]), none⟩,
    ⟨(some 14), (.call 1 true (.cst (.d (.fn n_axiom_only))) [(.tmp 8), (.tmp 13)]), none⟩,
    ⟨(some 3), (.mv (.tmp 14)), none⟩] [(0, 5)]) (
 .seq (
  .seq (
   .region false [⟨(some 15), (.fieldAddr 1 (.tmp 1)), none⟩,
     ⟨(some 16), (.load false 1 (.tmp 15)), none⟩,
     ⟨(some 17), (.len (.tmp 16)), none⟩,
     ⟨(some 18), (.mv (.cst (.d (.int .i64 0)))), none⟩] []) (
  .block 0 (
   .loop (
    .seq (
     .region false [⟨(some 19), (.bin .lss (.tmp 18) (.tmp 17)), none⟩] []) (
    .seq (
     .cond (.tmp 19) (
      .skip) (
      (.exit 0))) (
    .seq (
     .block 1 (
      .seq (
       .region false [⟨(some 20), (.mv (.tmp 18)), none⟩,
         ⟨(some 21), (.idxAddr 5 (.tmp 16) (.tmp 18)), none⟩,
         ⟨(some 22), (.load true 5 (.tmp 21)), none⟩,
         ⟨(some 5), (.alloc 0 5 [(.d (.int .i64 0)), (.d (.int .i64 0)), (.d (.int .i64 0)), (.d (.int .i64 0)), (.d (.int .i64 0))]), none⟩,
         ⟨(some 4), (.mv (.tmp 20)), none⟩,
         ⟨none, (.store 5 (.tmp 5) (.tmp 22)), none⟩] []) (
      .seq (
       .region false [⟨(some 23), (.fieldAddr 1 (.tmp 1)), none⟩,
         ⟨(some 24), (.load false 1 (.tmp 23)), none⟩,
         ⟨(some 25), (.len (.tmp 24)), none⟩,
         ⟨(some 26), (.mv (.cst (.d (.int .i64 0)))), none⟩] []) (
      .block 2 (
       .loop (
        .seq (
         .region false [⟨(some 27), (.bin .lss (.tmp 26) (.tmp 25)), none⟩] []) (
        .seq (
         .cond (.tmp 27) (
          .skip) (
          (.exit 2))) (
        .seq (
         .block 3 (
          .seq (
           .region false [⟨(some 28), (.mv (.tmp 26)), none⟩,
             ⟨(some 29), (.idxAddr 5 (.tmp 24) (.tmp 26)), none⟩,
             ⟨(some 30), (.load true 5 (.tmp 29)), none⟩,
             ⟨(some 7), (.alloc 0 5 [(.d (.int .i64 0)), (.d (.int .i64 0)), (.d (.int .i64 0)), (.d (.int .i64 0)), (.d (.int .i64 0))]), none⟩,
             ⟨(some 6), (.mv (.tmp 28)), none⟩,
             ⟨none, (.store 5 (.tmp 7) (.tmp 30)), none⟩] []) (
          .seq (
           .region false [⟨(some 31), (.fieldAddr 0 (.tmp 5)), none⟩,
             ⟨(some 32), (.load false 1 (.tmp 31)), none⟩,
             ⟨(some 33), (.bin .lss (.tmp 32) (.cst (.d (.int .i64 0)))), none⟩,
             ⟨(some 34), (.mv (.tmp 33)), none⟩,
             ⟨(some 35), (.fieldAddr 0 (.tmp 7)), (some (34, true))⟩,
             ⟨(some 36), (.load false 1 (.tmp 35)), (some (34, true))⟩,
             ⟨(some 37), (.bin .geq (.tmp 36) (.cst (.d (.int .i64 0)))), (some (34, true))⟩,
             ⟨(some 38), (.pick (.tmp 34) (.tmp 37) (.cst (.d (.bool false)))), none⟩,
             ⟨(some 39), (.mv (.tmp 38)), none⟩,
             ⟨(some 40), (.fieldAddr 0 (.tmp 5)), (some (39, false))⟩,
             ⟨(some 41), (.load false 1 (.tmp 40)), (some (39, false))⟩,
             ⟨(some 42), (.bin .geq (.tmp 41) (.cst (.d (.int .i64 0)))), (some (39, false))⟩,
             ⟨(some 43), (.mv (.tmp 42)), (some (39, false))⟩,
             ⟨(some 44), (.fieldAddr 0 (.tmp 5)), (some (43, true))⟩,
             ⟨(some 45), (.load false 1 (.tmp 44)), (some (43, true))⟩,
             ⟨(some 46), (.fieldAddr 0 (.tmp 7)), (some (43, true))⟩,
             ⟨(some 47), (.load false 1 (.tmp 46)), (some (43, true))⟩,
             ⟨(some 48), (.bin .eql (.tmp 45) (.tmp 47)), (some (43, true))⟩,
             ⟨(some 49), (.pick (.tmp 43) (.tmp 48) (.cst (.d (.bool false)))), (some (39, false))⟩,
             ⟨(some 50), (.mv (.tmp 49)), (some (39, false))⟩,
             ⟨(some 51), (.mv (.tmp 4)), (some (50, true))⟩,
             ⟨(some 52), (.mv (.tmp 6)), (some (50, true))⟩,
             ⟨(some 53), (.bin .lss (.tmp 51) (.tmp 52)), (some (50, true))⟩,
             ⟨(some 54), (.pick (.tmp 50) (.tmp 53) (.cst (.d (.bool false)))), (some (39, false))⟩,
             ⟨(some 55), (.pick (.tmp 39) (.cst (.d (.bool true))) (.tmp 54)), none⟩] []) (
          .cond (.tmp 55) (
           .region false [⟨(some 56), (.mv (.tmp 3)), none⟩,
             ⟨(some 57), (.mv (.tmp 4)), none⟩,
             ⟨(some 58), (.idxAddr 1 (.tmp 56) (.tmp 57)), none⟩,
             ⟨(some 59), (.load false 1 (.tmp 58)), none⟩,
             ⟨(some 60), (.mv (.tmp 6)), none⟩,
             ⟨(some 61), (.conv .u64 (.tmp 60)), none⟩,
             ⟨(some 62), (.bin .shl (.cst (.d (.int .u64 1))) (.tmp 61)), none⟩,
             ⟨(some 63), (.bin .or (.tmp 59) (.tmp 62)), none⟩,
             ⟨(some 64), (.idxAddr 1 (.tmp 56) (.tmp 57)), none⟩,
             ⟨none, (.store 1 (.tmp 64) (.tmp 63)), none⟩] []) (
           .skip))))) (
        .region false [⟨(some 65), (.bin .add (.tmp 26) (.cst (.d (.int .i64 1)))), none⟩, ⟨(some 26), (.mv (.tmp 65)), none⟩] []))))))))) (
    .region false [⟨(some 66), (.bin .add (.tmp 18) (.cst (.d (.int .i64 1)))), none⟩, ⟨(some 18), (.mv (.tmp 66)), none⟩] []))))))) (
 .seq (
  .region false [⟨(some 67), (.mv (.tmp 3)), none⟩,
    ⟨(some 68), (.call 0 true (.cst (.d (.fn n_rel_Plus))) [(.tmp 67)]), none⟩,
    ⟨(some 2), (.mv (.tmp 68)), none⟩] []) (
 .ret))))
def R_axiom_Order : List LRes := [(.tmp 2)]
def V_axiom_Order : List Nat := [0, 1, 18, 17, 19, 16, 26, 25, 27, 24, 5, 7, 4, 6, 55, 3, 2]

def L_axiom_Fr (n_rel_Then : Nat) (n_rel_Back : Nat) : LCode :=
 .seq (
  .region false [⟨(some 1), (.box 0 (.tmp 0)), none⟩, ⟨(some 2), (.mv (.cst (.d (.list [] true)))), none⟩] []) (
 .seq (
  .region true [⟨(some 5), (.fieldAddr 2 (.tmp 1)), none⟩,
    ⟨(some 6), (.load false 1 (.tmp 5)), none⟩,
    ⟨(some 7), (.call 0 true (.cst (.d (.fn n_rel_Back))) [(.tmp 6)]), none⟩,
    ⟨(some 8), (.fieldAddr 3 (.tmp 1)), none⟩,
    ⟨(some 9), (.load false 1 (.tmp 8)), none⟩,
    ⟨(some 10), (.call 1 true (.cst (.d (.fn n_rel_Then))) [(.tmp 7), (.tmp 9)]), none⟩,
    ⟨(some 3), (.mv (.tmp 10)), none⟩] [(2, 4)]) (
 .seq (
  .seq (
   .region false [⟨(some 11), (.mv (.tmp 3)), none⟩,
     ⟨(some 12), (.len (.tmp 11)), none⟩,
     ⟨(some 13), (.mv (.cst (.d (.int .i64 0)))), none⟩] []) (
  .block 0 (
   .loop (
    .seq (
     .region false [⟨(some 14), (.bin .lss (.tmp 13) (.tmp 12)), none⟩] []) (
    .seq (
     .cond (.tmp 14) (
      .skip) (
      (.exit 0))) (
    .seq (
     .block 1 (
      .seq (
       .region false [⟨(some 15), (.mv (.tmp 13)), none⟩, ⟨(some 4), (.mv (.tmp 15)), none⟩] []) (
      .region false [⟨(some 16), (.mv (.tmp 3)), none⟩,
        ⟨(some 17), (.mv (.tmp 4)), none⟩,
        ⟨(some 18), (.idxAddr 1 (.tmp 16) (.tmp 17)), none⟩,
        ⟨(some 19), (.load false 1 (.tmp 18)), none⟩,
        ⟨(some 20), (.mv (.tmp 4)), none⟩,
        ⟨(some 21), (.conv .u64 (.tmp 20)), none⟩,
        ⟨(some 22), (.bin .shl (.cst (.d (.int .u64 1))) (.tmp 21)), none⟩,
        ⟨(some 23), (.bin .andNot (.tmp 19) (.tmp 22)), none⟩,
        ⟨(some 24), (.idxAddr 1 (.tmp 16) (.tmp 17)), none⟩,
        ⟨none, (.store 1 (.tmp 24) (.tmp 23)), none⟩] []))) (
    .region false [⟨(some 25), (.bin .add (.tmp 13) (.cst (.d (.int .i64 1)))), none⟩, ⟨(some 13), (.mv (.tmp 25)), none⟩] []))))))) (
 .seq (
  .region false [⟨(some 26), (.mv (.tmp 3)), none⟩, ⟨(some 2), (.mv (.tmp 26)), none⟩] []) (
 .ret))))
def R_axiom_Fr : List LRes := [(.tmp 2)]
def V_axiom_Fr : List Nat := [0, 1, 3, 13, 12, 14, 4, 2]

def L_axiom_reads : LCode :=
 .seq (
  .region false [⟨(some 1), (.box 0 (.tmp 0)), none⟩, ⟨(some 2), (.mv (.cst (.d (.bool false)))), none⟩] []) (
 .seq (
  .region false [⟨(some 3), (.fieldAddr 1 (.tmp 1)), none⟩,
    ⟨(some 4), (.fieldAddr 0 (.tmp 3)), none⟩,
    ⟨(some 5), (.load false 1 (.tmp 4)), none⟩,
    ⟨(some 6), (.bin .eql (.tmp 5) (.cst (.d (.int .i64 1)))), none⟩,
    ⟨(some 7), (.mv (.tmp 6)), none⟩,
    ⟨(some 8), (.fieldAddr 1 (.tmp 1)), (some (7, false))⟩,
    ⟨(some 9), (.fieldAddr 0 (.tmp 8)), (some (7, false))⟩,
    ⟨(some 10), (.load false 1 (.tmp 9)), (some (7, false))⟩,
    ⟨(some 11), (.bin .eql (.tmp 10) (.cst (.d (.int .i64 3)))), (some (7, false))⟩,
    ⟨(some 12), (.pick (.tmp 7) (.cst (.d (.bool true))) (.tmp 11)), none⟩,
    ⟨(some 13), (.mv (.tmp 12)), none⟩,
    ⟨(some 14), (.fieldAddr 1 (.tmp 1)), (some (13, false))⟩,
    ⟨(some 15), (.fieldAddr 0 (.tmp 14)), (some (13, false))⟩,
    ⟨(some 16), (.load false 1 (.tmp 15)), (some (13, false))⟩,
    ⟨(some 17), (.bin .eql (.tmp 16) (.cst (.d (.int .i64 5)))), (some (13, false))⟩,
    ⟨(some 18), (.pick (.tmp 13) (.cst (.d (.bool true))) (.tmp 17)), none⟩,
    ⟨(some 2), (.mv (.tmp 18)), none⟩] []) (
 .ret))
def R_axiom_reads : List LRes := [(.tmp 2)]
def V_axiom_reads : List Nat := [0, 1, 2]

def L_axiom_writes : LCode :=
 .seq (
  .region false [⟨(some 1), (.box 0 (.tmp 0)), none⟩, ⟨(some 2), (.mv (.cst (.d (.bool false)))), none⟩] []) (
 .seq (
  .region false [⟨(some 3), (.fieldAddr 1 (.tmp 1)), none⟩,
    ⟨(some 4), (.fieldAddr 0 (.tmp 3)), none⟩,
    ⟨(some 5), (.load false 1 (.tmp 4)), none⟩,
    ⟨(some 6), (.bin .eql (.tmp 5) (.cst (.d (.int .i64 2)))), none⟩,
    ⟨(some 7), (.mv (.tmp 6)), none⟩,
    ⟨(some 8), (.fieldAddr 1 (.tmp 1)), (some (7, false))⟩,
    ⟨(some 9), (.fieldAddr 0 (.tmp 8)), (some (7, false))⟩,
    ⟨(some 10), (.load false 1 (.tmp 9)), (some (7, false))⟩,
    ⟨(some 11), (.bin .eql (.tmp 10) (.cst (.d (.int .i64 4)))), (some (7, false))⟩,
    ⟨(some 12), (.pick (.tmp 7) (.cst (.d (.bool true))) (.tmp 11)), none⟩,
    ⟨(some 13), (.mv (.tmp 12)), none⟩,
    ⟨(some 14), (.fieldAddr 1 (.tmp 1)), (some (13, false))⟩,
    ⟨(some 15), (.fieldAddr 0 (.tmp 14)), (some (13, false))⟩,
    ⟨(some 16), (.load false 1 (.tmp 15)), (some (13, false))⟩,
    ⟨(some 17), (.bin .eql (.tmp 16) (.cst (.d (.int .i64 5)))), (some (13, false))⟩,
    ⟨(some 18), (.pick (.tmp 13) (.cst (.d (.bool true))) (.tmp 17)), none⟩,
    ⟨(some 2), (.mv (.tmp 18)), none⟩] []) (
 .ret))
def R_axiom_writes : List LRes := [(.tmp 2)]
def V_axiom_writes : List Nat := [0, 1, 2]

def L_axiom_only (n_slices_Clone_uint64 : Nat) (n_axiom_atomic : Nat) : LCode :=
 .seq (
  .region false [⟨(some 2), (.box 0 (.tmp 0)), none⟩, ⟨(some 4), (.mv (.cst (.d (.list [] true)))), none⟩] []) (
 .seq (
  .region false [⟨(some 7), (.mv (.tmp 1)), none⟩,
    ⟨(some 8), (.call 0 true (.cst (.d (.fn n_slices_Clone_uint64))) [(.tmp 7)]), none⟩,
    ⟨(some 5), (.mv (.tmp 8)), none⟩] []) (
 .seq (
  .seq (
   .region false [⟨(some 9), (.mv (.tmp 5)), none⟩,
     ⟨(some 10), (.len (.tmp 9)), none⟩,
     ⟨(some 11), (.mv (.cst (.d (.int .i64 0)))), none⟩] []) (
  .block 0 (
   .loop (
    .seq (
     .region false [⟨(some 12), (.bin .lss (.tmp 11) (.tmp 10)), none⟩] []) (
    .seq (
     .cond (.tmp 12) (
      .skip) (
      (.exit 0))) (
    .seq (
     .block 1 (
      .seq (
       .region false [⟨(some 13), (.mv (.tmp 11)), none⟩, ⟨(some 6), (.mv (.tmp 13)), none⟩] []) (
      .seq (
       .region false [⟨(some 14), (.load true 4 (.tmp 2)), none⟩,
         ⟨(some 15), (.mv (.tmp 6)), none⟩,
         ⟨(some 16), (.call 0 false (.cst (.d (.fn n_axiom_atomic))) [(.tmp 14), (.tmp 15)]), none⟩,
         ⟨(some 17), (.un .not (.tmp 16)), none⟩] []) (
      .cond (.tmp 17) (
       .region false [⟨(some 18), (.mv (.tmp 5)), none⟩,
         ⟨(some 19), (.mv (.tmp 6)), none⟩,
         ⟨(some 20), (.idxAddr 1 (.tmp 18) (.tmp 19)), none⟩,
         ⟨none, (.store 1 (.tmp 20) (.cst (.d (.int .u64 0)))), none⟩] []) (
       .skip))))) (
    .region false [⟨(some 21), (.bin .add (.tmp 11) (.cst (.d (.int .i64 1)))), none⟩, ⟨(some 11), (.mv (.tmp 21)), none⟩] []))))))) (
 .seq (
  .region false [⟨(some 22), (.mv (.tmp 5)), none⟩, ⟨(some 4), (.mv (.tmp 22)), none⟩] []) (
 .ret))))
def R_axiom_only : List LRes := [(.tmp 4)]
def V_axiom_only : List Nat := [0, 1, 5, 11, 10, 12, 2, 6, 17, 4]

def L_axiom_meets (n_rel_Back : Nat) (n_slices_ContainsFunc_uint64 : Nat) (n_rel_Inter : Nat) (n_axiom_meets_1 : Nat) : LCode :=
 .seq (
  .region false [⟨(some 4), (.mv (.cst (.d (.bool false)))), none⟩] []) (
 .seq (
  .region false [⟨(some 5), (.mv (.tmp 0)), none⟩,
    ⟨(some 6), (.mv (.tmp 1)), none⟩,
    ⟨(some 7), (.call 0 true (.cst (.d (.fn n_rel_Back))) [(.tmp 6)]), none⟩,
    ⟨(some 8), (.call 1 true (.cst (.d (.fn n_rel_Inter))) [(.tmp 5), (.tmp 7)]), none⟩,
    ⟨(some 9), (.call 2 false (.cst (.d (.fn n_slices_ContainsFunc_uint64))) [(.tmp 8), (.cst (.d (.fn n_axiom_meets_1)))]), none⟩,
    ⟨(some 4), (.mv (.tmp 9)), none⟩] []) (
 .ret))
def R_axiom_meets : List LRes := [(.tmp 4)]
def V_axiom_meets : List Nat := [0, 1, 4]

def L_axiom_atomic : LCode :=
 .seq (
  .region false [⟨(some 2), (.box 0 (.tmp 0)), none⟩, ⟨(some 4), (.mv (.cst (.d (.bool false)))), none⟩] []) (
 .seq (
  .region false [⟨(some 6), (.fieldAddr 1 (.tmp 2)), none⟩,
    ⟨(some 7), (.load false 1 (.tmp 6)), none⟩,
    ⟨(some 8), (.mv (.tmp 1)), none⟩,
    ⟨(some 9), (.idxAddr 5 (.tmp 7) (.tmp 8)), none⟩,
    ⟨(some 10), (.fieldAddr 1 (.tmp 9)), none⟩,
    ⟨(some 11), (.fieldAddr 1 (.tmp 10)), none⟩,
    ⟨(some 12), (.load false 1 (.tmp 11)), none⟩,
    ⟨(some 5), (.mv (.tmp 12)), none⟩] []) (
 .seq (
  .region false [⟨(some 13), (.mv (.tmp 5)), none⟩,
    ⟨(some 14), (.bin .geq (.tmp 13) (.cst (.d (.int .i64 0)))), none⟩,
    ⟨(some 15), (.mv (.tmp 14)), none⟩,
    ⟨(some 16), (.mv (.tmp 5)), (some (15, true))⟩,
    ⟨(some 17), (.fieldAddr 0 (.tmp 2)), (some (15, true))⟩,
    ⟨(some 18), (.load false 1 (.tmp 17)), (some (15, true))⟩,
    ⟨(some 19), (.len (.tmp 18)), (some (15, true))⟩,
    ⟨(some 20), (.bin .lss (.tmp 16) (.tmp 19)), (some (15, true))⟩,
    ⟨(some 21), (.pick (.tmp 15) (.tmp 20) (.cst (.d (.bool false)))), none⟩,
    ⟨(some 22), (.mv (.tmp 21)), none⟩,
    ⟨(some 23), (.fieldAddr 0 (.tmp 2)), (some (22, true))⟩,
    ⟨(some 24), (.load false 1 (.tmp 23)), (some (22, true))⟩,
    ⟨(some 25), (.mv (.tmp 5)), (some (22, true))⟩,
    ⟨(some 26), (.idxAddr 2 (.tmp 24) (.tmp 25)), (some (22, true))⟩,
    ⟨(some 27), (.fieldAddr 0 (.tmp 26)), (some (22, true))⟩,
    ⟨(some 28), (.load false 1 (.tmp 27)), (some (22, true))⟩,
    ⟨(some 29), (.pick (.tmp 22) (.tmp 28) (.cst (.d (.bool false)))), none⟩,
    ⟨(some 4), (.mv (.tmp 29)), none⟩] []) (
 .ret)))
def R_axiom_atomic : List LRes := [(.tmp 4)]
def V_axiom_atomic : List Nat := [0, 2, 1, 5, 4]

def L_axiom_meets_1 : LCode :=
 .seq (
  .region false [⟨(some 2), (.mv (.cst (.d (.bool false)))), none⟩] []) (
 .seq (
  .region false [⟨(some 3), (.mv (.tmp 0)), none⟩,
    ⟨(some 4), (.bin .neq (.tmp 3) (.cst (.d (.int .u64 0)))), none⟩,
    ⟨(some 2), (.mv (.tmp 4)), none⟩] []) (
 .ret))
def R_axiom_meets_1 : List LRes := [(.tmp 2)]
def V_axiom_meets_1 : List Nat := [0, 2]

end Go.Ago

/- Lowered functions of a package, callees by their numbers. Printed by a program of this session. Conditions: none. -/
set_option maxRecDepth 100000
set_option linter.unusedVariables false
namespace Go.Ago
def L_ref23_Check (n_ref23_Order : Nat) (n_ref23_Fr : Nat) (n_ref02_Put : Nat) (n_ref02_Lay : Nat) (n_ref23_Atomic : Nat) (n_ref02_Has : Nat) (n_ref02_Ring : Nat) : LCode :=
 .seq (
  .region false [⟨(some 1), (.box 0 (.tmp 0)), none⟩, ⟨(some 2), (.mv (.cst (.d (.int .i64 0)))), none⟩] []) (
 .seq (
  .region false [⟨(some 13), (.fieldAddr 1 (.tmp 1)), none⟩,
    ⟨(some 14), (.load false 1 (.tmp 13)), none⟩,
    ⟨(some 15), (.len (.tmp 14)), none⟩,
    ⟨(some 3), (.mv (.tmp 15)), none⟩] []) (
 .seq (
  .region true [⟨(some 16), (.load true 4 (.tmp 1)), none⟩,
    ⟨(some 17), (.call 0 true (.cst (.d (.fn n_ref23_Order))) [(.tmp 16)]), none⟩,
    ⟨(some 18), (.load true 4 (.tmp 1)), none⟩,
    ⟨(some 19), (.call 1 true (.cst (.d (.fn n_ref23_Fr))) [(.tmp 18)]), none⟩,
    ⟨(some 4), (.mv (.tmp 17)), none⟩,
    ⟨(some 5), (.mv (.tmp 19)), none⟩] [(1, 2)]) (
 .seq (
  .region false [⟨(some 20), (.mv (.tmp 4)), none⟩,
    ⟨(some 21), (.fieldAddr 2 (.tmp 1)), none⟩,
    ⟨(some 22), (.load false 1 (.tmp 21)), none⟩,
    ⟨(some 23), (.call 0 true (.cst (.d (.fn n_ref02_Lay))) [(.tmp 20), (.tmp 22), (.cst (.d (.int .i64 0)))]), none⟩,
    ⟨(some 6), (.mv (.tmp 23)), none⟩] []) (
 .seq (
  .seq (
   .region false [⟨(some 7), (.mv (.cst (.d (.int .i64 0)))), none⟩] []) (
  .block 0 (
   .loop (
    .seq (
     .seq (
      .region false [⟨(some 24), (.mv (.tmp 7)), none⟩,
        ⟨(some 25), (.mv (.tmp 3)), none⟩,
        ⟨(some 26), (.bin .lss (.tmp 24) (.tmp 25)), none⟩] []) (
     .cond (.tmp 26) (
      .skip) (
      (.exit 0)))) (
    .seq (
     .block 1 (
      .seq (
       .region false [⟨(some 8), (.mv (.cst (.d (.int .i64 0)))), none⟩] []) (
      .block 2 (
       .loop (
        .seq (
         .seq (
          .region false [⟨(some 29), (.mv (.tmp 8)), none⟩,
            ⟨(some 30), (.mv (.tmp 3)), none⟩,
            ⟨(some 31), (.bin .lss (.tmp 29) (.tmp 30)), none⟩] []) (
         .cond (.tmp 31) (
          .skip) (
          (.exit 2)))) (
        .seq (
         .block 3 (
          .seq (
           .region false [⟨(some 34), (.load true 4 (.tmp 1)), none⟩,
             ⟨(some 35), (.mv (.tmp 7)), none⟩,
             ⟨(some 36), (.call 0 false (.cst (.d (.fn n_ref23_Atomic))) [(.tmp 34), (.tmp 35)]), none⟩,
             ⟨(some 37), (.mv (.tmp 36)), none⟩,
             ⟨(some 38), (.mv (.tmp 5)), (some (37, true))⟩,
             ⟨(some 39), (.mv (.tmp 7)), (some (37, true))⟩,
             ⟨(some 40), (.mv (.tmp 8)), (some (37, true))⟩,
             ⟨(some 41), (.call 0 false (.cst (.d (.fn n_ref02_Has))) [(.tmp 38), (.tmp 39), (.tmp 40)]), (some (37, true))⟩,
             ⟨(some 42), (.pick (.tmp 37) (.tmp 41) (.cst (.d (.bool false)))), none⟩] []) (
          .cond (.tmp 42) (
           .region false [⟨(some 43), (.mv (.tmp 6)), none⟩,
             ⟨(some 44), (.mv (.tmp 7)), none⟩,
             ⟨(some 45), (.mv (.tmp 8)), none⟩,
             ⟨(some 46), (.call 0 false (.cst (.d (.fn n_ref02_Put))) [(.tmp 43), (.tmp 44), (.tmp 45)]), none⟩] []) (
           .skip)))) (
        .region false [⟨(some 32), (.mv (.tmp 8)), none⟩,
          ⟨(some 33), (.bin .add (.tmp 32) (.cst (.d (.int .i64 1)))), none⟩,
          ⟨(some 8), (.mv (.tmp 33)), none⟩] []))))))) (
    .region false [⟨(some 27), (.mv (.tmp 7)), none⟩,
      ⟨(some 28), (.bin .add (.tmp 27) (.cst (.d (.int .i64 1)))), none⟩,
      ⟨(some 7), (.mv (.tmp 28)), none⟩] [])))))) (
 .seq (
  .seq (
   .region false [⟨(some 47), (.mv (.tmp 6)), none⟩, ⟨(some 48), (.call 0 false (.cst (.d (.fn n_ref02_Ring))) [(.tmp 47)]), none⟩] []) (
  .cond (.tmp 48) (
   .seq (
    .region false [⟨(some 2), (.mv (.cst (.d (.int .i64 1)))), none⟩] []) (
   .ret)) (
   .skip))) (
 .seq (
  .seq (
   .region false [⟨(some 49), (.fieldAddr 3 (.tmp 1)), none⟩,
     ⟨(some 50), (.load false 1 (.tmp 49)), none⟩,
     ⟨(some 51), (.build [(.d (.list [] true)), (.d (.int .i64 0))] [(0, (1, (.tmp 50))), (1, (1, (.cst (.d (.int .i64 2)))))]), none⟩,
     ⟨(some 52), (.mv (.tmp 5)), none⟩,
     ⟨(some 53), (.build [(.d (.list [] true)), (.d (.int .i64 0))] [(0, (1, (.tmp 52))), (1, (1, (.cst (.d (.int .i64 3)))))]), none⟩,
     ⟨(some 54), (.bslice 0 2 2 [(.d (.list [] true)), (.d (.int .i64 0))] [(0, (.tmp 51)), (1, (.tmp 53))]), none⟩,
     ⟨(some 55), (.len (.tmp 54)), none⟩,
     ⟨(some 56), (.mv (.cst (.d (.int .i64 0)))), none⟩] []) (
  .block 4 (
   .loop (
    .seq (
     .region false [⟨(some 57), (.bin .lss (.tmp 56) (.tmp 55)), none⟩] []) (
    .seq (
     .cond (.tmp 57) (
      .skip) (
      (.exit 4))) (
    .seq (
     .block 5 (
      .seq (
       .region false [⟨(some 58), (.idxAddr 2 (.tmp 54) (.tmp 56)), none⟩,
         ⟨(some 59), (.load true 2 (.tmp 58)), none⟩,
         ⟨(some 10), (.alloc 0 2 [(.d (.list [] true)), (.d (.int .i64 0))]), none⟩,
         ⟨none, (.store 2 (.tmp 10) (.tmp 59)), none⟩] []) (
      .seq (
       .region false [⟨(some 11), (.mv (.cst (.d (.int .i64 0)))), none⟩] []) (
      .block 6 (
       .loop (
        .seq (
         .seq (
          .region false [⟨(some 60), (.mv (.tmp 11)), none⟩,
            ⟨(some 61), (.mv (.tmp 3)), none⟩,
            ⟨(some 62), (.bin .lss (.tmp 60) (.tmp 61)), none⟩] []) (
         .cond (.tmp 62) (
          .skip) (
          (.exit 6)))) (
        .seq (
         .block 7 (
          .seq (
           .region false [⟨(some 12), (.mv (.cst (.d (.int .i64 0)))), none⟩] []) (
          .block 8 (
           .loop (
            .seq (
             .seq (
              .region false [⟨(some 65), (.mv (.tmp 12)), none⟩,
                ⟨(some 66), (.mv (.tmp 3)), none⟩,
                ⟨(some 67), (.bin .lss (.tmp 65) (.tmp 66)), none⟩] []) (
             .cond (.tmp 67) (
              .skip) (
              (.exit 8)))) (
            .seq (
             .block 9 (
              .seq (
               .region false [⟨(some 70), (.mv (.tmp 4)), none⟩,
                 ⟨(some 71), (.mv (.tmp 11)), none⟩,
                 ⟨(some 72), (.mv (.tmp 12)), none⟩,
                 ⟨(some 73), (.call 0 false (.cst (.d (.fn n_ref02_Has))) [(.tmp 70), (.tmp 71), (.tmp 72)]), none⟩,
                 ⟨(some 74), (.mv (.tmp 73)), none⟩,
                 ⟨(some 75), (.fieldAddr 0 (.tmp 10)), (some (74, true))⟩,
                 ⟨(some 76), (.load false 1 (.tmp 75)), (some (74, true))⟩,
                 ⟨(some 77), (.mv (.tmp 12)), (some (74, true))⟩,
                 ⟨(some 78), (.mv (.tmp 11)), (some (74, true))⟩,
                 ⟨(some 79), (.call 0 false (.cst (.d (.fn n_ref02_Has))) [(.tmp 76), (.tmp 77), (.tmp 78)]), (some (74, true))⟩,
                 ⟨(some 80), (.pick (.tmp 74) (.tmp 79) (.cst (.d (.bool false)))), none⟩] []) (
              .cond (.tmp 80) (
               .seq (
                .region false [⟨(some 81), (.fieldAddr 1 (.tmp 10)), none⟩,
                  ⟨(some 82), (.load false 1 (.tmp 81)), none⟩,
                  ⟨(some 2), (.mv (.tmp 82)), none⟩] []) (
               .ret)) (
               .skip)))) (
            .region false [⟨(some 68), (.mv (.tmp 12)), none⟩,
              ⟨(some 69), (.bin .add (.tmp 68) (.cst (.d (.int .i64 1)))), none⟩,
              ⟨(some 12), (.mv (.tmp 69)), none⟩] []))))))) (
        .region false [⟨(some 63), (.mv (.tmp 11)), none⟩,
          ⟨(some 64), (.bin .add (.tmp 63) (.cst (.d (.int .i64 1)))), none⟩,
          ⟨(some 11), (.mv (.tmp 64)), none⟩] [])))))))) (
    .region false [⟨(some 83), (.bin .add (.tmp 56) (.cst (.d (.int .i64 1)))), none⟩, ⟨(some 56), (.mv (.tmp 83)), none⟩] []))))))) (
 .seq (
  .region false [⟨(some 2), (.mv (.cst (.d (.int .i64 0)))), none⟩] []) (
 .ret))))))))
def R_ref23_Check : List LRes := [(.tmp 2)]
def V_ref23_Check : List Nat := [0, 1, 4, 7, 3, 26, 8, 31, 5, 42, 6, 48, 56, 55, 57, 54, 11, 62, 12, 67, 10, 80, 2]

def L_ref23_Order (n_ref02_Put : Nat) (n_ref23_Atomic : Nat) (n_ref02_Has : Nat) (n_ref02_Plus : Nat) : LCode :=
 .seq (
  .region false [⟨(some 1), (.box 0 (.tmp 0)), none⟩, ⟨(some 2), (.mv (.cst (.d (.list [] true)))), none⟩] []) (
 .seq (
  .region false [⟨(some 10), (.fieldAddr 1 (.tmp 1)), none⟩,
    ⟨(some 11), (.load false 1 (.tmp 10)), none⟩,
    ⟨(some 12), (.len (.tmp 11)), none⟩,
    ⟨(some 3), (.mv (.tmp 12)), none⟩] []) (
 .seq (
  .region false [⟨(some 13), (.mv (.tmp 3)), none⟩,
    ⟨(some 14), (.mkslice 0 1 8 [(.d (.int .u64 0))] (.tmp 13) (.tmp 13)), none⟩,
    ⟨(some 4), (.mv (.tmp 14)), none⟩] []) (
 .seq (
  .seq (
   .region false [⟨(some 5), (.mv (.cst (.d (.int .i64 0)))), none⟩] []) (
  .block 0 (
   .loop (
    .seq (
     .seq (
      .region false [⟨(some 15), (.mv (.tmp 5)), none⟩,
        ⟨(some 16), (.mv (.tmp 3)), none⟩,
        ⟨(some 17), (.bin .lss (.tmp 15) (.tmp 16)), none⟩] []) (
     .cond (.tmp 17) (
      .skip) (
      (.exit 0)))) (
    .seq (
     .block 1 (
      .seq (
       .region false [⟨(some 6), (.mv (.cst (.d (.int .i64 0)))), none⟩] []) (
      .block 2 (
       .loop (
        .seq (
         .seq (
          .region false [⟨(some 20), (.mv (.tmp 6)), none⟩,
            ⟨(some 21), (.mv (.tmp 3)), none⟩,
            ⟨(some 22), (.bin .lss (.tmp 20) (.tmp 21)), none⟩] []) (
         .cond (.tmp 22) (
          .skip) (
          (.exit 2)))) (
        .seq (
         .block 3 (
          .seq (
           .region true [⟨(some 25), (.fieldAddr 1 (.tmp 1)), none⟩,
             ⟨(some 26), (.load false 1 (.tmp 25)), none⟩,
             ⟨(some 27), (.mv (.tmp 5)), none⟩,
             ⟨(some 28), (.idxAddr 5 (.tmp 26) (.tmp 27)), none⟩,
             ⟨(some 29), (.fieldAddr 0 (.tmp 28)), none⟩,
             ⟨(some 30), (.load false 1 (.tmp 29)), none⟩,
             ⟨(some 31), (.fieldAddr 1 (.tmp 1)), none⟩,
             ⟨(some 32), (.load false 1 (.tmp 31)), none⟩,
             ⟨(some 33), (.mv (.tmp 6)), none⟩,
             ⟨(some 34), (.idxAddr 5 (.tmp 32) (.tmp 33)), none⟩,
             ⟨(some 35), (.fieldAddr 0 (.tmp 34)), none⟩,
             ⟨(some 36), (.load false 1 (.tmp 35)), none⟩,
             ⟨(some 7), (.mv (.tmp 30)), none⟩,
             ⟨(some 8), (.mv (.tmp 36)), none⟩] []) (
          .seq (
           .region false [⟨(some 37), (.load true 4 (.tmp 1)), none⟩,
             ⟨(some 38), (.mv (.tmp 5)), none⟩,
             ⟨(some 39), (.call 0 false (.cst (.d (.fn n_ref23_Atomic))) [(.tmp 37), (.tmp 38)]), none⟩,
             ⟨(some 40), (.mv (.tmp 39)), none⟩,
             ⟨(some 41), (.fieldAddr 2 (.tmp 1)), (some (40, true))⟩,
             ⟨(some 42), (.load false 1 (.tmp 41)), (some (40, true))⟩,
             ⟨(some 43), (.mv (.tmp 5)), (some (40, true))⟩,
             ⟨(some 44), (.mv (.tmp 6)), (some (40, true))⟩,
             ⟨(some 45), (.call 0 false (.cst (.d (.fn n_ref02_Has))) [(.tmp 42), (.tmp 43), (.tmp 44)]), (some (40, true))⟩,
             ⟨(some 46), (.mv (.tmp 45)), (some (40, true))⟩,
             ⟨(some 47), (.fieldAddr 3 (.tmp 1)), (some (46, false))⟩,
             ⟨(some 48), (.load false 1 (.tmp 47)), (some (46, false))⟩,
             ⟨(some 49), (.mv (.tmp 5)), (some (46, false))⟩,
             ⟨(some 50), (.mv (.tmp 6)), (some (46, false))⟩,
             ⟨(some 51), (.call 0 false (.cst (.d (.fn n_ref02_Has))) [(.tmp 48), (.tmp 49), (.tmp 50)]), (some (46, false))⟩,
             ⟨(some 52), (.pick (.tmp 46) (.cst (.d (.bool true))) (.tmp 51)), (some (40, true))⟩,
             ⟨(some 53), (.pick (.tmp 40) (.tmp 52) (.cst (.d (.bool false)))), none⟩,
             ⟨(some 9), (.mv (.tmp 53)), none⟩] []) (
          .seq (
           .region false [⟨(some 54), (.mv (.tmp 7)), none⟩,
             ⟨(some 55), (.bin .eql (.tmp 54) (.cst (.d (.int .i64 (-1))))), none⟩,
             ⟨(some 56), (.mv (.tmp 55)), none⟩,
             ⟨(some 57), (.mv (.tmp 8)), (some (56, true))⟩,
             ⟨(some 58), (.bin .neq (.tmp 57) (.cst (.d (.int .i64 (-1))))), (some (56, true))⟩,
             ⟨(some 59), (.pick (.tmp 56) (.tmp 58) (.cst (.d (.bool false)))), none⟩,
             ⟨(some 60), (.mv (.tmp 59)), none⟩,
             ⟨(some 61), (.mv (.tmp 7)), (some (60, false))⟩,
             ⟨(some 62), (.bin .neq (.tmp 61) (.cst (.d (.int .i64 (-1))))), (some (60, false))⟩,
             ⟨(some 63), (.mv (.tmp 62)), (some (60, false))⟩,
             ⟨(some 64), (.mv (.tmp 7)), (some (63, true))⟩,
             ⟨(some 65), (.mv (.tmp 8)), (some (63, true))⟩,
             ⟨(some 66), (.bin .eql (.tmp 64) (.tmp 65)), (some (63, true))⟩,
             ⟨(some 67), (.pick (.tmp 63) (.tmp 66) (.cst (.d (.bool false)))), (some (60, false))⟩,
             ⟨(some 68), (.mv (.tmp 67)), (some (60, false))⟩,
             ⟨(some 69), (.mv (.tmp 5)), (some (68, true))⟩,
             ⟨(some 70), (.mv (.tmp 6)), (some (68, true))⟩,
             ⟨(some 71), (.bin .lss (.tmp 69) (.tmp 70)), (some (68, true))⟩,
             ⟨(some 72), (.pick (.tmp 68) (.tmp 71) (.cst (.d (.bool false)))), (some (60, false))⟩,
             ⟨(some 73), (.pick (.tmp 60) (.cst (.d (.bool true))) (.tmp 72)), none⟩,
             ⟨(some 74), (.mv (.tmp 73)), none⟩,
             ⟨(some 75), (.mv (.tmp 9)), (some (74, false))⟩,
             ⟨(some 76), (.pick (.tmp 74) (.cst (.d (.bool true))) (.tmp 75)), none⟩] []) (
          .cond (.tmp 76) (
           .region false [⟨(some 77), (.mv (.tmp 4)), none⟩,
             ⟨(some 78), (.mv (.tmp 5)), none⟩,
             ⟨(some 79), (.mv (.tmp 6)), none⟩,
             ⟨(some 80), (.call 0 false (.cst (.d (.fn n_ref02_Put))) [(.tmp 77), (.tmp 78), (.tmp 79)]), none⟩] []) (
           .skip)))))) (
        .region false [⟨(some 23), (.mv (.tmp 6)), none⟩,
          ⟨(some 24), (.bin .add (.tmp 23) (.cst (.d (.int .i64 1)))), none⟩,
          ⟨(some 6), (.mv (.tmp 24)), none⟩] []))))))) (
    .region false [⟨(some 18), (.mv (.tmp 5)), none⟩,
      ⟨(some 19), (.bin .add (.tmp 18) (.cst (.d (.int .i64 1)))), none⟩,
      ⟨(some 5), (.mv (.tmp 19)), none⟩] [])))))) (
 .seq (
  .region false [⟨(some 81), (.mv (.tmp 4)), none⟩,
    ⟨(some 82), (.call 0 true (.cst (.d (.fn n_ref02_Plus))) [(.tmp 81)]), none⟩,
    ⟨(some 2), (.mv (.tmp 82)), none⟩] []) (
 .ret)))))
def R_ref23_Order : List LRes := [(.tmp 2)]
def V_ref23_Order : List Nat := [0, 1, 3, 5, 17, 6, 22, 7, 8, 9, 76, 4, 2]

def L_ref23_Fr (n_ref02_Put : Nat) (n_ref02_Has : Nat) (n_ref23_source : Nat) : LCode :=
 .seq (
  .region false [⟨(some 1), (.box 0 (.tmp 0)), none⟩, ⟨(some 2), (.mv (.cst (.d (.list [] true)))), none⟩] []) (
 .seq (
  .region false [⟨(some 8), (.fieldAddr 1 (.tmp 1)), none⟩,
    ⟨(some 9), (.load false 1 (.tmp 8)), none⟩,
    ⟨(some 10), (.len (.tmp 9)), none⟩,
    ⟨(some 3), (.mv (.tmp 10)), none⟩] []) (
 .seq (
  .region false [⟨(some 11), (.mv (.tmp 3)), none⟩,
    ⟨(some 12), (.mkslice 0 1 8 [(.d (.int .u64 0))] (.tmp 11) (.tmp 11)), none⟩,
    ⟨(some 4), (.mv (.tmp 12)), none⟩] []) (
 .seq (
  .seq (
   .region false [⟨(some 5), (.mv (.cst (.d (.int .i64 0)))), none⟩] []) (
  .block 0 (
   .loop (
    .seq (
     .seq (
      .region false [⟨(some 13), (.mv (.tmp 5)), none⟩,
        ⟨(some 14), (.mv (.tmp 3)), none⟩,
        ⟨(some 15), (.bin .lss (.tmp 13) (.tmp 14)), none⟩] []) (
     .cond (.tmp 15) (
      .skip) (
      (.exit 0)))) (
    .seq (
     .block 1 (
      .seq (
       .region false [⟨(some 18), (.load true 4 (.tmp 1)), none⟩,
         ⟨(some 19), (.mv (.tmp 5)), none⟩,
         ⟨(some 20), (.call 0 false (.cst (.d (.fn n_ref23_source))) [(.tmp 18), (.tmp 19)]), none⟩,
         ⟨(some 6), (.mv (.tmp 20)), none⟩] []) (
      .seq (
       .region false [⟨(some 7), (.mv (.cst (.d (.int .i64 0)))), none⟩] []) (
      .block 2 (
       .loop (
        .seq (
         .seq (
          .region false [⟨(some 21), (.mv (.tmp 7)), none⟩,
            ⟨(some 22), (.mv (.tmp 3)), none⟩,
            ⟨(some 23), (.bin .lss (.tmp 21) (.tmp 22)), none⟩] []) (
         .cond (.tmp 23) (
          .skip) (
          (.exit 2)))) (
        .seq (
         .block 3 (
          .seq (
           .region false [⟨(some 26), (.mv (.tmp 6)), none⟩,
             ⟨(some 27), (.bin .geq (.tmp 26) (.cst (.d (.int .i64 0)))), none⟩,
             ⟨(some 28), (.mv (.tmp 27)), none⟩,
             ⟨(some 29), (.mv (.tmp 7)), (some (28, true))⟩,
             ⟨(some 30), (.mv (.tmp 5)), (some (28, true))⟩,
             ⟨(some 31), (.bin .neq (.tmp 29) (.tmp 30)), (some (28, true))⟩,
             ⟨(some 32), (.pick (.tmp 28) (.tmp 31) (.cst (.d (.bool false)))), none⟩,
             ⟨(some 33), (.mv (.tmp 32)), none⟩,
             ⟨(some 34), (.fieldAddr 3 (.tmp 1)), (some (33, true))⟩,
             ⟨(some 35), (.load false 1 (.tmp 34)), (some (33, true))⟩,
             ⟨(some 36), (.mv (.tmp 6)), (some (33, true))⟩,
             ⟨(some 37), (.mv (.tmp 7)), (some (33, true))⟩,
             ⟨(some 38), (.call 0 false (.cst (.d (.fn n_ref02_Has))) [(.tmp 35), (.tmp 36), (.tmp 37)]), (some (33, true))⟩,
             ⟨(some 39), (.pick (.tmp 33) (.tmp 38) (.cst (.d (.bool false)))), none⟩] []) (
          .cond (.tmp 39) (
           .region false [⟨(some 40), (.mv (.tmp 4)), none⟩,
             ⟨(some 41), (.mv (.tmp 5)), none⟩,
             ⟨(some 42), (.mv (.tmp 7)), none⟩,
             ⟨(some 43), (.call 0 false (.cst (.d (.fn n_ref02_Put))) [(.tmp 40), (.tmp 41), (.tmp 42)]), none⟩] []) (
           .skip)))) (
        .region false [⟨(some 24), (.mv (.tmp 7)), none⟩,
          ⟨(some 25), (.bin .add (.tmp 24) (.cst (.d (.int .i64 1)))), none⟩,
          ⟨(some 7), (.mv (.tmp 25)), none⟩] [])))))))) (
    .region false [⟨(some 16), (.mv (.tmp 5)), none⟩,
      ⟨(some 17), (.bin .add (.tmp 16) (.cst (.d (.int .i64 1)))), none⟩,
      ⟨(some 5), (.mv (.tmp 17)), none⟩] [])))))) (
 .seq (
  .region false [⟨(some 44), (.mv (.tmp 4)), none⟩, ⟨(some 2), (.mv (.tmp 44)), none⟩] []) (
 .ret)))))
def R_ref23_Fr : List LRes := [(.tmp 2)]
def V_ref23_Fr : List Nat := [0, 1, 3, 5, 15, 7, 23, 6, 39, 4, 2]

def L_ref23_Atomic : LCode :=
 .seq (
  .region false [⟨(some 2), (.box 0 (.tmp 0)), none⟩, ⟨(some 4), (.mv (.cst (.d (.bool false)))), none⟩] []) (
 .seq (
  .region false [⟨(some 5), (.fieldAddr 1 (.tmp 2)), none⟩,
    ⟨(some 6), (.load false 1 (.tmp 5)), none⟩,
    ⟨(some 7), (.mv (.tmp 1)), none⟩,
    ⟨(some 8), (.idxAddr 5 (.tmp 6) (.tmp 7)), none⟩,
    ⟨(some 9), (.fieldAddr 1 (.tmp 8)), none⟩,
    ⟨(some 10), (.fieldAddr 0 (.tmp 9)), none⟩,
    ⟨(some 11), (.load false 1 (.tmp 10)), none⟩,
    ⟨(some 12), (.bin .geq (.tmp 11) (.cst (.d (.int .i64 3)))), none⟩,
    ⟨(some 4), (.mv (.tmp 12)), none⟩] []) (
 .ret))
def R_ref23_Atomic : List LRes := [(.tmp 4)]
def V_ref23_Atomic : List Nat := [0, 2, 1, 4]

def L_ref23_source (n_ref02_Has : Nat) : LCode :=
 .seq (
  .region false [⟨(some 2), (.box 0 (.tmp 0)), none⟩, ⟨(some 4), (.mv (.cst (.d (.int .i64 0)))), none⟩] []) (
 .seq (
  .seq (
   .region false [⟨(some 5), (.mv (.cst (.d (.int .i64 0)))), none⟩] []) (
  .block 0 (
   .loop (
    .seq (
     .seq (
      .region false [⟨(some 6), (.mv (.tmp 5)), none⟩,
        ⟨(some 7), (.fieldAddr 1 (.tmp 2)), none⟩,
        ⟨(some 8), (.load false 1 (.tmp 7)), none⟩,
        ⟨(some 9), (.len (.tmp 8)), none⟩,
        ⟨(some 10), (.bin .lss (.tmp 6) (.tmp 9)), none⟩] []) (
     .cond (.tmp 10) (
      .skip) (
      (.exit 0)))) (
    .seq (
     .block 1 (
      .seq (
       .region false [⟨(some 13), (.fieldAddr 2 (.tmp 2)), none⟩,
         ⟨(some 14), (.load false 1 (.tmp 13)), none⟩,
         ⟨(some 15), (.mv (.tmp 5)), none⟩,
         ⟨(some 16), (.mv (.tmp 1)), none⟩,
         ⟨(some 17), (.call 0 false (.cst (.d (.fn n_ref02_Has))) [(.tmp 14), (.tmp 15), (.tmp 16)]), none⟩] []) (
      .cond (.tmp 17) (
       .seq (
        .region false [⟨(some 18), (.mv (.tmp 5)), none⟩, ⟨(some 4), (.mv (.tmp 18)), none⟩] []) (
       .ret)) (
       .skip)))) (
    .region false [⟨(some 11), (.mv (.tmp 5)), none⟩,
      ⟨(some 12), (.bin .add (.tmp 11) (.cst (.d (.int .i64 1)))), none⟩,
      ⟨(some 5), (.mv (.tmp 12)), none⟩] [])))))) (
 .seq (
  .region false [⟨(some 4), (.mv (.cst (.d (.int .i64 (-1))))), none⟩] []) (
 .ret)))
def R_ref23_source : List LRes := [(.tmp 4)]
def V_ref23_source : List Nat := [0, 5, 2, 10, 1, 17, 4]

end Go.Ago

/- Lowered functions of a package, callees by their numbers. Printed by a program of this session. Conditions: none. -/
set_option maxRecDepth 100000
set_option linter.unusedVariables false
namespace Go.Ago
def L_law23_AxiomJudges (n_law23_awake : Nat) (n_law23_small : Nat) (n_axiom_Build : Nat) (n_axiom_Check : Nat) (n_ref23_Check : Nat) (n_ref02_Same : Nat) (n_axiom_Order : Nat) (n_ref23_Order : Nat) (n_axiom_Fr : Nat) (n_ref23_Fr : Nat) : LCode :=
 .seq (
  .region false [⟨(some 8), (.mv (.cst (.d (.bool false)))), none⟩] []) (
 .seq (
  .seq (
   .region false [⟨(some 11), (.call 0 false (.cst (.d (.fn n_law23_awake))) []), none⟩, ⟨(some 12), (.un .not (.tmp 11)), none⟩] []) (
  .cond (.tmp 12) (
   .seq (
    .region false [⟨(some 8), (.mv (.cst (.d (.bool false)))), none⟩] []) (
   .ret)) (
   .skip))) (
 .seq (
  .seq (
   .region false [⟨(some 13), (.mv (.tmp 0)), none⟩,
     ⟨(some 14), (.mv (.tmp 1)), none⟩,
     ⟨(some 15), (.mv (.tmp 2)), none⟩,
     ⟨(some 16), (.mv (.tmp 3)), none⟩,
     ⟨(some 17), (.call 0 false (.cst (.d (.fn n_law23_small))) [(.tmp 13), (.tmp 14), (.tmp 15), (.tmp 16)]), none⟩,
     ⟨(some 18), (.un .not (.tmp 17)), none⟩] []) (
  .cond (.tmp 18) (
   .seq (
    .region false [⟨(some 8), (.mv (.cst (.d (.bool true)))), none⟩] []) (
   .ret)) (
   .skip))) (
 .seq (
  .region false [⟨(some 20), (.mv (.tmp 0)), none⟩,
    ⟨(some 21), (.mv (.tmp 1)), none⟩,
    ⟨(some 22), (.mv (.tmp 2)), none⟩,
    ⟨(some 23), (.mv (.tmp 3)), none⟩,
    ⟨(some 24), (.call 0 false (.cst (.d (.fn n_axiom_Build))) [(.tmp 20), (.tmp 21), (.tmp 22), (.tmp 23)]), none⟩,
    ⟨(some 19), (.mv (.tmp 24)), none⟩,
    ⟨(some 25), (.extract 0 (.tmp 19)), none⟩,
    ⟨(some 26), (.extract 1 (.tmp 19)), none⟩,
    ⟨(some 9), (.alloc 0 4 [(.d (.list [] true)), (.d (.list [] true)), (.d (.list [] true)), (.d (.list [] true))]), none⟩,
    ⟨none, (.store 4 (.tmp 9) (.tmp 25)), none⟩,
    ⟨(some 10), (.mv (.tmp 26)), none⟩] []) (
 .seq (
  .seq (
   .region false [⟨(some 27), (.mv (.tmp 10)), none⟩, ⟨(some 28), (.bin .neq (.tmp 27) (.cst (.d (.int .i64 0)))), none⟩] []) (
  .cond (.tmp 28) (
   .seq (
    .region false [⟨(some 29), (.fieldAddr 1 (.tmp 9)), none⟩,
      ⟨(some 30), (.load false 1 (.tmp 29)), none⟩,
      ⟨(some 31), (.len (.tmp 30)), none⟩,
      ⟨(some 32), (.bin .eql (.tmp 31) (.cst (.d (.int .i64 0)))), none⟩,
      ⟨(some 8), (.mv (.tmp 32)), none⟩] []) (
   .ret)) (
   .skip))) (
 .seq (
  .region true [⟨(some 33), (.load true 4 (.tmp 9)), none⟩,
    ⟨(some 34), (.call 0 false (.cst (.d (.fn n_axiom_Check))) [(.tmp 33)]), none⟩,
    ⟨(some 35), (.load true 4 (.tmp 9)), none⟩,
    ⟨(some 36), (.call 0 false (.cst (.d (.fn n_ref23_Check))) [(.tmp 35)]), none⟩,
    ⟨(some 37), (.bin .eql (.tmp 34) (.tmp 36)), none⟩,
    ⟨(some 38), (.mv (.tmp 37)), none⟩,
    ⟨(some 39), (.load true 4 (.tmp 9)), (some (38, true))⟩,
    ⟨(some 40), (.call 0 true (.cst (.d (.fn n_axiom_Order))) [(.tmp 39)]), (some (38, true))⟩,
    ⟨(some 41), (.load true 4 (.tmp 9)), (some (38, true))⟩,
    ⟨(some 42), (.call 1 true (.cst (.d (.fn n_ref23_Order))) [(.tmp 41)]), (some (38, true))⟩,
    ⟨(some 43), (.call 2 false (.cst (.d (.fn n_ref02_Same))) [(.tmp 40), (.tmp 42)]), (some (38, true))⟩,
    ⟨(some 44), (.pick (.tmp 38) (.tmp 43) (.cst (.d (.bool false)))), none⟩,
    ⟨(some 45), (.mv (.tmp 44)), none⟩,
    ⟨(some 46), (.load true 4 (.tmp 9)), (some (45, true))⟩,
    ⟨(some 47), (.call 2 true (.cst (.d (.fn n_axiom_Fr))) [(.tmp 46)]), (some (45, true))⟩,
    ⟨(some 48), (.load true 4 (.tmp 9)), (some (45, true))⟩,
    ⟨(some 49), (.call 3 true (.cst (.d (.fn n_ref23_Fr))) [(.tmp 48)]), (some (45, true))⟩,
    ⟨(some 50), (.call 4 false (.cst (.d (.fn n_ref02_Same))) [(.tmp 47), (.tmp 49)]), (some (45, true))⟩,
    ⟨(some 51), (.pick (.tmp 45) (.tmp 50) (.cst (.d (.bool false)))), none⟩,
    ⟨(some 8), (.mv (.tmp 51)), none⟩] [(1, 2), (7, 8), (14, 15)]) (
 .ret))))))
def R_law23_AxiomJudges : List LRes := [(.tmp 8)]
def V_law23_AxiomJudges : List Nat := [12, 0, 1, 2, 3, 18, 10, 28, 9, 8]

def L_law23_awake (n_axiom_Build : Nat) (n_axiom_Check : Nat) (n_axiom_Order : Nat) (n_axiom_Fr : Nat) (n_rel_Has : Nat) : LCode :=
 .seq (
  .region false [⟨(some 0), (.mv (.cst (.d (.bool false)))), none⟩] []) (
 .seq (
  .region false [⟨(some 4), (.build [(.d (.int .i64 0)), (.d (.int .i64 0)), (.d (.int .i64 0)), (.d (.int .i64 0))] [(0, (1, (.cst (.d (.int .i64 2))))), (3, (1, (.cst (.d (.int .i64 1)))))]), none⟩,
    ⟨(some 5), (.bslice 0 4 1 [(.d (.int .i64 0)), (.d (.int .i64 0)), (.d (.int .i64 0)), (.d (.int .i64 0))] [(0, (.tmp 4))]), none⟩,
    ⟨(some 6), (.build [(.d (.int .i64 0)), (.d (.int .i64 0)), (.d (.int .i64 0)), (.d (.int .i64 0))] [(0, (1, (.cst (.d (.int .i64 1))))), (2, (1, (.cst (.d (.int .i64 1)))))]), none⟩,
    ⟨(some 7), (.build [(.d (.int .i64 0)), (.d (.int .i64 0)), (.d (.int .i64 0)), (.d (.int .i64 0))] [(0, (1, (.cst (.d (.int .i64 1)))))]), none⟩,
    ⟨(some 8), (.bslice 1 4 2 [(.d (.int .i64 0)), (.d (.int .i64 0)), (.d (.int .i64 0)), (.d (.int .i64 0))] [(0, (.tmp 6)), (1, (.tmp 7))]), none⟩,
    ⟨(some 9), (.bslice 2 1 2 [(.d (.list [] true))] [(0, (.tmp 5)), (1, (.tmp 8))]), none⟩,
    ⟨(some 1), (.mv (.tmp 9)), none⟩] []) (
 .seq (
  .region false [⟨(some 11), (.mkslice 0 2 16 [(.d (.bool false)), (.d (.int .i64 0))] (.cst (.d (.int .i64 1))) (.cst (.d (.int .i64 1)))), none⟩,
    ⟨(some 12), (.mv (.tmp 1)), none⟩,
    ⟨(some 13), (.bslice 1 1 2 [(.d (.int .i64 0))] [(0, (.cst (.d (.int .i64 1)))), (1, (.cst (.d (.int .i64 0))))]), none⟩,
    ⟨(some 14), (.bslice 2 1 1 [(.d (.int .i64 0))] [(0, (.cst (.d (.int .i64 1))))]), none⟩,
    ⟨(some 15), (.bslice 3 1 1 [(.d (.list [] true))] [(0, (.tmp 14))]), none⟩,
    ⟨(some 16), (.call 4 false (.cst (.d (.fn n_axiom_Build))) [(.tmp 11), (.tmp 12), (.tmp 13), (.tmp 15)]), none⟩,
    ⟨(some 10), (.mv (.tmp 16)), none⟩,
    ⟨(some 17), (.extract 0 (.tmp 10)), none⟩,
    ⟨(some 18), (.extract 1 (.tmp 10)), none⟩,
    ⟨(some 2), (.alloc 4 4 [(.d (.list [] true)), (.d (.list [] true)), (.d (.list [] true)), (.d (.list [] true))]), none⟩,
    ⟨none, (.store 4 (.tmp 2) (.tmp 17)), none⟩,
    ⟨(some 3), (.mv (.tmp 18)), none⟩] []) (
 .seq (
  .region false [⟨(some 19), (.mv (.tmp 3)), none⟩,
    ⟨(some 20), (.bin .eql (.tmp 19) (.cst (.d (.int .i64 0)))), none⟩,
    ⟨(some 21), (.mv (.tmp 20)), none⟩,
    ⟨(some 22), (.fieldAddr 1 (.tmp 2)), (some (21, true))⟩,
    ⟨(some 23), (.load false 1 (.tmp 22)), (some (21, true))⟩,
    ⟨(some 24), (.len (.tmp 23)), (some (21, true))⟩,
    ⟨(some 25), (.bin .eql (.tmp 24) (.cst (.d (.int .i64 4)))), (some (21, true))⟩,
    ⟨(some 26), (.pick (.tmp 21) (.tmp 25) (.cst (.d (.bool false)))), none⟩,
    ⟨(some 27), (.mv (.tmp 26)), none⟩,
    ⟨(some 28), (.load true 4 (.tmp 2)), (some (27, true))⟩,
    ⟨(some 29), (.call 0 false (.cst (.d (.fn n_axiom_Check))) [(.tmp 28)]), (some (27, true))⟩,
    ⟨(some 30), (.bin .eql (.tmp 29) (.cst (.d (.int .i64 0)))), (some (27, true))⟩,
    ⟨(some 31), (.pick (.tmp 27) (.tmp 30) (.cst (.d (.bool false)))), none⟩,
    ⟨(some 32), (.mv (.tmp 31)), none⟩,
    ⟨(some 33), (.load true 4 (.tmp 2)), (some (32, true))⟩,
    ⟨(some 34), (.call 0 true (.cst (.d (.fn n_axiom_Fr))) [(.tmp 33)]), (some (32, true))⟩,
    ⟨(some 35), (.call 1 false (.cst (.d (.fn n_rel_Has))) [(.tmp 34), (.cst (.d (.int .i64 3))), (.cst (.d (.int .i64 1)))]), (some (32, true))⟩,
    ⟨(some 36), (.pick (.tmp 32) (.tmp 35) (.cst (.d (.bool false)))), none⟩,
    ⟨(some 37), (.mv (.tmp 36)), none⟩,
    ⟨(some 38), (.load true 4 (.tmp 2)), (some (37, true))⟩,
    ⟨(some 39), (.call 1 true (.cst (.d (.fn n_axiom_Order))) [(.tmp 38)]), (some (37, true))⟩,
    ⟨(some 40), (.call 2 false (.cst (.d (.fn n_rel_Has))) [(.tmp 39), (.cst (.d (.int .i64 2))), (.cst (.d (.int .i64 3)))]), (some (37, true))⟩,
    ⟨(some 41), (.pick (.tmp 37) (.tmp 40) (.cst (.d (.bool false)))), none⟩,
    ⟨(some 0), (.mv (.tmp 41)), none⟩] []) (
 .ret))))
def R_law23_awake : List LRes := [(.tmp 0)]
def V_law23_awake : List Nat := [1, 3, 2, 0]

def L_law23_small : LCode :=
 .seq (
  .region false [⟨(some 8), (.mv (.cst (.d (.bool false)))), none⟩] []) (
 .seq (
  .seq (
   .region false [⟨(some 11), (.mv (.tmp 0)), none⟩,
     ⟨(some 12), (.len (.tmp 11)), none⟩,
     ⟨(some 13), (.bin .gtr (.tmp 12) (.cst (.d (.int .i64 20)))), none⟩,
     ⟨(some 14), (.mv (.tmp 13)), none⟩,
     ⟨(some 15), (.mv (.tmp 1)), (some (14, false))⟩,
     ⟨(some 16), (.len (.tmp 15)), (some (14, false))⟩,
     ⟨(some 17), (.bin .gtr (.tmp 16) (.cst (.d (.int .i64 5)))), (some (14, false))⟩,
     ⟨(some 18), (.pick (.tmp 14) (.cst (.d (.bool true))) (.tmp 17)), none⟩,
     ⟨(some 19), (.mv (.tmp 18)), none⟩,
     ⟨(some 20), (.mv (.tmp 2)), (some (19, false))⟩,
     ⟨(some 21), (.len (.tmp 20)), (some (19, false))⟩,
     ⟨(some 22), (.bin .gtr (.tmp 21) (.cst (.d (.int .i64 100)))), (some (19, false))⟩,
     ⟨(some 23), (.pick (.tmp 19) (.cst (.d (.bool true))) (.tmp 22)), none⟩,
     ⟨(some 24), (.mv (.tmp 23)), none⟩,
     ⟨(some 25), (.mv (.tmp 3)), (some (24, false))⟩,
     ⟨(some 26), (.len (.tmp 25)), (some (24, false))⟩,
     ⟨(some 27), (.bin .gtr (.tmp 26) (.cst (.d (.int .i64 20)))), (some (24, false))⟩,
     ⟨(some 28), (.pick (.tmp 24) (.cst (.d (.bool true))) (.tmp 27)), none⟩] []) (
  .cond (.tmp 28) (
   .seq (
    .region false [⟨(some 8), (.mv (.cst (.d (.bool false)))), none⟩] []) (
   .ret)) (
   .skip))) (
 .seq (
  .seq (
   .region false [⟨(some 9), (.mv (.cst (.d (.int .i64 0)))), none⟩] []) (
  .block 0 (
   .loop (
    .seq (
     .seq (
      .region false [⟨(some 29), (.mv (.tmp 9)), none⟩,
        ⟨(some 30), (.mv (.tmp 1)), none⟩,
        ⟨(some 31), (.len (.tmp 30)), none⟩,
        ⟨(some 32), (.bin .lss (.tmp 29) (.tmp 31)), none⟩] []) (
     .cond (.tmp 32) (
      .skip) (
      (.exit 0)))) (
    .seq (
     .block 1 (
      .seq (
       .region false [⟨(some 35), (.mv (.tmp 1)), none⟩,
         ⟨(some 36), (.mv (.tmp 9)), none⟩,
         ⟨(some 37), (.idxAddr 1 (.tmp 35) (.tmp 36)), none⟩,
         ⟨(some 38), (.load false 1 (.tmp 37)), none⟩,
         ⟨(some 39), (.len (.tmp 38)), none⟩,
         ⟨(some 40), (.bin .gtr (.tmp 39) (.cst (.d (.int .i64 70)))), none⟩] []) (
      .cond (.tmp 40) (
       .seq (
        .region false [⟨(some 8), (.mv (.cst (.d (.bool false)))), none⟩] []) (
       .ret)) (
       .skip)))) (
    .region false [⟨(some 33), (.mv (.tmp 9)), none⟩,
      ⟨(some 34), (.bin .add (.tmp 33) (.cst (.d (.int .i64 1)))), none⟩,
      ⟨(some 9), (.mv (.tmp 34)), none⟩] [])))))) (
 .seq (
  .seq (
   .region false [⟨(some 10), (.mv (.cst (.d (.int .i64 0)))), none⟩] []) (
  .block 2 (
   .loop (
    .seq (
     .seq (
      .region false [⟨(some 41), (.mv (.tmp 10)), none⟩,
        ⟨(some 42), (.mv (.tmp 3)), none⟩,
        ⟨(some 43), (.len (.tmp 42)), none⟩,
        ⟨(some 44), (.bin .lss (.tmp 41) (.tmp 43)), none⟩] []) (
     .cond (.tmp 44) (
      .skip) (
      (.exit 2)))) (
    .seq (
     .block 3 (
      .seq (
       .region false [⟨(some 47), (.mv (.tmp 3)), none⟩,
         ⟨(some 48), (.mv (.tmp 10)), none⟩,
         ⟨(some 49), (.idxAddr 1 (.tmp 47) (.tmp 48)), none⟩,
         ⟨(some 50), (.load false 1 (.tmp 49)), none⟩,
         ⟨(some 51), (.len (.tmp 50)), none⟩,
         ⟨(some 52), (.bin .gtr (.tmp 51) (.cst (.d (.int .i64 100)))), none⟩] []) (
      .cond (.tmp 52) (
       .seq (
        .region false [⟨(some 8), (.mv (.cst (.d (.bool false)))), none⟩] []) (
       .ret)) (
       .skip)))) (
    .region false [⟨(some 45), (.mv (.tmp 10)), none⟩,
      ⟨(some 46), (.bin .add (.tmp 45) (.cst (.d (.int .i64 1)))), none⟩,
      ⟨(some 10), (.mv (.tmp 46)), none⟩] [])))))) (
 .seq (
  .region false [⟨(some 8), (.mv (.cst (.d (.bool true)))), none⟩] []) (
 .ret)))))
def R_law23_small : List LRes := [(.tmp 8)]
def V_law23_small : List Nat := [0, 1, 2, 3, 28, 9, 32, 40, 10, 44, 52, 8]

end Go.Ago

/- Lowered functions of a package, callees by their numbers. Printed by a program of this session. Conditions: none. -/
set_option maxRecDepth 100000
set_option linter.unusedVariables false
namespace Go.Ago
def L_ref02_Same : LCode :=
 .seq (
  .region false [⟨(some 4), (.mv (.cst (.d (.bool false)))), none⟩] []) (
 .seq (
  .seq (
   .region false [⟨(some 6), (.mv (.tmp 0)), none⟩,
     ⟨(some 7), (.len (.tmp 6)), none⟩,
     ⟨(some 8), (.mv (.tmp 1)), none⟩,
     ⟨(some 9), (.len (.tmp 8)), none⟩,
     ⟨(some 10), (.bin .neq (.tmp 7) (.tmp 9)), none⟩] []) (
  .cond (.tmp 10) (
   .seq (
    .region false [⟨(some 4), (.mv (.cst (.d (.bool false)))), none⟩] []) (
   .ret)) (
   .skip))) (
 .seq (
  .seq (
   .region false [⟨(some 5), (.mv (.cst (.d (.int .i64 0)))), none⟩] []) (
  .block 0 (
   .loop (
    .seq (
     .seq (
      .region false [⟨(some 11), (.mv (.tmp 5)), none⟩,
        ⟨(some 12), (.mv (.tmp 0)), none⟩,
        ⟨(some 13), (.len (.tmp 12)), none⟩,
        ⟨(some 14), (.bin .lss (.tmp 11) (.tmp 13)), none⟩] []) (
     .cond (.tmp 14) (
      .skip) (
      (.exit 0)))) (
    .seq (
     .block 1 (
      .seq (
       .region true [⟨(some 17), (.mv (.tmp 0)), none⟩,
         ⟨(some 18), (.mv (.tmp 5)), none⟩,
         ⟨(some 19), (.idxAddr 1 (.tmp 17) (.tmp 18)), none⟩,
         ⟨(some 20), (.load false 1 (.tmp 19)), none⟩,
         ⟨(some 21), (.mv (.tmp 1)), none⟩,
         ⟨(some 22), (.mv (.tmp 5)), none⟩,
         ⟨(some 23), (.idxAddr 1 (.tmp 21) (.tmp 22)), none⟩,
         ⟨(some 24), (.load false 1 (.tmp 23)), none⟩,
         ⟨(some 25), (.bin .neq (.tmp 20) (.tmp 24)), none⟩] []) (
      .cond (.tmp 25) (
       .seq (
        .region false [⟨(some 4), (.mv (.cst (.d (.bool false)))), none⟩] []) (
       .ret)) (
       .skip)))) (
    .region false [⟨(some 15), (.mv (.tmp 5)), none⟩,
      ⟨(some 16), (.bin .add (.tmp 15) (.cst (.d (.int .i64 1)))), none⟩,
      ⟨(some 5), (.mv (.tmp 16)), none⟩] [])))))) (
 .seq (
  .region false [⟨(some 4), (.mv (.cst (.d (.bool true)))), none⟩] []) (
 .ret))))
def R_ref02_Same : List LRes := [(.tmp 4)]
def V_ref02_Same : List Nat := [0, 1, 10, 5, 14, 25, 4]

def L_ref02_Lay (n_ref02_Has : Nat) (n_ref02_Put : Nat) (n_ref02_most : Nat) : LCode :=
 .seq (
  .region false [⟨(some 6), (.mv (.cst (.d (.list [] true)))), none⟩] []) (
 .seq (
  .region false [⟨(some 13), (.mv (.tmp 0)), none⟩,
    ⟨(some 14), (.mv (.tmp 1)), none⟩,
    ⟨(some 15), (.call 0 false (.cst (.d (.fn n_ref02_most))) [(.tmp 13), (.tmp 14)]), none⟩,
    ⟨(some 7), (.mv (.tmp 15)), none⟩] []) (
 .seq (
  .region false [⟨(some 16), (.mv (.tmp 7)), none⟩,
    ⟨(some 17), (.mkslice 0 1 8 [(.d (.int .u64 0))] (.tmp 16) (.tmp 16)), none⟩,
    ⟨(some 8), (.mv (.tmp 17)), none⟩] []) (
 .seq (
  .seq (
   .region false [⟨(some 9), (.mv (.cst (.d (.int .i64 0)))), none⟩] []) (
  .block 0 (
   .loop (
    .seq (
     .seq (
      .region false [⟨(some 18), (.mv (.tmp 9)), none⟩,
        ⟨(some 19), (.mv (.tmp 7)), none⟩,
        ⟨(some 20), (.bin .lss (.tmp 18) (.tmp 19)), none⟩] []) (
     .cond (.tmp 20) (
      .skip) (
      (.exit 0)))) (
    .seq (
     .block 1 (
      .seq (
       .region false [⟨(some 10), (.mv (.cst (.d (.int .i64 0)))), none⟩] []) (
      .block 2 (
       .loop (
        .seq (
         .seq (
          .region false [⟨(some 23), (.mv (.tmp 10)), none⟩,
            ⟨(some 24), (.mv (.tmp 7)), none⟩,
            ⟨(some 25), (.bin .lss (.tmp 23) (.tmp 24)), none⟩] []) (
         .cond (.tmp 25) (
          .skip) (
          (.exit 2)))) (
        .seq (
         .block 3 (
          .seq (
           .region false [⟨(some 28), (.mv (.tmp 0)), none⟩,
             ⟨(some 29), (.mv (.tmp 9)), none⟩,
             ⟨(some 30), (.mv (.tmp 10)), none⟩,
             ⟨(some 31), (.call 0 false (.cst (.d (.fn n_ref02_Has))) [(.tmp 28), (.tmp 29), (.tmp 30)]), none⟩,
             ⟨(some 32), (.mv (.tmp 1)), none⟩,
             ⟨(some 33), (.mv (.tmp 9)), none⟩,
             ⟨(some 34), (.mv (.tmp 10)), none⟩,
             ⟨(some 35), (.call 0 false (.cst (.d (.fn n_ref02_Has))) [(.tmp 32), (.tmp 33), (.tmp 34)]), none⟩,
             ⟨(some 11), (.mv (.tmp 31)), none⟩,
             ⟨(some 12), (.mv (.tmp 35)), none⟩] []) (
          .seq (
           .region false [⟨(some 36), (.mv (.tmp 2)), none⟩,
             ⟨(some 37), (.bin .eql (.tmp 36) (.cst (.d (.int .i64 0)))), none⟩,
             ⟨(some 38), (.mv (.tmp 37)), none⟩,
             ⟨(some 39), (.mv (.tmp 11)), (some (38, true))⟩,
             ⟨(some 40), (.mv (.tmp 39)), (some (38, true))⟩,
             ⟨(some 41), (.mv (.tmp 12)), (some (40, false))⟩,
             ⟨(some 42), (.pick (.tmp 40) (.cst (.d (.bool true))) (.tmp 41)), (some (38, true))⟩,
             ⟨(some 43), (.pick (.tmp 38) (.tmp 42) (.cst (.d (.bool false)))), none⟩,
             ⟨(some 44), (.mv (.tmp 43)), none⟩,
             ⟨(some 45), (.mv (.tmp 2)), (some (44, false))⟩,
             ⟨(some 46), (.bin .eql (.tmp 45) (.cst (.d (.int .i64 1)))), (some (44, false))⟩,
             ⟨(some 47), (.mv (.tmp 46)), (some (44, false))⟩,
             ⟨(some 48), (.mv (.tmp 11)), (some (47, true))⟩,
             ⟨(some 49), (.pick (.tmp 47) (.tmp 48) (.cst (.d (.bool false)))), (some (44, false))⟩,
             ⟨(some 50), (.mv (.tmp 49)), (some (44, false))⟩,
             ⟨(some 51), (.mv (.tmp 12)), (some (50, true))⟩,
             ⟨(some 52), (.pick (.tmp 50) (.tmp 51) (.cst (.d (.bool false)))), (some (44, false))⟩,
             ⟨(some 53), (.pick (.tmp 44) (.cst (.d (.bool true))) (.tmp 52)), none⟩,
             ⟨(some 54), (.mv (.tmp 53)), none⟩,
             ⟨(some 55), (.mv (.tmp 2)), (some (54, false))⟩,
             ⟨(some 56), (.bin .eql (.tmp 55) (.cst (.d (.int .i64 2)))), (some (54, false))⟩,
             ⟨(some 57), (.mv (.tmp 56)), (some (54, false))⟩,
             ⟨(some 58), (.mv (.tmp 11)), (some (57, true))⟩,
             ⟨(some 59), (.pick (.tmp 57) (.tmp 58) (.cst (.d (.bool false)))), (some (54, false))⟩,
             ⟨(some 60), (.mv (.tmp 59)), (some (54, false))⟩,
             ⟨(some 61), (.mv (.tmp 12)), (some (60, true))⟩,
             ⟨(some 62), (.un .not (.tmp 61)), (some (60, true))⟩,
             ⟨(some 63), (.pick (.tmp 60) (.tmp 62) (.cst (.d (.bool false)))), (some (54, false))⟩,
             ⟨(some 64), (.pick (.tmp 54) (.cst (.d (.bool true))) (.tmp 63)), none⟩] []) (
          .cond (.tmp 64) (
           .region false [⟨(some 65), (.mv (.tmp 8)), none⟩,
             ⟨(some 66), (.mv (.tmp 9)), none⟩,
             ⟨(some 67), (.mv (.tmp 10)), none⟩,
             ⟨(some 68), (.call 0 false (.cst (.d (.fn n_ref02_Put))) [(.tmp 65), (.tmp 66), (.tmp 67)]), none⟩] []) (
           .skip))))) (
        .region false [⟨(some 26), (.mv (.tmp 10)), none⟩,
          ⟨(some 27), (.bin .add (.tmp 26) (.cst (.d (.int .i64 1)))), none⟩,
          ⟨(some 10), (.mv (.tmp 27)), none⟩] []))))))) (
    .region false [⟨(some 21), (.mv (.tmp 9)), none⟩,
      ⟨(some 22), (.bin .add (.tmp 21) (.cst (.d (.int .i64 1)))), none⟩,
      ⟨(some 9), (.mv (.tmp 22)), none⟩] [])))))) (
 .seq (
  .region false [⟨(some 69), (.mv (.tmp 8)), none⟩, ⟨(some 6), (.mv (.tmp 69)), none⟩] []) (
 .ret)))))
def R_ref02_Lay : List LRes := [(.tmp 6)]
def V_ref02_Lay : List Nat := [0, 1, 7, 9, 20, 10, 25, 2, 11, 12, 64, 8, 6]

def L_ref02_Has (n_ref02_Size : Nat) : LCode :=
 .seq (
  .region false [⟨(some 6), (.mv (.cst (.d (.bool false)))), none⟩] []) (
 .seq (
  .region false [⟨(some 8), (.mv (.tmp 0)), none⟩,
    ⟨(some 9), (.call 0 false (.cst (.d (.fn n_ref02_Size))) [(.tmp 8)]), none⟩,
    ⟨(some 7), (.mv (.tmp 9)), none⟩] []) (
 .seq (
  .seq (
   .region false [⟨(some 10), (.mv (.tmp 1)), none⟩,
     ⟨(some 11), (.bin .lss (.tmp 10) (.cst (.d (.int .i64 0)))), none⟩,
     ⟨(some 12), (.mv (.tmp 11)), none⟩,
     ⟨(some 13), (.mv (.tmp 1)), (some (12, false))⟩,
     ⟨(some 14), (.mv (.tmp 7)), (some (12, false))⟩,
     ⟨(some 15), (.bin .geq (.tmp 13) (.tmp 14)), (some (12, false))⟩,
     ⟨(some 16), (.pick (.tmp 12) (.cst (.d (.bool true))) (.tmp 15)), none⟩,
     ⟨(some 17), (.mv (.tmp 16)), none⟩,
     ⟨(some 18), (.mv (.tmp 2)), (some (17, false))⟩,
     ⟨(some 19), (.bin .lss (.tmp 18) (.cst (.d (.int .i64 0)))), (some (17, false))⟩,
     ⟨(some 20), (.pick (.tmp 17) (.cst (.d (.bool true))) (.tmp 19)), none⟩,
     ⟨(some 21), (.mv (.tmp 20)), none⟩,
     ⟨(some 22), (.mv (.tmp 2)), (some (21, false))⟩,
     ⟨(some 23), (.mv (.tmp 7)), (some (21, false))⟩,
     ⟨(some 24), (.bin .geq (.tmp 22) (.tmp 23)), (some (21, false))⟩,
     ⟨(some 25), (.pick (.tmp 21) (.cst (.d (.bool true))) (.tmp 24)), none⟩] []) (
  .cond (.tmp 25) (
   .seq (
    .region false [⟨(some 6), (.mv (.cst (.d (.bool false)))), none⟩] []) (
   .ret)) (
   .skip))) (
 .seq (
  .region false [⟨(some 26), (.mv (.tmp 0)), none⟩,
    ⟨(some 27), (.mv (.tmp 1)), none⟩,
    ⟨(some 28), (.idxAddr 1 (.tmp 26) (.tmp 27)), none⟩,
    ⟨(some 29), (.load false 1 (.tmp 28)), none⟩,
    ⟨(some 30), (.mv (.tmp 2)), none⟩,
    ⟨(some 31), (.conv .u64 (.tmp 30)), none⟩,
    ⟨(some 32), (.bin .shl (.cst (.d (.int .u64 1))) (.tmp 31)), none⟩,
    ⟨(some 33), (.bin .quo (.tmp 29) (.tmp 32)), none⟩,
    ⟨(some 34), (.bin .rem (.tmp 33) (.cst (.d (.int .u64 2)))), none⟩,
    ⟨(some 35), (.bin .eql (.tmp 34) (.cst (.d (.int .u64 1)))), none⟩,
    ⟨(some 6), (.mv (.tmp 35)), none⟩] []) (
 .ret))))
def R_ref02_Has : List LRes := [(.tmp 6)]
def V_ref02_Has : List Nat := [0, 1, 7, 2, 25, 6]

def L_ref02_Plus (n_ref02_Has : Nat) (n_ref02_Put : Nat) (n_ref02_Size : Nat) : LCode :=
 .seq (
  .region false [⟨(some 2), (.mv (.cst (.d (.list [] true)))), none⟩] []) (
 .seq (
  .region false [⟨(some 10), (.mv (.tmp 0)), none⟩,
    ⟨(some 11), (.call 0 false (.cst (.d (.fn n_ref02_Size))) [(.tmp 10)]), none⟩,
    ⟨(some 3), (.mv (.tmp 11)), none⟩] []) (
 .seq (
  .region false [⟨(some 12), (.mv (.tmp 3)), none⟩,
    ⟨(some 13), (.mkslice 0 1 8 [(.d (.int .u64 0))] (.tmp 12) (.tmp 12)), none⟩,
    ⟨(some 4), (.mv (.tmp 13)), none⟩] []) (
 .seq (
  .seq (
   .region false [⟨(some 5), (.mv (.cst (.d (.int .i64 0)))), none⟩] []) (
  .block 0 (
   .loop (
    .seq (
     .seq (
      .region false [⟨(some 14), (.mv (.tmp 5)), none⟩,
        ⟨(some 15), (.mv (.tmp 3)), none⟩,
        ⟨(some 16), (.bin .lss (.tmp 14) (.tmp 15)), none⟩] []) (
     .cond (.tmp 16) (
      .skip) (
      (.exit 0)))) (
    .seq (
     .block 1 (
      .seq (
       .region false [⟨(some 6), (.mv (.cst (.d (.list [] true)))), none⟩] []) (
      .seq (
       .seq (
        .region false [⟨(some 7), (.mv (.cst (.d (.int .i64 0)))), none⟩] []) (
       .block 2 (
        .loop (
         .seq (
          .seq (
           .region false [⟨(some 19), (.mv (.tmp 7)), none⟩,
             ⟨(some 20), (.mv (.tmp 3)), none⟩,
             ⟨(some 21), (.bin .lss (.tmp 19) (.tmp 20)), none⟩] []) (
          .cond (.tmp 21) (
           .skip) (
           (.exit 2)))) (
         .seq (
          .block 3 (
           .seq (
            .region false [⟨(some 24), (.mv (.tmp 0)), none⟩,
              ⟨(some 25), (.mv (.tmp 5)), none⟩,
              ⟨(some 26), (.mv (.tmp 7)), none⟩,
              ⟨(some 27), (.call 0 false (.cst (.d (.fn n_ref02_Has))) [(.tmp 24), (.tmp 25), (.tmp 26)]), none⟩] []) (
           .cond (.tmp 27) (
            .seq (
             .region false [⟨(some 28), (.mv (.tmp 4)), none⟩,
               ⟨(some 29), (.mv (.tmp 5)), none⟩,
               ⟨(some 30), (.mv (.tmp 7)), none⟩,
               ⟨(some 31), (.call 0 false (.cst (.d (.fn n_ref02_Put))) [(.tmp 28), (.tmp 29), (.tmp 30)]), none⟩] []) (
            .region false [⟨(some 32), (.mv (.tmp 6)), none⟩,
              ⟨(some 33), (.mv (.tmp 7)), none⟩,
              ⟨(some 34), (.bslice 0 1 1 [(.d (.int .i64 0))] [(0, (.tmp 33))]), none⟩,
              ⟨(some 35), (.append 1 1 8 (.tmp 32) (.tmp 34)), none⟩,
              ⟨(some 6), (.mv (.tmp 35)), none⟩] [])) (
            .skip)))) (
         .region false [⟨(some 22), (.mv (.tmp 7)), none⟩,
           ⟨(some 23), (.bin .add (.tmp 22) (.cst (.d (.int .i64 1)))), none⟩,
           ⟨(some 7), (.mv (.tmp 23)), none⟩] [])))))) (
      .block 4 (
       .loop (
        .seq (
         .seq (
          .region false [⟨(some 36), (.mv (.tmp 6)), none⟩,
            ⟨(some 37), (.len (.tmp 36)), none⟩,
            ⟨(some 38), (.bin .gtr (.tmp 37) (.cst (.d (.int .i64 0)))), none⟩] []) (
         .cond (.tmp 38) (
          .skip) (
          (.exit 4)))) (
        .block 5 (
         .seq (
          .region false [⟨(some 39), (.mv (.tmp 6)), none⟩,
            ⟨(some 40), (.idxAddr 1 (.tmp 39) (.cst (.d (.int .i64 0)))), none⟩,
            ⟨(some 41), (.load false 1 (.tmp 40)), none⟩,
            ⟨(some 8), (.mv (.tmp 41)), none⟩] []) (
         .seq (
          .region false [⟨(some 42), (.mv (.tmp 6)), none⟩,
            ⟨(some 43), (.slice 1 (.tmp 42) (some (.cst (.d (.int .i64 1)))) none none), none⟩,
            ⟨(some 6), (.mv (.tmp 43)), none⟩] []) (
         .seq (
          .region false [⟨(some 9), (.mv (.cst (.d (.int .i64 0)))), none⟩] []) (
         .block 6 (
          .loop (
           .seq (
            .seq (
             .region false [⟨(some 44), (.mv (.tmp 9)), none⟩,
               ⟨(some 45), (.mv (.tmp 3)), none⟩,
               ⟨(some 46), (.bin .lss (.tmp 44) (.tmp 45)), none⟩] []) (
            .cond (.tmp 46) (
             .skip) (
             (.exit 6)))) (
           .seq (
            .block 7 (
             .seq (
              .region false [⟨(some 49), (.mv (.tmp 0)), none⟩,
                ⟨(some 50), (.mv (.tmp 8)), none⟩,
                ⟨(some 51), (.mv (.tmp 9)), none⟩,
                ⟨(some 52), (.call 0 false (.cst (.d (.fn n_ref02_Has))) [(.tmp 49), (.tmp 50), (.tmp 51)]), none⟩,
                ⟨(some 53), (.mv (.tmp 52)), none⟩,
                ⟨(some 54), (.mv (.tmp 4)), (some (53, true))⟩,
                ⟨(some 55), (.mv (.tmp 5)), (some (53, true))⟩,
                ⟨(some 56), (.mv (.tmp 9)), (some (53, true))⟩,
                ⟨(some 57), (.call 0 false (.cst (.d (.fn n_ref02_Has))) [(.tmp 54), (.tmp 55), (.tmp 56)]), (some (53, true))⟩,
                ⟨(some 58), (.un .not (.tmp 57)), (some (53, true))⟩,
                ⟨(some 59), (.pick (.tmp 53) (.tmp 58) (.cst (.d (.bool false)))), none⟩] []) (
             .cond (.tmp 59) (
              .seq (
               .region false [⟨(some 60), (.mv (.tmp 4)), none⟩,
                 ⟨(some 61), (.mv (.tmp 5)), none⟩,
                 ⟨(some 62), (.mv (.tmp 9)), none⟩,
                 ⟨(some 63), (.call 0 false (.cst (.d (.fn n_ref02_Put))) [(.tmp 60), (.tmp 61), (.tmp 62)]), none⟩] []) (
              .region false [⟨(some 64), (.mv (.tmp 6)), none⟩,
                ⟨(some 65), (.mv (.tmp 9)), none⟩,
                ⟨(some 66), (.bslice 0 1 1 [(.d (.int .i64 0))] [(0, (.tmp 65))]), none⟩,
                ⟨(some 67), (.append 1 1 8 (.tmp 64) (.tmp 66)), none⟩,
                ⟨(some 6), (.mv (.tmp 67)), none⟩] [])) (
              .skip)))) (
           .region false [⟨(some 47), (.mv (.tmp 9)), none⟩,
             ⟨(some 48), (.bin .add (.tmp 47) (.cst (.d (.int .i64 1)))), none⟩,
             ⟨(some 9), (.mv (.tmp 48)), none⟩] []))))))))))))))) (
    .region false [⟨(some 17), (.mv (.tmp 5)), none⟩,
      ⟨(some 18), (.bin .add (.tmp 17) (.cst (.d (.int .i64 1)))), none⟩,
      ⟨(some 5), (.mv (.tmp 18)), none⟩] [])))))) (
 .seq (
  .region false [⟨(some 68), (.mv (.tmp 4)), none⟩, ⟨(some 2), (.mv (.tmp 68)), none⟩] []) (
 .ret)))))
def R_ref02_Plus : List LRes := [(.tmp 2)]
def V_ref02_Plus : List Nat := [0, 3, 5, 16, 7, 21, 27, 4, 6, 38, 9, 46, 8, 59, 2]

def L_ref02_Ring (n_ref02_Has : Nat) (n_ref02_Plus : Nat) : LCode :=
 .seq (
  .region false [⟨(some 2), (.mv (.cst (.d (.bool false)))), none⟩] []) (
 .seq (
  .region false [⟨(some 5), (.mv (.tmp 0)), none⟩,
    ⟨(some 6), (.call 0 true (.cst (.d (.fn n_ref02_Plus))) [(.tmp 5)]), none⟩,
    ⟨(some 3), (.mv (.tmp 6)), none⟩] []) (
 .seq (
  .seq (
   .region false [⟨(some 4), (.mv (.cst (.d (.int .i64 0)))), none⟩] []) (
  .block 0 (
   .loop (
    .seq (
     .seq (
      .region false [⟨(some 7), (.mv (.tmp 4)), none⟩,
        ⟨(some 8), (.mv (.tmp 3)), none⟩,
        ⟨(some 9), (.len (.tmp 8)), none⟩,
        ⟨(some 10), (.bin .lss (.tmp 7) (.tmp 9)), none⟩] []) (
     .cond (.tmp 10) (
      .skip) (
      (.exit 0)))) (
    .seq (
     .block 1 (
      .seq (
       .region false [⟨(some 13), (.mv (.tmp 3)), none⟩,
         ⟨(some 14), (.mv (.tmp 4)), none⟩,
         ⟨(some 15), (.mv (.tmp 4)), none⟩,
         ⟨(some 16), (.call 0 false (.cst (.d (.fn n_ref02_Has))) [(.tmp 13), (.tmp 14), (.tmp 15)]), none⟩] []) (
      .cond (.tmp 16) (
       .seq (
        .region false [⟨(some 2), (.mv (.cst (.d (.bool true)))), none⟩] []) (
       .ret)) (
       .skip)))) (
    .region false [⟨(some 11), (.mv (.tmp 4)), none⟩,
      ⟨(some 12), (.bin .add (.tmp 11) (.cst (.d (.int .i64 1)))), none⟩,
      ⟨(some 4), (.mv (.tmp 12)), none⟩] [])))))) (
 .seq (
  .region false [⟨(some 2), (.mv (.cst (.d (.bool false)))), none⟩] []) (
 .ret))))
def R_ref02_Ring : List LRes := [(.tmp 2)]
def V_ref02_Ring : List Nat := [0, 4, 3, 10, 16, 2]

def L_ref02_Put (n_ref02_Has : Nat) : LCode :=
 .seq (
  .region false [⟨(some 6), (.mv (.tmp 0)), none⟩,
    ⟨(some 7), (.mv (.tmp 1)), none⟩,
    ⟨(some 8), (.mv (.tmp 2)), none⟩,
    ⟨(some 9), (.call 0 false (.cst (.d (.fn n_ref02_Has))) [(.tmp 6), (.tmp 7), (.tmp 8)]), none⟩,
    ⟨(some 10), (.un .not (.tmp 9)), none⟩] []) (
 .cond (.tmp 10) (
  .region false [⟨(some 11), (.mv (.tmp 0)), none⟩,
    ⟨(some 12), (.mv (.tmp 1)), none⟩,
    ⟨(some 13), (.idxAddr 1 (.tmp 11) (.tmp 12)), none⟩,
    ⟨(some 14), (.load false 1 (.tmp 13)), none⟩,
    ⟨(some 15), (.mv (.tmp 2)), none⟩,
    ⟨(some 16), (.conv .u64 (.tmp 15)), none⟩,
    ⟨(some 17), (.bin .shl (.cst (.d (.int .u64 1))) (.tmp 16)), none⟩,
    ⟨(some 18), (.bin .add (.tmp 14) (.tmp 17)), none⟩,
    ⟨(some 19), (.idxAddr 1 (.tmp 11) (.tmp 12)), none⟩,
    ⟨none, (.store 1 (.tmp 19) (.tmp 18)), none⟩] []) (
  .skip))
def R_ref02_Put : List LRes := []
def V_ref02_Put : List Nat := [0, 1, 2, 10]

def L_ref02_most (n_ref02_Size : Nat) : LCode :=
 .seq (
  .region false [⟨(some 4), (.mv (.cst (.d (.int .i64 0)))), none⟩] []) (
 .seq (
  .seq (
   .region false [⟨(some 5), (.mv (.tmp 0)), none⟩,
     ⟨(some 6), (.call 0 false (.cst (.d (.fn n_ref02_Size))) [(.tmp 5)]), none⟩,
     ⟨(some 7), (.mv (.tmp 1)), none⟩,
     ⟨(some 8), (.call 0 false (.cst (.d (.fn n_ref02_Size))) [(.tmp 7)]), none⟩,
     ⟨(some 9), (.bin .gtr (.tmp 6) (.tmp 8)), none⟩] []) (
  .cond (.tmp 9) (
   .seq (
    .region false [⟨(some 10), (.mv (.tmp 0)), none⟩,
      ⟨(some 11), (.call 0 false (.cst (.d (.fn n_ref02_Size))) [(.tmp 10)]), none⟩,
      ⟨(some 4), (.mv (.tmp 11)), none⟩] []) (
   .ret)) (
   .skip))) (
 .seq (
  .region false [⟨(some 12), (.mv (.tmp 1)), none⟩,
    ⟨(some 13), (.call 0 false (.cst (.d (.fn n_ref02_Size))) [(.tmp 12)]), none⟩,
    ⟨(some 4), (.mv (.tmp 13)), none⟩] []) (
 .ret)))
def R_ref02_most : List LRes := [(.tmp 4)]
def V_ref02_most : List Nat := [0, 1, 9, 4]

def L_ref02_Size : LCode :=
 .seq (
  .region false [⟨(some 2), (.mv (.cst (.d (.int .i64 0)))), none⟩] []) (
 .seq (
  .seq (
   .region false [⟨(some 3), (.mv (.tmp 0)), none⟩,
     ⟨(some 4), (.len (.tmp 3)), none⟩,
     ⟨(some 5), (.bin .gtr (.tmp 4) (.cst (.d (.int .i64 64)))), none⟩] []) (
  .cond (.tmp 5) (
   .seq (
    .region false [⟨(some 2), (.mv (.cst (.d (.int .i64 64)))), none⟩] []) (
   .ret)) (
   .skip))) (
 .seq (
  .region false [⟨(some 6), (.mv (.tmp 0)), none⟩,
    ⟨(some 7), (.len (.tmp 6)), none⟩,
    ⟨(some 2), (.mv (.tmp 7)), none⟩] []) (
 .ret)))
def R_ref02_Size : List LRes := [(.tmp 2)]
def V_ref02_Size : List Nat := [0, 5, 2]

end Go.Ago

/- Lowered functions of a package, callees by their numbers. Printed by a program of this session. Conditions: none. -/
set_option maxRecDepth 100000
set_option linter.unusedVariables false
namespace Go.Ago
end Go.Ago

/- Lowered functions of a package, callees by their numbers. Printed by a program of this session. Conditions: none. -/
set_option maxRecDepth 100000
set_option linter.unusedVariables false
namespace Go.Ago
end Go.Ago

/- Lowered functions of a package, callees by their numbers. Printed by a program of this session. Conditions: none. -/
set_option maxRecDepth 100000
set_option linter.unusedVariables false
namespace Go.Ago
end Go.Ago
