/- Lowered functions of a package, callees by their numbers. Printed by a program of this session. Conditions: none. -/
import Derived.Test.YtkcdbaagjhgmcaaDoorAgoP3
set_option maxRecDepth 100000
set_option linter.unusedVariables false
namespace Go.Ago
end Go.Ago

/- Lowered functions of a package, callees by their numbers. Printed by a program of this session. Conditions: none. -/
set_option maxRecDepth 100000
set_option linter.unusedVariables false
namespace Go.Ago
end Go.Ago

/- Lowered functions of a package, callees by their numbers. Printed by a program of this session. Conditions: none. -/
set_option maxRecDepth 100000
set_option linter.unusedVariables false
namespace Go.Ago
end Go.Ago

/- Lowered functions of a package, callees by their numbers. Printed by a program of this session. Conditions: none. -/
set_option maxRecDepth 100000
set_option linter.unusedVariables false
namespace Go.Ago
def L_slices_ContainsFunc_uint64 (n_slices_IndexFunc_uint64 : Nat) : LCode :=
 .seq (
  .region false [⟨(some 4), (.mv (.cst (.d (.bool false)))), none⟩] []) (
 .seq (
  .region false [⟨(some 5), (.mv (.tmp 0)), none⟩,
    ⟨(some 6), (.mv (.tmp 1)), none⟩,
    ⟨(some 7), (.call 0 false (.cst (.d (.fn n_slices_IndexFunc_uint64))) [(.tmp 5), (.tmp 6)]), none⟩,
    ⟨(some 8), (.bin .geq (.tmp 7) (.cst (.d (.int .i64 0)))), none⟩,
    ⟨(some 4), (.mv (.tmp 8)), none⟩] []) (
 .ret))
def R_slices_ContainsFunc_uint64 : List LRes := [(.tmp 4)]
def V_slices_ContainsFunc_uint64 : List Nat := [0, 1, 4]

def L_slices_Equal_uint64 : LCode :=
 .seq (
  .region false [⟨(some 4), (.mv (.cst (.d (.bool false)))), none⟩] []) (
 .seq (
  .seq (
   .region false [⟨(some 6), (.mv (.tmp 0)), none⟩,
     ⟨(some 7), (.len (.tmp 6)), none⟩,
     ⟨(some 8), (.mv (.tmp 1)), none⟩,
     ⟨(some 9), (.len (.tmp 8)), none⟩,
     ⟨(some 10), (.bin .neq (.tmp 7) (.tmp 9)), none⟩] []) (
  .cond (.tmp 10) (
   .seq (
    .region false [⟨(some 4), (.mv (.cst (.d (.bool false)))), none⟩] []) (
   .ret)) (
   .skip))) (
 .seq (
  .seq (
   .region false [⟨(some 11), (.mv (.tmp 0)), none⟩,
     ⟨(some 12), (.len (.tmp 11)), none⟩,
     ⟨(some 13), (.mv (.cst (.d (.int .i64 0)))), none⟩] []) (
  .block 0 (
   .loop (
    .seq (
     .region false [⟨(some 14), (.bin .lss (.tmp 13) (.tmp 12)), none⟩] []) (
    .seq (
     .cond (.tmp 14) (
      .skip) (
      (.exit 0))) (
    .seq (
     .block 1 (
      .seq (
       .region false [⟨(some 15), (.mv (.tmp 13)), none⟩, ⟨(some 5), (.mv (.tmp 15)), none⟩] []) (
      .seq (
       .region true [⟨(some 16), (.mv (.tmp 0)), none⟩,
         ⟨(some 17), (.mv (.tmp 5)), none⟩,
         ⟨(some 18), (.idxAddr 1 (.tmp 16) (.tmp 17)), none⟩,
         ⟨(some 19), (.load false 1 (.tmp 18)), none⟩,
         ⟨(some 20), (.mv (.tmp 1)), none⟩,
         ⟨(some 21), (.mv (.tmp 5)), none⟩,
         ⟨(some 22), (.idxAddr 1 (.tmp 20) (.tmp 21)), none⟩,
         ⟨(some 23), (.load false 1 (.tmp 22)), none⟩,
         ⟨(some 24), (.bin .neq (.tmp 19) (.tmp 23)), none⟩] []) (
      .cond (.tmp 24) (
       .seq (
        .region false [⟨(some 4), (.mv (.cst (.d (.bool false)))), none⟩] []) (
       .ret)) (
       .skip))))) (
    .region false [⟨(some 25), (.bin .add (.tmp 13) (.cst (.d (.int .i64 1)))), none⟩, ⟨(some 13), (.mv (.tmp 25)), none⟩] []))))))) (
 .seq (
  .region false [⟨(some 4), (.mv (.cst (.d (.bool true)))), none⟩] []) (
 .ret))))
def R_slices_Equal_uint64 : List LRes := [(.tmp 4)]
def V_slices_Equal_uint64 : List Nat := [0, 1, 10, 13, 12, 14, 5, 24, 4]

def L_slices_Clone_uint64 : LCode :=
 .seq (
  .region false [⟨(some 2), (.mv (.cst (.d (.list [] true)))), none⟩] []) (
 .seq (
  .seq (
   .nilq [⟨(some 3), (.mv (.tmp 0)), none⟩] false 4 (.tmp 3)) (
  .cond (.tmp 4) (
   .seq (
    .region false [⟨(some 2), (.mv (.cst (.d (.list [] true)))), none⟩] []) (
   .ret)) (
   .skip))) (
 .seq (
  .region false [⟨(some 5), (.mv (.cst (.d (.list [] true)))), none⟩,
    ⟨(some 6), (.mv (.tmp 0)), none⟩,
    ⟨(some 7), (.append 0 1 8 (.tmp 5) (.tmp 6)), none⟩,
    ⟨(some 2), (.mv (.tmp 7)), none⟩] []) (
 .ret)))
def R_slices_Clone_uint64 : List LRes := [(.tmp 2)]
def V_slices_Clone_uint64 : List Nat := [0, 4, 2]

def L_slices_IndexFunc_uint64 : LCode :=
 .seq (
  .region false [⟨(some 4), (.mv (.cst (.d (.int .i64 0)))), none⟩] []) (
 .seq (
  .seq (
   .region false [⟨(some 6), (.mv (.tmp 0)), none⟩,
     ⟨(some 7), (.len (.tmp 6)), none⟩,
     ⟨(some 8), (.mv (.cst (.d (.int .i64 0)))), none⟩] []) (
  .block 0 (
   .loop (
    .seq (
     .region false [⟨(some 9), (.bin .lss (.tmp 8) (.tmp 7)), none⟩] []) (
    .seq (
     .cond (.tmp 9) (
      .skip) (
      (.exit 0))) (
    .seq (
     .block 1 (
      .seq (
       .region false [⟨(some 10), (.mv (.tmp 8)), none⟩, ⟨(some 5), (.mv (.tmp 10)), none⟩] []) (
      .seq (
       .region false [⟨(some 11), (.mv (.tmp 1)), none⟩,
         ⟨(some 12), (.mv (.tmp 0)), none⟩,
         ⟨(some 13), (.mv (.tmp 5)), none⟩,
         ⟨(some 14), (.idxAddr 1 (.tmp 12) (.tmp 13)), none⟩,
         ⟨(some 15), (.load false 1 (.tmp 14)), none⟩,
         ⟨(some 16), (.call 0 false (.tmp 11) [(.tmp 15)]), none⟩] []) (
      .cond (.tmp 16) (
       .seq (
        .region false [⟨(some 17), (.mv (.tmp 5)), none⟩, ⟨(some 4), (.mv (.tmp 17)), none⟩] []) (
       .ret)) (
       .skip))))) (
    .region false [⟨(some 18), (.bin .add (.tmp 8) (.cst (.d (.int .i64 1)))), none⟩, ⟨(some 8), (.mv (.tmp 18)), none⟩] []))))))) (
 .seq (
  .region false [⟨(some 4), (.mv (.cst (.d (.int .i64 (-1))))), none⟩] []) (
 .ret)))
def R_slices_IndexFunc_uint64 : List LRes := [(.tmp 4)]
def V_slices_IndexFunc_uint64 : List Nat := [0, 8, 7, 9, 1, 5, 16, 4]

end Go.Ago

/- Lowered functions of a package, callees by their numbers. Printed by a program of this session. Conditions: none. -/
set_option maxRecDepth 100000
set_option linter.unusedVariables false
namespace Go.Ago
def L_rel_Ring (n_rel_Plus : Nat) : LCode :=
 .seq (
  .region false [⟨(some 2), (.mv (.cst (.d (.bool false)))), none⟩] []) (
 .seq (
  .seq (
   .region false [⟨(some 5), (.mv (.tmp 0)), none⟩,
     ⟨(some 6), (.call 0 true (.cst (.d (.fn n_rel_Plus))) [(.tmp 5)]), none⟩,
     ⟨(some 7), (.len (.tmp 6)), none⟩,
     ⟨(some 8), (.mv (.cst (.d (.int .i64 0)))), none⟩] []) (
  .block 0 (
   .loop (
    .seq (
     .region false [⟨(some 9), (.bin .lss (.tmp 8) (.tmp 7)), none⟩] []) (
    .seq (
     .cond (.tmp 9) (
      .skip) (
      (.exit 0))) (
    .seq (
     .block 1 (
      .seq (
       .region false [⟨(some 10), (.mv (.tmp 8)), none⟩,
         ⟨(some 11), (.idxAddr 1 (.tmp 6) (.tmp 8)), none⟩,
         ⟨(some 12), (.load false 1 (.tmp 11)), none⟩,
         ⟨(some 3), (.mv (.tmp 10)), none⟩,
         ⟨(some 4), (.mv (.tmp 12)), none⟩] []) (
      .seq (
       .region false [⟨(some 13), (.mv (.tmp 4)), none⟩,
         ⟨(some 14), (.mv (.tmp 3)), none⟩,
         ⟨(some 15), (.conv .u64 (.tmp 14)), none⟩,
         ⟨(some 16), (.bin .shr (.tmp 13) (.tmp 15)), none⟩,
         ⟨(some 17), (.bin .and (.tmp 16) (.cst (.d (.int .u64 1)))), none⟩,
         ⟨(some 18), (.bin .eql (.tmp 17) (.cst (.d (.int .u64 1)))), none⟩] []) (
      .cond (.tmp 18) (
       .seq (
        .region false [⟨(some 2), (.mv (.cst (.d (.bool true)))), none⟩] []) (
       .ret)) (
       .skip))))) (
    .region false [⟨(some 19), (.bin .add (.tmp 8) (.cst (.d (.int .i64 1)))), none⟩, ⟨(some 8), (.mv (.tmp 19)), none⟩] []))))))) (
 .seq (
  .region false [⟨(some 2), (.mv (.cst (.d (.bool false)))), none⟩] []) (
 .ret)))
def R_rel_Ring : List LRes := [(.tmp 2)]
def V_rel_Ring : List Nat := [0, 8, 7, 9, 6, 4, 3, 18, 2]

def L_rel_Has (n_rel_size : Nat) : LCode :=
 .seq (
  .region false [⟨(some 6), (.mv (.cst (.d (.bool false)))), none⟩] []) (
 .seq (
  .region false [⟨(some 8), (.mv (.tmp 0)), none⟩,
    ⟨(some 9), (.call 0 false (.cst (.d (.fn n_rel_size))) [(.tmp 8)]), none⟩,
    ⟨(some 7), (.mv (.tmp 9)), none⟩] []) (
 .seq (
  .region false [⟨(some 10), (.mv (.tmp 1)), none⟩,
    ⟨(some 11), (.bin .geq (.tmp 10) (.cst (.d (.int .i64 0)))), none⟩,
    ⟨(some 12), (.mv (.tmp 11)), none⟩,
    ⟨(some 13), (.mv (.tmp 1)), (some (12, true))⟩,
    ⟨(some 14), (.mv (.tmp 7)), (some (12, true))⟩,
    ⟨(some 15), (.bin .lss (.tmp 13) (.tmp 14)), (some (12, true))⟩,
    ⟨(some 16), (.pick (.tmp 12) (.tmp 15) (.cst (.d (.bool false)))), none⟩,
    ⟨(some 17), (.mv (.tmp 16)), none⟩,
    ⟨(some 18), (.mv (.tmp 2)), (some (17, true))⟩,
    ⟨(some 19), (.bin .geq (.tmp 18) (.cst (.d (.int .i64 0)))), (some (17, true))⟩,
    ⟨(some 20), (.pick (.tmp 17) (.tmp 19) (.cst (.d (.bool false)))), none⟩,
    ⟨(some 21), (.mv (.tmp 20)), none⟩,
    ⟨(some 22), (.mv (.tmp 2)), (some (21, true))⟩,
    ⟨(some 23), (.mv (.tmp 7)), (some (21, true))⟩,
    ⟨(some 24), (.bin .lss (.tmp 22) (.tmp 23)), (some (21, true))⟩,
    ⟨(some 25), (.pick (.tmp 21) (.tmp 24) (.cst (.d (.bool false)))), none⟩,
    ⟨(some 26), (.mv (.tmp 25)), none⟩,
    ⟨(some 27), (.mv (.tmp 0)), (some (26, true))⟩,
    ⟨(some 28), (.mv (.tmp 1)), (some (26, true))⟩,
    ⟨(some 29), (.idxAddr 1 (.tmp 27) (.tmp 28)), (some (26, true))⟩,
    ⟨(some 30), (.load false 1 (.tmp 29)), (some (26, true))⟩,
    ⟨(some 31), (.mv (.tmp 2)), (some (26, true))⟩,
    ⟨(some 32), (.conv .u64 (.tmp 31)), (some (26, true))⟩,
    ⟨(some 33), (.bin .shr (.tmp 30) (.tmp 32)), (some (26, true))⟩,
    ⟨(some 34), (.bin .and (.tmp 33) (.cst (.d (.int .u64 1)))), (some (26, true))⟩,
    ⟨(some 35), (.bin .eql (.tmp 34) (.cst (.d (.int .u64 1)))), (some (26, true))⟩,
    ⟨(some 36), (.pick (.tmp 26) (.tmp 35) (.cst (.d (.bool false)))), none⟩,
    ⟨(some 6), (.mv (.tmp 36)), none⟩] []) (
 .ret)))
def R_rel_Has : List LRes := [(.tmp 6)]
def V_rel_Has : List Nat := [0, 1, 7, 2, 6]

def L_rel_Plus (n_rel_lay : Nat) (n_rel_Plus_1 : Nat) : LCode :=
 .seq (
  .region false [⟨(some 2), (.mv (.cst (.d (.list [] true)))), none⟩] []) (
 .seq (
  .region false [⟨(some 6), (.mv (.tmp 0)), none⟩,
    ⟨(some 7), (.call 0 true (.cst (.d (.fn n_rel_lay))) [(.tmp 6), (.cst (.d (.list [] true))), (.cst (.d (.fn n_rel_Plus_1)))]), none⟩,
    ⟨(some 3), (.mv (.tmp 7)), none⟩] []) (
 .seq (
  .seq (
   .region false [⟨(some 8), (.mv (.tmp 3)), none⟩,
     ⟨(some 9), (.len (.tmp 8)), none⟩,
     ⟨(some 10), (.mv (.cst (.d (.int .i64 0)))), none⟩] []) (
  .block 0 (
   .loop (
    .seq (
     .region false [⟨(some 11), (.bin .lss (.tmp 10) (.tmp 9)), none⟩] []) (
    .seq (
     .cond (.tmp 11) (
      .skip) (
      (.exit 0))) (
    .seq (
     .block 1 (
      .seq (
       .region false [⟨(some 12), (.mv (.tmp 10)), none⟩, ⟨(some 4), (.mv (.tmp 12)), none⟩] []) (
      .seq (
       .region false [⟨(some 13), (.mv (.tmp 3)), none⟩,
         ⟨(some 14), (.len (.tmp 13)), none⟩,
         ⟨(some 15), (.mv (.cst (.d (.int .i64 0)))), none⟩] []) (
      .block 2 (
       .loop (
        .seq (
         .region false [⟨(some 16), (.bin .lss (.tmp 15) (.tmp 14)), none⟩] []) (
        .seq (
         .cond (.tmp 16) (
          .skip) (
          (.exit 2))) (
        .seq (
         .block 3 (
          .seq (
           .region false [⟨(some 17), (.mv (.tmp 15)), none⟩, ⟨(some 5), (.mv (.tmp 17)), none⟩] []) (
          .seq (
           .region false [⟨(some 18), (.mv (.tmp 3)), none⟩,
             ⟨(some 19), (.mv (.tmp 5)), none⟩,
             ⟨(some 20), (.idxAddr 1 (.tmp 18) (.tmp 19)), none⟩,
             ⟨(some 21), (.load false 1 (.tmp 20)), none⟩,
             ⟨(some 22), (.mv (.tmp 4)), none⟩,
             ⟨(some 23), (.conv .u64 (.tmp 22)), none⟩,
             ⟨(some 24), (.bin .shr (.tmp 21) (.tmp 23)), none⟩,
             ⟨(some 25), (.bin .and (.tmp 24) (.cst (.d (.int .u64 1)))), none⟩,
             ⟨(some 26), (.bin .eql (.tmp 25) (.cst (.d (.int .u64 1)))), none⟩] []) (
          .cond (.tmp 26) (
           .region true [⟨(some 27), (.mv (.tmp 3)), none⟩,
             ⟨(some 28), (.mv (.tmp 5)), none⟩,
             ⟨(some 29), (.idxAddr 1 (.tmp 27) (.tmp 28)), none⟩,
             ⟨(some 30), (.load false 1 (.tmp 29)), none⟩,
             ⟨(some 31), (.mv (.tmp 3)), none⟩,
             ⟨(some 32), (.mv (.tmp 4)), none⟩,
             ⟨(some 33), (.idxAddr 1 (.tmp 31) (.tmp 32)), none⟩,
             ⟨(some 34), (.load false 1 (.tmp 33)), none⟩,
             ⟨(some 35), (.bin .or (.tmp 30) (.tmp 34)), none⟩,
             ⟨(some 36), (.idxAddr 1 (.tmp 27) (.tmp 28)), none⟩,
             ⟨none, (.store 1 (.tmp 36) (.tmp 35)), none⟩] []) (
           .skip))))) (
        .region false [⟨(some 37), (.bin .add (.tmp 15) (.cst (.d (.int .i64 1)))), none⟩, ⟨(some 15), (.mv (.tmp 37)), none⟩] []))))))))) (
    .region false [⟨(some 38), (.bin .add (.tmp 10) (.cst (.d (.int .i64 1)))), none⟩, ⟨(some 10), (.mv (.tmp 38)), none⟩] []))))))) (
 .seq (
  .region false [⟨(some 39), (.mv (.tmp 3)), none⟩, ⟨(some 2), (.mv (.tmp 39)), none⟩] []) (
 .ret))))
def R_rel_Plus : List LRes := [(.tmp 2)]
def V_rel_Plus : List Nat := [0, 3, 10, 9, 11, 15, 14, 16, 5, 4, 26, 2]

def L_rel_Union (n_rel_lay : Nat) (n_rel_Union_1 : Nat) : LCode :=
 .seq (
  .region false [⟨(some 4), (.mv (.cst (.d (.list [] true)))), none⟩] []) (
 .seq (
  .region false [⟨(some 5), (.mv (.tmp 0)), none⟩,
    ⟨(some 6), (.mv (.tmp 1)), none⟩,
    ⟨(some 7), (.call 0 true (.cst (.d (.fn n_rel_lay))) [(.tmp 5), (.tmp 6), (.cst (.d (.fn n_rel_Union_1)))]), none⟩,
    ⟨(some 4), (.mv (.tmp 7)), none⟩] []) (
 .ret))
def R_rel_Union : List LRes := [(.tmp 4)]
def V_rel_Union : List Nat := [0, 1, 4]

def L_rel_Then (n_rel_size : Nat) (n_rel_row : Nat) (n_math_bits_TrailingZeros64 : Nat) : LCode :=
 .seq (
  .region false [⟨(some 4), (.mv (.cst (.d (.list [] true)))), none⟩] []) (
 .seq (
  .region false [⟨(some 8), (.mv (.tmp 0)), none⟩,
    ⟨(some 9), (.call 0 false (.cst (.d (.fn n_rel_size))) [(.tmp 8)]), none⟩,
    ⟨(some 10), (.mv (.tmp 1)), none⟩,
    ⟨(some 11), (.call 0 false (.cst (.d (.fn n_rel_size))) [(.tmp 10)]), none⟩,
    ⟨(some 12), (.maxi (.tmp 9) (.tmp 11)), none⟩,
    ⟨(some 13), (.mkslice 0 1 8 [(.d (.int .u64 0))] (.tmp 12) (.tmp 12)), none⟩,
    ⟨(some 5), (.mv (.tmp 13)), none⟩] []) (
 .seq (
  .seq (
   .region false [⟨(some 14), (.mv (.tmp 5)), none⟩,
     ⟨(some 15), (.len (.tmp 14)), none⟩,
     ⟨(some 16), (.mv (.cst (.d (.int .i64 0)))), none⟩] []) (
  .block 0 (
   .loop (
    .seq (
     .region false [⟨(some 17), (.bin .lss (.tmp 16) (.tmp 15)), none⟩] []) (
    .seq (
     .cond (.tmp 17) (
      .skip) (
      (.exit 0))) (
    .seq (
     .block 1 (
      .seq (
       .region false [⟨(some 18), (.mv (.tmp 16)), none⟩, ⟨(some 6), (.mv (.tmp 18)), none⟩] []) (
      .seq (
       .region false [⟨(some 19), (.mv (.tmp 0)), none⟩,
         ⟨(some 20), (.mv (.tmp 6)), none⟩,
         ⟨(some 21), (.call 0 false (.cst (.d (.fn n_rel_row))) [(.tmp 19), (.tmp 20)]), none⟩,
         ⟨(some 7), (.mv (.tmp 21)), none⟩] []) (
      .block 2 (
       .loop (
        .seq (
         .seq (
          .region false [⟨(some 22), (.mv (.tmp 7)), none⟩, ⟨(some 23), (.bin .neq (.tmp 22) (.cst (.d (.int .u64 0)))), none⟩] []) (
         .cond (.tmp 23) (
          .skip) (
          (.exit 2)))) (
        .seq (
         .block 3 (
          .region true [⟨(some 28), (.mv (.tmp 5)), none⟩,
            ⟨(some 29), (.mv (.tmp 6)), none⟩,
            ⟨(some 30), (.idxAddr 1 (.tmp 28) (.tmp 29)), none⟩,
            ⟨(some 31), (.load false 1 (.tmp 30)), none⟩,
            ⟨(some 32), (.mv (.tmp 1)), none⟩,
            ⟨(some 33), (.mv (.tmp 7)), none⟩,
            ⟨(some 34), (.call 0 false (.cst (.d (.fn n_math_bits_TrailingZeros64))) [(.tmp 33)]), none⟩,
            ⟨(some 35), (.call 0 false (.cst (.d (.fn n_rel_row))) [(.tmp 32), (.tmp 34)]), none⟩,
            ⟨(some 36), (.bin .or (.tmp 31) (.tmp 35)), none⟩,
            ⟨(some 37), (.idxAddr 1 (.tmp 28) (.tmp 29)), none⟩,
            ⟨none, (.store 1 (.tmp 37) (.tmp 36)), none⟩] [(3, 6), (3, 7)])) (
        .region false [⟨(some 24), (.mv (.tmp 7)), none⟩,
          ⟨(some 25), (.mv (.tmp 7)), none⟩,
          ⟨(some 26), (.bin .sub (.tmp 25) (.cst (.d (.int .u64 1)))), none⟩,
          ⟨(some 27), (.bin .and (.tmp 24) (.tmp 26)), none⟩,
          ⟨(some 7), (.mv (.tmp 27)), none⟩] [])))))))) (
    .region false [⟨(some 38), (.bin .add (.tmp 16) (.cst (.d (.int .i64 1)))), none⟩, ⟨(some 16), (.mv (.tmp 38)), none⟩] []))))))) (
 .seq (
  .region false [⟨(some 39), (.mv (.tmp 5)), none⟩, ⟨(some 4), (.mv (.tmp 39)), none⟩] []) (
 .ret))))
def R_rel_Then : List LRes := [(.tmp 4)]
def V_rel_Then : List Nat := [0, 1, 5, 16, 15, 17, 6, 7, 23, 4]

def L_rel_Minus (n_rel_lay : Nat) (n_rel_Minus_1 : Nat) : LCode :=
 .seq (
  .region false [⟨(some 4), (.mv (.cst (.d (.list [] true)))), none⟩] []) (
 .seq (
  .region false [⟨(some 5), (.mv (.tmp 0)), none⟩,
    ⟨(some 6), (.mv (.tmp 1)), none⟩,
    ⟨(some 7), (.call 0 true (.cst (.d (.fn n_rel_lay))) [(.tmp 5), (.tmp 6), (.cst (.d (.fn n_rel_Minus_1)))]), none⟩,
    ⟨(some 4), (.mv (.tmp 7)), none⟩] []) (
 .ret))
def R_rel_Minus : List LRes := [(.tmp 4)]
def V_rel_Minus : List Nat := [0, 1, 4]

def L_rel_Inter (n_rel_lay : Nat) (n_rel_Inter_1 : Nat) : LCode :=
 .seq (
  .region false [⟨(some 4), (.mv (.cst (.d (.list [] true)))), none⟩] []) (
 .seq (
  .region false [⟨(some 5), (.mv (.tmp 0)), none⟩,
    ⟨(some 6), (.mv (.tmp 1)), none⟩,
    ⟨(some 7), (.call 0 true (.cst (.d (.fn n_rel_lay))) [(.tmp 5), (.tmp 6), (.cst (.d (.fn n_rel_Inter_1)))]), none⟩,
    ⟨(some 4), (.mv (.tmp 7)), none⟩] []) (
 .ret))
def R_rel_Inter : List LRes := [(.tmp 4)]
def V_rel_Inter : List Nat := [0, 1, 4]

def L_rel_Star (n_rel_Plus : Nat) : LCode :=
 .seq (
  .region false [⟨(some 2), (.mv (.cst (.d (.list [] true)))), none⟩] []) (
 .seq (
  .region false [⟨(some 5), (.mv (.tmp 0)), none⟩,
    ⟨(some 6), (.call 0 true (.cst (.d (.fn n_rel_Plus))) [(.tmp 5)]), none⟩,
    ⟨(some 3), (.mv (.tmp 6)), none⟩] []) (
 .seq (
  .seq (
   .region false [⟨(some 7), (.mv (.tmp 3)), none⟩,
     ⟨(some 8), (.len (.tmp 7)), none⟩,
     ⟨(some 9), (.mv (.cst (.d (.int .i64 0)))), none⟩] []) (
  .block 0 (
   .loop (
    .seq (
     .region false [⟨(some 10), (.bin .lss (.tmp 9) (.tmp 8)), none⟩] []) (
    .seq (
     .cond (.tmp 10) (
      .skip) (
      (.exit 0))) (
    .seq (
     .block 1 (
      .seq (
       .region false [⟨(some 11), (.mv (.tmp 9)), none⟩, ⟨(some 4), (.mv (.tmp 11)), none⟩] []) (
      .region false [⟨(some 12), (.mv (.tmp 3)), none⟩,
        ⟨(some 13), (.mv (.tmp 4)), none⟩,
        ⟨(some 14), (.idxAddr 1 (.tmp 12) (.tmp 13)), none⟩,
        ⟨(some 15), (.load false 1 (.tmp 14)), none⟩,
        ⟨(some 16), (.mv (.tmp 4)), none⟩,
        ⟨(some 17), (.conv .u64 (.tmp 16)), none⟩,
        ⟨(some 18), (.bin .shl (.cst (.d (.int .u64 1))) (.tmp 17)), none⟩,
        ⟨(some 19), (.bin .or (.tmp 15) (.tmp 18)), none⟩,
        ⟨(some 20), (.idxAddr 1 (.tmp 12) (.tmp 13)), none⟩,
        ⟨none, (.store 1 (.tmp 20) (.tmp 19)), none⟩] []))) (
    .region false [⟨(some 21), (.bin .add (.tmp 9) (.cst (.d (.int .i64 1)))), none⟩, ⟨(some 9), (.mv (.tmp 21)), none⟩] []))))))) (
 .seq (
  .region false [⟨(some 22), (.mv (.tmp 3)), none⟩, ⟨(some 2), (.mv (.tmp 22)), none⟩] []) (
 .ret))))
def R_rel_Star : List LRes := [(.tmp 2)]
def V_rel_Star : List Nat := [0, 3, 9, 8, 10, 4, 2]

def L_rel_size : LCode :=
 .seq (
  .region false [⟨(some 2), (.mv (.cst (.d (.int .i64 0)))), none⟩] []) (
 .seq (
  .region false [⟨(some 3), (.mv (.tmp 0)), none⟩,
    ⟨(some 4), (.len (.tmp 3)), none⟩,
    ⟨(some 5), (.mini (.tmp 4) (.cst (.d (.int .i64 64)))), none⟩,
    ⟨(some 2), (.mv (.tmp 5)), none⟩] []) (
 .ret))
def R_rel_size : List LRes := [(.tmp 2)]
def V_rel_size : List Nat := [0, 2]

def L_rel_row (n_rel_size : Nat) (n_rel_all : Nat) : LCode :=
 .seq (
  .region false [⟨(some 4), (.mv (.cst (.d (.int .u64 0)))), none⟩] []) (
 .seq (
  .seq (
   .region false [⟨(some 6), (.mv (.tmp 0)), none⟩,
     ⟨(some 7), (.call 0 false (.cst (.d (.fn n_rel_size))) [(.tmp 6)]), none⟩,
     ⟨(some 5), (.mv (.tmp 7)), none⟩] []) (
  .seq (
   .region false [⟨(some 8), (.mv (.tmp 1)), none⟩,
     ⟨(some 9), (.mv (.tmp 5)), none⟩,
     ⟨(some 10), (.bin .lss (.tmp 8) (.tmp 9)), none⟩] []) (
  .cond (.tmp 10) (
   .seq (
    .region true [⟨(some 11), (.mv (.tmp 0)), none⟩,
      ⟨(some 12), (.mv (.tmp 1)), none⟩,
      ⟨(some 13), (.idxAddr 1 (.tmp 11) (.tmp 12)), none⟩,
      ⟨(some 14), (.load false 1 (.tmp 13)), none⟩,
      ⟨(some 15), (.mv (.tmp 5)), none⟩,
      ⟨(some 16), (.call 0 false (.cst (.d (.fn n_rel_all))) [(.tmp 15)]), none⟩,
      ⟨(some 17), (.bin .and (.tmp 14) (.tmp 16)), none⟩,
      ⟨(some 4), (.mv (.tmp 17)), none⟩] [(3, 5)]) (
   .ret)) (
   .skip)))) (
 .seq (
  .region false [⟨(some 4), (.mv (.cst (.d (.int .u64 0)))), none⟩] []) (
 .ret)))
def R_rel_row : List LRes := [(.tmp 4)]
def V_rel_row : List Nat := [0, 1, 5, 10, 4]

def L_rel_lay (n_rel_size : Nat) (n_rel_row : Nat) : LCode :=
 .seq (
  .region false [⟨(some 6), (.mv (.cst (.d (.list [] true)))), none⟩] []) (
 .seq (
  .region false [⟨(some 9), (.mv (.tmp 0)), none⟩,
    ⟨(some 10), (.call 0 false (.cst (.d (.fn n_rel_size))) [(.tmp 9)]), none⟩,
    ⟨(some 11), (.mv (.tmp 1)), none⟩,
    ⟨(some 12), (.call 0 false (.cst (.d (.fn n_rel_size))) [(.tmp 11)]), none⟩,
    ⟨(some 13), (.maxi (.tmp 10) (.tmp 12)), none⟩,
    ⟨(some 14), (.mkslice 0 1 8 [(.d (.int .u64 0))] (.tmp 13) (.tmp 13)), none⟩,
    ⟨(some 7), (.mv (.tmp 14)), none⟩] []) (
 .seq (
  .seq (
   .region false [⟨(some 15), (.mv (.tmp 7)), none⟩,
     ⟨(some 16), (.len (.tmp 15)), none⟩,
     ⟨(some 17), (.mv (.cst (.d (.int .i64 0)))), none⟩] []) (
  .block 0 (
   .loop (
    .seq (
     .region false [⟨(some 18), (.bin .lss (.tmp 17) (.tmp 16)), none⟩] []) (
    .seq (
     .cond (.tmp 18) (
      .skip) (
      (.exit 0))) (
    .seq (
     .block 1 (
      .seq (
       .region false [⟨(some 19), (.mv (.tmp 17)), none⟩, ⟨(some 8), (.mv (.tmp 19)), none⟩] []) (
      .region false [⟨(some 20), (.mv (.tmp 7)), none⟩,
        ⟨(some 21), (.mv (.tmp 8)), none⟩,
        ⟨(some 22), (.mv (.tmp 2)), none⟩,
        ⟨(some 23), (.mv (.tmp 0)), none⟩,
        ⟨(some 24), (.mv (.tmp 8)), none⟩,
        ⟨(some 25), (.call 0 false (.cst (.d (.fn n_rel_row))) [(.tmp 23), (.tmp 24)]), none⟩,
        ⟨(some 26), (.mv (.tmp 1)), none⟩,
        ⟨(some 27), (.mv (.tmp 8)), none⟩,
        ⟨(some 28), (.call 0 false (.cst (.d (.fn n_rel_row))) [(.tmp 26), (.tmp 27)]), none⟩,
        ⟨(some 29), (.call 0 false (.tmp 22) [(.tmp 25), (.tmp 28)]), none⟩,
        ⟨(some 30), (.idxAddr 1 (.tmp 20) (.tmp 21)), none⟩,
        ⟨none, (.store 1 (.tmp 30) (.tmp 29)), none⟩] []))) (
    .region false [⟨(some 31), (.bin .add (.tmp 17) (.cst (.d (.int .i64 1)))), none⟩, ⟨(some 17), (.mv (.tmp 31)), none⟩] []))))))) (
 .seq (
  .region false [⟨(some 32), (.mv (.tmp 7)), none⟩, ⟨(some 6), (.mv (.tmp 32)), none⟩] []) (
 .ret))))
def R_rel_lay : List LRes := [(.tmp 6)]
def V_rel_lay : List Nat := [0, 1, 7, 17, 16, 18, 8, 2, 6]

def L_rel_Plus_1 : LCode :=
 .seq (
  .region false [⟨(some 4), (.mv (.cst (.d (.int .u64 0)))), none⟩] []) (
 .seq (
  .region false [⟨(some 5), (.mv (.tmp 0)), none⟩, ⟨(some 4), (.mv (.tmp 5)), none⟩] []) (
 .ret))
def R_rel_Plus_1 : List LRes := [(.tmp 4)]
def V_rel_Plus_1 : List Nat := [0, 4]

def L_rel_Union_1 : LCode :=
 .seq (
  .region false [⟨(some 4), (.mv (.cst (.d (.int .u64 0)))), none⟩] []) (
 .seq (
  .region false [⟨(some 5), (.mv (.tmp 0)), none⟩,
    ⟨(some 6), (.mv (.tmp 1)), none⟩,
    ⟨(some 7), (.bin .or (.tmp 5) (.tmp 6)), none⟩,
    ⟨(some 4), (.mv (.tmp 7)), none⟩] []) (
 .ret))
def R_rel_Union_1 : List LRes := [(.tmp 4)]
def V_rel_Union_1 : List Nat := [0, 1, 4]

def L_rel_Minus_1 : LCode :=
 .seq (
  .region false [⟨(some 4), (.mv (.cst (.d (.int .u64 0)))), none⟩] []) (
 .seq (
  .region false [⟨(some 5), (.mv (.tmp 0)), none⟩,
    ⟨(some 6), (.mv (.tmp 1)), none⟩,
    ⟨(some 7), (.bin .andNot (.tmp 5) (.tmp 6)), none⟩,
    ⟨(some 4), (.mv (.tmp 7)), none⟩] []) (
 .ret))
def R_rel_Minus_1 : List LRes := [(.tmp 4)]
def V_rel_Minus_1 : List Nat := [0, 1, 4]

def L_rel_Inter_1 : LCode :=
 .seq (
  .region false [⟨(some 4), (.mv (.cst (.d (.int .u64 0)))), none⟩] []) (
 .seq (
  .region false [⟨(some 5), (.mv (.tmp 0)), none⟩,
    ⟨(some 6), (.mv (.tmp 1)), none⟩,
    ⟨(some 7), (.bin .and (.tmp 5) (.tmp 6)), none⟩,
    ⟨(some 4), (.mv (.tmp 7)), none⟩] []) (
 .ret))
def R_rel_Inter_1 : List LRes := [(.tmp 4)]
def V_rel_Inter_1 : List Nat := [0, 1, 4]

def L_rel_all : LCode :=
 .seq (
  .region false [⟨(some 2), (.mv (.cst (.d (.int .u64 0)))), none⟩] []) (
 .seq (
  .seq (
   .region false [⟨(some 3), (.mv (.tmp 0)), none⟩, ⟨(some 4), (.bin .geq (.tmp 3) (.cst (.d (.int .i64 64)))), none⟩] []) (
  .cond (.tmp 4) (
   .seq (
    .region false [⟨(some 2), (.mv (.cst (.d (.int .u64 18446744073709551615)))), none⟩] []) (
   .ret)) (
   .skip))) (
 .seq (
  .region false [⟨(some 5), (.mv (.tmp 0)), none⟩,
    ⟨(some 6), (.conv .u64 (.tmp 5)), none⟩,
    ⟨(some 7), (.bin .shl (.cst (.d (.int .u64 1))) (.tmp 6)), none⟩,
    ⟨(some 8), (.bin .sub (.tmp 7) (.cst (.d (.int .u64 1)))), none⟩,
    ⟨(some 2), (.mv (.tmp 8)), none⟩] []) (
 .ret)))
def R_rel_all : List LRes := [(.tmp 2)]
def V_rel_all : List Nat := [0, 4, 2]

end Go.Ago

/- Lowered functions of a package, callees by their numbers. Printed by a program of this session. Conditions: none. -/
set_option maxRecDepth 100000
set_option linter.unusedVariables false
namespace Go.Ago
def L_math_bits_TrailingZeros64 : LCode :=
 .seq (
  .region false [⟨(some 2), (.mv (.cst (.d (.int .i64 0)))), none⟩] []) (
 .seq (
  .seq (
   .region false [⟨(some 3), (.mv (.tmp 0)), none⟩, ⟨(some 4), (.bin .eql (.tmp 3) (.cst (.d (.int .u64 0)))), none⟩] []) (
  .cond (.tmp 4) (
   .seq (
    .region false [⟨(some 2), (.mv (.cst (.d (.int .i64 64)))), none⟩] []) (
   .ret)) (
   .skip))) (
 .seq (
  .region false [⟨(some 5), (.mv (.tmp 0)), none⟩,
    ⟨(some 6), (.mv (.tmp 0)), none⟩,
    ⟨(some 7), (.un .neg (.tmp 6)), none⟩,
    ⟨(some 8), (.bin .and (.tmp 5) (.tmp 7)), none⟩,
    ⟨(some 9), (.bin .mul (.tmp 8) (.cst (.d (.int .u64 285870213051353865)))), none⟩,
    ⟨(some 10), (.bin .shr (.tmp 9) (.cst (.d (.int .u64 58)))), none⟩,
    ⟨(some 11), (.idxArrAddr 64 1 (.cst (.dptr tabCells 0)) (.tmp 10)), none⟩,
    ⟨(some 12), (.load false 1 (.tmp 11)), none⟩,
    ⟨(some 13), (.conv .i64 (.tmp 12)), none⟩,
    ⟨(some 2), (.mv (.tmp 13)), none⟩] []) (
 .ret)))
def R_math_bits_TrailingZeros64 : List LRes := [(.tmp 2)]
def V_math_bits_TrailingZeros64 : List Nat := [0, 4, 2]

end Go.Ago

/- Lowered functions of a package, callees by their numbers. Printed by a program of this session. Conditions: none. -/
set_option maxRecDepth 100000
set_option linter.unusedVariables false
namespace Go.Ago
def L_power_Check (n_rel_Union : Nat) (n_rel_Ring : Nat) (n_rel_Inter : Nat) (n_rel_Then : Nat) (n_power_of : Nat) (n_power_model_made : Nat) (n_power_model_ext : Nat) (n_rel_Star : Nat) (n_power_model_poloc : Nat) (n_power_empty : Nat) : LCode :=
 .seq (
  .region false [⟨(some 1), (.box 0 (.tmp 0)), none⟩, ⟨(some 2), (.mv (.cst (.d (.int .i64 0)))), none⟩] []) (
 .seq (
  .region false [⟨(some 12), (.load true 12 (.tmp 1)), none⟩,
    ⟨(some 13), (.call 0 false (.cst (.d (.fn n_power_of))) [(.tmp 12)]), none⟩,
    ⟨(some 3), (.mv (.tmp 13)), none⟩] []) (
 .seq (
  .region false [⟨(some 15), (.mv (.tmp 3)), none⟩,
    ⟨(some 16), (.call 0 false (.cst (.d (.fn n_power_model_made))) [(.tmp 15)]), none⟩,
    ⟨(some 14), (.mv (.tmp 16)), none⟩,
    ⟨(some 17), (.extract 0 (.tmp 14)), none⟩,
    ⟨(some 18), (.extract 1 (.tmp 14)), none⟩,
    ⟨(some 19), (.extract 2 (.tmp 14)), none⟩,
    ⟨(some 4), (.mv (.tmp 17)), none⟩,
    ⟨(some 5), (.mv (.tmp 18)), none⟩,
    ⟨(some 6), (.mv (.tmp 19)), none⟩] []) (
 .seq (
  .region false [⟨(some 20), (.mv (.tmp 3)), none⟩,
    ⟨(some 21), (.mv (.tmp 3)), none⟩,
    ⟨(some 22), (.nilchk (.tmp 21)), none⟩,
    ⟨(some 23), (.fieldAddr 1 (.tmp 22)), none⟩,
    ⟨(some 24), (.fieldAddr 4 (.tmp 23)), none⟩,
    ⟨(some 25), (.load false 1 (.tmp 24)), none⟩,
    ⟨(some 26), (.call 0 true (.cst (.d (.fn n_power_model_ext))) [(.tmp 20), (.tmp 25)]), none⟩,
    ⟨(some 7), (.mv (.tmp 26)), none⟩] []) (
 .seq (
  .region false [⟨(some 27), (.mv (.tmp 7)), none⟩,
    ⟨(some 28), (.mv (.tmp 5)), none⟩,
    ⟨(some 29), (.call 0 true (.cst (.d (.fn n_rel_Then))) [(.tmp 27), (.tmp 28)]), none⟩,
    ⟨(some 30), (.mv (.tmp 4)), none⟩,
    ⟨(some 31), (.call 1 true (.cst (.d (.fn n_rel_Star))) [(.tmp 30)]), none⟩,
    ⟨(some 32), (.call 2 true (.cst (.d (.fn n_rel_Then))) [(.tmp 29), (.tmp 31)]), none⟩,
    ⟨(some 8), (.mv (.tmp 32)), none⟩] []) (
 .seq (
  .region false [⟨(some 9), (.mv (.cst (.d (.bool false)))), none⟩] []) (
 .seq (
  .seq (
   .region false [⟨(some 33), (.mv (.tmp 8)), none⟩,
     ⟨(some 34), (.len (.tmp 33)), none⟩,
     ⟨(some 35), (.mv (.cst (.d (.int .i64 0)))), none⟩] []) (
  .block 0 (
   .loop (
    .seq (
     .region false [⟨(some 36), (.bin .lss (.tmp 35) (.tmp 34)), none⟩] []) (
    .seq (
     .cond (.tmp 36) (
      .skip) (
      (.exit 0))) (
    .seq (
     .block 1 (
      .seq (
       .region false [⟨(some 37), (.mv (.tmp 35)), none⟩,
         ⟨(some 38), (.idxAddr 1 (.tmp 33) (.tmp 35)), none⟩,
         ⟨(some 39), (.load false 1 (.tmp 38)), none⟩,
         ⟨(some 10), (.mv (.tmp 37)), none⟩,
         ⟨(some 11), (.mv (.tmp 39)), none⟩] []) (
      .region false [⟨(some 40), (.mv (.tmp 9)), none⟩,
        ⟨(some 41), (.mv (.tmp 40)), none⟩,
        ⟨(some 42), (.mv (.tmp 11)), (some (41, false))⟩,
        ⟨(some 43), (.mv (.tmp 10)), (some (41, false))⟩,
        ⟨(some 44), (.conv .u64 (.tmp 43)), (some (41, false))⟩,
        ⟨(some 45), (.bin .shr (.tmp 42) (.tmp 44)), (some (41, false))⟩,
        ⟨(some 46), (.bin .and (.tmp 45) (.cst (.d (.int .u64 1)))), (some (41, false))⟩,
        ⟨(some 47), (.bin .eql (.tmp 46) (.cst (.d (.int .u64 1)))), (some (41, false))⟩,
        ⟨(some 48), (.pick (.tmp 41) (.cst (.d (.bool true))) (.tmp 47)), none⟩,
        ⟨(some 9), (.mv (.tmp 48)), none⟩] []))) (
    .region false [⟨(some 49), (.bin .add (.tmp 35) (.cst (.d (.int .i64 1)))), none⟩, ⟨(some 35), (.mv (.tmp 49)), none⟩] []))))))) (
 .seq (
  .block 2 (
   .seq (
    .region false [⟨(some 51), (.mv (.tmp 3)), none⟩,
      ⟨(some 52), (.call 0 true (.cst (.d (.fn n_power_model_poloc))) [(.tmp 51)]), none⟩,
      ⟨(some 53), (.mv (.tmp 6)), none⟩,
      ⟨(some 54), (.call 1 true (.cst (.d (.fn n_rel_Union))) [(.tmp 52), (.tmp 53)]), none⟩,
      ⟨(some 55), (.call 2 false (.cst (.d (.fn n_rel_Ring))) [(.tmp 54)]), none⟩,
      ⟨(some 50), (.mv (.tmp 55)), none⟩] []) (
   .cond (.tmp 50) (
    .seq (
     .region false [⟨(some 2), (.mv (.cst (.d (.int .i64 1)))), none⟩] []) (
    .ret)) (
    .seq (
     .region false [⟨(some 57), (.mv (.tmp 4)), none⟩,
       ⟨(some 58), (.call 0 false (.cst (.d (.fn n_rel_Ring))) [(.tmp 57)]), none⟩,
       ⟨(some 56), (.mv (.tmp 58)), none⟩] []) (
    .cond (.tmp 56) (
     .seq (
      .region false [⟨(some 2), (.mv (.cst (.d (.int .i64 2)))), none⟩] []) (
     .ret)) (
     .seq (
      .region false [⟨(some 60), (.mv (.tmp 9)), none⟩, ⟨(some 59), (.mv (.tmp 60)), none⟩] []) (
     .cond (.tmp 59) (
      .seq (
       .region false [⟨(some 2), (.mv (.cst (.d (.int .i64 3)))), none⟩] []) (
      .ret)) (
      .seq (
       .region false [⟨(some 62), (.mv (.tmp 3)), none⟩,
         ⟨(some 63), (.nilchk (.tmp 62)), none⟩,
         ⟨(some 64), (.fieldAddr 1 (.tmp 63)), none⟩,
         ⟨(some 65), (.fieldAddr 3 (.tmp 64)), none⟩,
         ⟨(some 66), (.load false 1 (.tmp 65)), none⟩,
         ⟨(some 67), (.mv (.tmp 5)), none⟩,
         ⟨(some 68), (.call 0 true (.cst (.d (.fn n_rel_Union))) [(.tmp 66), (.tmp 67)]), none⟩,
         ⟨(some 69), (.call 1 false (.cst (.d (.fn n_rel_Ring))) [(.tmp 68)]), none⟩,
         ⟨(some 61), (.mv (.tmp 69)), none⟩] []) (
      .cond (.tmp 61) (
       .seq (
        .region false [⟨(some 2), (.mv (.cst (.d (.int .i64 4)))), none⟩] []) (
       .ret)) (
       .seq (
        .region true [⟨(some 71), (.mv (.tmp 3)), none⟩,
          ⟨(some 72), (.nilchk (.tmp 71)), none⟩,
          ⟨(some 73), (.fieldAddr 1 (.tmp 72)), none⟩,
          ⟨(some 74), (.fieldAddr 11 (.tmp 73)), none⟩,
          ⟨(some 75), (.load false 1 (.tmp 74)), none⟩,
          ⟨(some 76), (.mv (.tmp 7)), none⟩,
          ⟨(some 77), (.mv (.tmp 3)), none⟩,
          ⟨(some 78), (.mv (.tmp 3)), none⟩,
          ⟨(some 79), (.nilchk (.tmp 78)), none⟩,
          ⟨(some 80), (.fieldAddr 1 (.tmp 79)), none⟩,
          ⟨(some 81), (.fieldAddr 3 (.tmp 80)), none⟩,
          ⟨(some 82), (.load false 1 (.tmp 81)), none⟩,
          ⟨(some 83), (.call 0 true (.cst (.d (.fn n_power_model_ext))) [(.tmp 77), (.tmp 82)]), none⟩,
          ⟨(some 84), (.call 1 true (.cst (.d (.fn n_rel_Then))) [(.tmp 76), (.tmp 83)]), none⟩,
          ⟨(some 85), (.call 2 true (.cst (.d (.fn n_rel_Inter))) [(.tmp 75), (.tmp 84)]), none⟩,
          ⟨(some 86), (.call 3 false (.cst (.d (.fn n_power_empty))) [(.tmp 85)]), none⟩,
          ⟨(some 87), (.un .not (.tmp 86)), none⟩,
          ⟨(some 70), (.mv (.tmp 87)), none⟩] [(4, 12), (4, 13)]) (
       .cond (.tmp 70) (
        .seq (
         .region false [⟨(some 2), (.mv (.cst (.d (.int .i64 5)))), none⟩] []) (
        .ret)) (
        .skip)))))))))))) (
 .seq (
  .region false [⟨(some 2), (.mv (.cst (.d (.int .i64 0)))), none⟩] []) (
 .ret)))))))))
def R_power_Check : List LRes := [(.tmp 2)]
def V_power_Check : List Nat := [0, 1, 3, 7, 5, 4, 8, 35, 34, 36, 33, 9, 11, 10, 6, 50, 56, 59, 61, 70, 2]

def L_power_Ppo (n_power_of : Nat) (n_power_model_ppo : Nat) : LCode :=
 .seq (
  .region false [⟨(some 1), (.box 0 (.tmp 0)), none⟩, ⟨(some 2), (.mv (.cst (.d (.list [] true)))), none⟩] []) (
 .seq (
  .region false [⟨(some 3), (.load true 12 (.tmp 1)), none⟩,
    ⟨(some 4), (.call 0 false (.cst (.d (.fn n_power_of))) [(.tmp 3)]), none⟩,
    ⟨(some 5), (.call 0 true (.cst (.d (.fn n_power_model_ppo))) [(.tmp 4)]), none⟩,
    ⟨(some 2), (.mv (.tmp 5)), none⟩] []) (
 .ret))
def R_power_Ppo : List LRes := [(.tmp 2)]
def V_power_Ppo : List Nat := [0, 1, 2]

def L_power_Prop (n_power_of : Nat) (n_power_model_made : Nat) : LCode :=
 .seq (
  .region false [⟨(some 1), (.box 0 (.tmp 0)), none⟩, ⟨(some 2), (.mv (.cst (.d (.list [] true)))), none⟩] []) (
 .seq (
  .region false [⟨(some 7), (.load true 12 (.tmp 1)), none⟩,
    ⟨(some 8), (.call 0 false (.cst (.d (.fn n_power_of))) [(.tmp 7)]), none⟩,
    ⟨(some 9), (.call 0 false (.cst (.d (.fn n_power_model_made))) [(.tmp 8)]), none⟩,
    ⟨(some 6), (.mv (.tmp 9)), none⟩,
    ⟨(some 10), (.extract 0 (.tmp 6)), none⟩,
    ⟨(some 11), (.extract 1 (.tmp 6)), none⟩,
    ⟨(some 12), (.extract 2 (.tmp 6)), none⟩,
    ⟨(some 3), (.mv (.tmp 10)), none⟩,
    ⟨(some 4), (.mv (.tmp 11)), none⟩,
    ⟨(some 5), (.mv (.tmp 12)), none⟩] []) (
 .seq (
  .region false [⟨(some 13), (.mv (.tmp 4)), none⟩, ⟨(some 2), (.mv (.tmp 13)), none⟩] []) (
 .ret)))
def R_power_Prop : List LRes := [(.tmp 2)]
def V_power_Prop : List Nat := [0, 1, 4, 2]

def L_power_of (n_power_fit : Nat) (n_power_trim : Nat) : LCode :=
 .seq (
  .region false [⟨(some 1), (.box 0 (.tmp 0)), none⟩, ⟨(some 2), (.mv (.cst (.d .nilp))), none⟩] []) (
 .seq (
  .region false [⟨(some 9), (.fieldAddr 0 (.tmp 1)), none⟩,
    ⟨(some 10), (.load false 1 (.tmp 9)), none⟩,
    ⟨(some 11), (.fieldAddr 0 (.tmp 1)), none⟩,
    ⟨(some 12), (.load false 1 (.tmp 11)), none⟩,
    ⟨(some 13), (.len (.tmp 12)), none⟩,
    ⟨(some 14), (.mini (.tmp 13) (.cst (.d (.int .i64 64)))), none⟩,
    ⟨(some 15), (.slice 4 (.tmp 10) none (some (.tmp 14)) none), none⟩,
    ⟨(some 3), (.mv (.tmp 15)), none⟩] []) (
 .seq (
  .region false [⟨(some 16), (.mv (.tmp 3)), none⟩,
    ⟨(some 17), (.load true 12 (.tmp 1)), none⟩,
    ⟨(some 18), (.build [(.d (.list [] true)), (.d (.list [] true)), (.d (.list [] true)), (.d (.list [] true)), (.d (.list [] true)), (.d (.list [] true)), (.d (.list [] true)), (.d (.list [] true)), (.d (.list [] true)), (.d (.list [] true)), (.d (.list [] true)), (.d (.list [] true)), (.d (.list [] true)), (.d (.int .u64 0)), (.d (.int .u64 0))] [(0, (1, (.tmp 16))), (1, (12, (.tmp 17)))]), none⟩,
    ⟨(some 19), (.box 0 (.tmp 18)), none⟩,
    ⟨(some 4), (.mv (.tmp 19)), none⟩] []) (
 .seq (
  .seq (
   .region true [⟨(some 20), (.mv (.tmp 4)), none⟩,
     ⟨(some 21), (.nilchk (.tmp 20)), none⟩,
     ⟨(some 22), (.fieldAddr 1 (.tmp 21)), none⟩,
     ⟨(some 23), (.fieldAddr 1 (.tmp 22)), none⟩,
     ⟨(some 24), (.mv (.tmp 4)), none⟩,
     ⟨(some 25), (.nilchk (.tmp 24)), none⟩,
     ⟨(some 26), (.fieldAddr 1 (.tmp 25)), none⟩,
     ⟨(some 27), (.fieldAddr 2 (.tmp 26)), none⟩,
     ⟨(some 28), (.mv (.tmp 4)), none⟩,
     ⟨(some 29), (.nilchk (.tmp 28)), none⟩,
     ⟨(some 30), (.fieldAddr 1 (.tmp 29)), none⟩,
     ⟨(some 31), (.fieldAddr 3 (.tmp 30)), none⟩,
     ⟨(some 32), (.mv (.tmp 4)), none⟩,
     ⟨(some 33), (.nilchk (.tmp 32)), none⟩,
     ⟨(some 34), (.fieldAddr 1 (.tmp 33)), none⟩,
     ⟨(some 35), (.fieldAddr 4 (.tmp 34)), none⟩,
     ⟨(some 36), (.mv (.tmp 4)), none⟩,
     ⟨(some 37), (.nilchk (.tmp 36)), none⟩,
     ⟨(some 38), (.fieldAddr 1 (.tmp 37)), none⟩,
     ⟨(some 39), (.fieldAddr 5 (.tmp 38)), none⟩,
     ⟨(some 40), (.mv (.tmp 4)), none⟩,
     ⟨(some 41), (.nilchk (.tmp 40)), none⟩,
     ⟨(some 42), (.fieldAddr 1 (.tmp 41)), none⟩,
     ⟨(some 43), (.fieldAddr 6 (.tmp 42)), none⟩,
     ⟨(some 44), (.mv (.tmp 4)), none⟩,
     ⟨(some 45), (.nilchk (.tmp 44)), none⟩,
     ⟨(some 46), (.fieldAddr 1 (.tmp 45)), none⟩,
     ⟨(some 47), (.fieldAddr 7 (.tmp 46)), none⟩,
     ⟨(some 48), (.mv (.tmp 4)), none⟩,
     ⟨(some 49), (.nilchk (.tmp 48)), none⟩,
     ⟨(some 50), (.fieldAddr 1 (.tmp 49)), none⟩,
     ⟨(some 51), (.fieldAddr 8 (.tmp 50)), none⟩,
     ⟨(some 52), (.mv (.tmp 4)), none⟩,
     ⟨(some 53), (.nilchk (.tmp 52)), none⟩,
     ⟨(some 54), (.fieldAddr 1 (.tmp 53)), none⟩,
     ⟨(some 55), (.fieldAddr 9 (.tmp 54)), none⟩,
     ⟨(some 56), (.mv (.tmp 4)), none⟩,
     ⟨(some 57), (.nilchk (.tmp 56)), none⟩,
     ⟨(some 58), (.fieldAddr 1 (.tmp 57)), none⟩,
     ⟨(some 59), (.fieldAddr 10 (.tmp 58)), none⟩,
     ⟨(some 60), (.mv (.tmp 4)), none⟩,
     ⟨(some 61), (.nilchk (.tmp 60)), none⟩,
     ⟨(some 62), (.fieldAddr 1 (.tmp 61)), none⟩,
     ⟨(some 63), (.fieldAddr 11 (.tmp 62)), none⟩,
     ⟨(some 64), (.bslice 0 1 11 [(.d .nilp)] [(0, (.tmp 23)), (1, (.tmp 27)), (2, (.tmp 31)), (3, (.tmp 35)), (4, (.tmp 39)), (5, (.tmp 43)), (6, (.tmp 47)), (7, (.tmp 51)), (8, (.tmp 55)), (9, (.tmp 59)), (10, (.tmp 63))]), none⟩,
     ⟨(some 65), (.len (.tmp 64)), none⟩,
     ⟨(some 66), (.mv (.cst (.d (.int .i64 0)))), none⟩] []) (
  .block 0 (
   .loop (
    .seq (
     .region false [⟨(some 67), (.bin .lss (.tmp 66) (.tmp 65)), none⟩] []) (
    .seq (
     .cond (.tmp 67) (
      .skip) (
      (.exit 0))) (
    .seq (
     .block 1 (
      .seq (
       .region false [⟨(some 68), (.idxAddr 1 (.tmp 64) (.tmp 66)), none⟩,
         ⟨(some 69), (.load false 1 (.tmp 68)), none⟩,
         ⟨(some 6), (.mv (.tmp 69)), none⟩] []) (
      .region false [⟨(some 70), (.mv (.tmp 6)), none⟩,
        ⟨(some 71), (.mv (.tmp 6)), none⟩,
        ⟨(some 72), (.nilchk (.tmp 71)), none⟩,
        ⟨(some 73), (.load false 1 (.tmp 72)), none⟩,
        ⟨(some 74), (.mv (.tmp 3)), none⟩,
        ⟨(some 75), (.len (.tmp 74)), none⟩,
        ⟨(some 76), (.call 0 true (.cst (.d (.fn n_power_trim))) [(.tmp 73), (.tmp 75)]), none⟩,
        ⟨(some 77), (.mv (.tmp 3)), none⟩,
        ⟨(some 78), (.len (.tmp 77)), none⟩,
        ⟨(some 79), (.call 1 true (.cst (.d (.fn n_power_fit))) [(.tmp 76), (.tmp 78)]), none⟩,
        ⟨(some 80), (.nilchk (.tmp 70)), none⟩,
        ⟨none, (.store 1 (.tmp 80) (.tmp 79)), none⟩] []))) (
    .region false [⟨(some 81), (.bin .add (.tmp 66) (.cst (.d (.int .i64 1)))), none⟩, ⟨(some 66), (.mv (.tmp 81)), none⟩] []))))))) (
 .seq (
  .seq (
   .region false [⟨(some 82), (.mv (.tmp 3)), none⟩,
     ⟨(some 83), (.len (.tmp 82)), none⟩,
     ⟨(some 84), (.mv (.cst (.d (.int .i64 0)))), none⟩] []) (
  .block 2 (
   .loop (
    .seq (
     .region false [⟨(some 85), (.bin .lss (.tmp 84) (.tmp 83)), none⟩] []) (
    .seq (
     .cond (.tmp 85) (
      .skip) (
      (.exit 2))) (
    .seq (
     .block 3 (
      .seq (
       .region false [⟨(some 86), (.mv (.tmp 84)), none⟩,
         ⟨(some 87), (.idxAddr 4 (.tmp 82) (.tmp 84)), none⟩,
         ⟨(some 88), (.load true 4 (.tmp 87)), none⟩,
         ⟨(some 8), (.alloc 0 4 [(.d (.int .i64 0)), (.d (.int .i64 0)), (.d (.int .i64 0)), (.d (.int .i64 0))]), none⟩,
         ⟨(some 7), (.mv (.tmp 86)), none⟩,
         ⟨none, (.store 4 (.tmp 8) (.tmp 88)), none⟩] []) (
      .seq (
       .region false [⟨(some 89), (.fieldAddr 1 (.tmp 8)), none⟩, ⟨(some 90), (.load false 1 (.tmp 89)), none⟩] []) (
      .block 4 (
       .seq (
        .region false [⟨(some 92), (.bin .eql (.tmp 90) (.cst (.d (.int .i64 1)))), none⟩, ⟨(some 91), (.mv (.tmp 92)), none⟩] []) (
       .cond (.tmp 91) (
        .region false [⟨(some 93), (.mv (.tmp 4)), none⟩,
          ⟨(some 94), (.nilchk (.tmp 93)), none⟩,
          ⟨(some 95), (.fieldAddr 13 (.tmp 94)), none⟩,
          ⟨(some 96), (.load false 1 (.tmp 95)), none⟩,
          ⟨(some 97), (.mv (.tmp 7)), none⟩,
          ⟨(some 98), (.conv .u64 (.tmp 97)), none⟩,
          ⟨(some 99), (.bin .shl (.cst (.d (.int .u64 1))) (.tmp 98)), none⟩,
          ⟨(some 100), (.bin .or (.tmp 96) (.tmp 99)), none⟩,
          ⟨(some 101), (.nilchk (.tmp 93)), none⟩,
          ⟨(some 102), (.fieldAddr 13 (.tmp 101)), none⟩,
          ⟨none, (.store 1 (.tmp 102) (.tmp 100)), none⟩] []) (
        .seq (
         .region false [⟨(some 104), (.bin .eql (.tmp 90) (.cst (.d (.int .i64 2)))), none⟩, ⟨(some 103), (.mv (.tmp 104)), none⟩] []) (
        .cond (.tmp 103) (
         .region false [⟨(some 105), (.mv (.tmp 4)), none⟩,
           ⟨(some 106), (.nilchk (.tmp 105)), none⟩,
           ⟨(some 107), (.fieldAddr 14 (.tmp 106)), none⟩,
           ⟨(some 108), (.load false 1 (.tmp 107)), none⟩,
           ⟨(some 109), (.mv (.tmp 7)), none⟩,
           ⟨(some 110), (.conv .u64 (.tmp 109)), none⟩,
           ⟨(some 111), (.bin .shl (.cst (.d (.int .u64 1))) (.tmp 110)), none⟩,
           ⟨(some 112), (.bin .or (.tmp 108) (.tmp 111)), none⟩,
           ⟨(some 113), (.nilchk (.tmp 105)), none⟩,
           ⟨(some 114), (.fieldAddr 14 (.tmp 113)), none⟩,
           ⟨none, (.store 1 (.tmp 114) (.tmp 112)), none⟩] []) (
         .skip))))))))) (
    .region false [⟨(some 115), (.bin .add (.tmp 84) (.cst (.d (.int .i64 1)))), none⟩, ⟨(some 84), (.mv (.tmp 115)), none⟩] []))))))) (
 .seq (
  .region false [⟨(some 116), (.mv (.tmp 4)), none⟩, ⟨(some 2), (.mv (.tmp 116)), none⟩] []) (
 .ret))))))
def R_power_of : List LRes := [(.tmp 2)]
def V_power_of : List Nat := [0, 1, 3, 4, 66, 65, 67, 64, 6, 84, 83, 85, 82, 8, 90, 91, 7, 103, 2]

def L_power_model_made (n_rel_Union : Nat) (n_rel_Then : Nat) (n_power_model_ext : Nat) (n_rel_Star : Nat) (n_power_model_ppo : Nat) (n_rel_Minus : Nat) (n_power_keep : Nat) (n_power_all : Nat) : LCode :=
 .seq (
  .region false [⟨(some 2), (.mv (.cst (.d (.list [] true)))), none⟩,
    ⟨(some 3), (.mv (.cst (.d (.list [] true)))), none⟩,
    ⟨(some 4), (.mv (.cst (.d (.list [] true)))), none⟩] []) (
 .seq (
  .region false [⟨(some 11), (.mv (.tmp 0)), none⟩,
    ⟨(some 12), (.nilchk (.tmp 11)), none⟩,
    ⟨(some 13), (.fieldAddr 1 (.tmp 12)), none⟩,
    ⟨(some 14), (.load true 12 (.tmp 13)), none⟩,
    ⟨(some 5), (.alloc 0 12 [(.d (.list [] true)), (.d (.list [] true)), (.d (.list [] true)), (.d (.list [] true)), (.d (.list [] true)), (.d (.list [] true)), (.d (.list [] true)), (.d (.list [] true)), (.d (.list [] true)), (.d (.list [] true)), (.d (.list [] true)), (.d (.list [] true))]), none⟩,
    ⟨none, (.store 12 (.tmp 5) (.tmp 14)), none⟩] []) (
 .seq (
  .region false [⟨(some 15), (.mv (.tmp 0)), none⟩,
    ⟨(some 16), (.fieldAddr 2 (.tmp 5)), none⟩,
    ⟨(some 17), (.load false 1 (.tmp 16)), none⟩,
    ⟨(some 18), (.call 0 true (.cst (.d (.fn n_power_model_ext))) [(.tmp 15), (.tmp 17)]), none⟩,
    ⟨(some 6), (.mv (.tmp 18)), none⟩] []) (
 .seq (
  .region true [⟨(some 19), (.fieldAddr 9 (.tmp 5)), none⟩,
    ⟨(some 20), (.load false 1 (.tmp 19)), none⟩,
    ⟨(some 21), (.fieldAddr 10 (.tmp 5)), none⟩,
    ⟨(some 22), (.load false 1 (.tmp 21)), none⟩,
    ⟨(some 23), (.fieldAddr 10 (.tmp 5)), none⟩,
    ⟨(some 24), (.load false 1 (.tmp 23)), none⟩,
    ⟨(some 25), (.mv (.tmp 0)), none⟩,
    ⟨(some 26), (.nilchk (.tmp 25)), none⟩,
    ⟨(some 27), (.fieldAddr 14 (.tmp 26)), none⟩,
    ⟨(some 28), (.load false 1 (.tmp 27)), none⟩,
    ⟨(some 29), (.mv (.tmp 0)), none⟩,
    ⟨(some 30), (.nilchk (.tmp 29)), none⟩,
    ⟨(some 31), (.fieldAddr 13 (.tmp 30)), none⟩,
    ⟨(some 32), (.load false 1 (.tmp 31)), none⟩,
    ⟨(some 33), (.call 0 true (.cst (.d (.fn n_power_keep))) [(.tmp 24), (.tmp 28), (.tmp 32)]), none⟩,
    ⟨(some 34), (.call 1 true (.cst (.d (.fn n_rel_Minus))) [(.tmp 22), (.tmp 33)]), none⟩,
    ⟨(some 35), (.call 2 true (.cst (.d (.fn n_rel_Union))) [(.tmp 20), (.tmp 34)]), none⟩,
    ⟨(some 7), (.mv (.tmp 35)), none⟩] [(3, 14), (1, 14), (1, 15)]) (
 .seq (
  .region false [⟨(some 36), (.mv (.tmp 0)), none⟩,
    ⟨(some 37), (.call 0 true (.cst (.d (.fn n_power_model_ppo))) [(.tmp 36)]), none⟩,
    ⟨(some 38), (.mv (.tmp 7)), none⟩,
    ⟨(some 39), (.mv (.tmp 6)), none⟩,
    ⟨(some 40), (.bslice 1 1 3 [(.d (.list [] true))] [(0, (.tmp 37)), (1, (.tmp 38)), (2, (.tmp 39))]), none⟩,
    ⟨(some 41), (.call 2 true (.cst (.d (.fn n_power_all))) [(.tmp 40)]), none⟩,
    ⟨(some 2), (.mv (.tmp 41)), none⟩] []) (
 .seq (
  .region false [⟨(some 42), (.fieldAddr 2 (.tmp 5)), none⟩,
    ⟨(some 43), (.load false 1 (.tmp 42)), none⟩,
    ⟨(some 44), (.fieldAddr 3 (.tmp 5)), none⟩,
    ⟨(some 45), (.load false 1 (.tmp 44)), none⟩,
    ⟨(some 46), (.fieldAddr 4 (.tmp 5)), none⟩,
    ⟨(some 47), (.load false 1 (.tmp 46)), none⟩,
    ⟨(some 48), (.bslice 0 1 3 [(.d (.list [] true))] [(0, (.tmp 43)), (1, (.tmp 45)), (2, (.tmp 47))]), none⟩,
    ⟨(some 49), (.call 1 true (.cst (.d (.fn n_power_all))) [(.tmp 48)]), none⟩,
    ⟨(some 4), (.mv (.tmp 49)), none⟩] []) (
 .seq (
  .region false [⟨(some 50), (.mv (.tmp 2)), none⟩,
    ⟨(some 51), (.call 0 true (.cst (.d (.fn n_rel_Star))) [(.tmp 50)]), none⟩,
    ⟨(some 8), (.mv (.tmp 51)), none⟩] []) (
 .seq (
  .region false [⟨(some 52), (.mv (.tmp 7)), none⟩,
    ⟨(some 53), (.mv (.tmp 6)), none⟩,
    ⟨(some 54), (.mv (.tmp 7)), none⟩,
    ⟨(some 55), (.call 0 true (.cst (.d (.fn n_rel_Then))) [(.tmp 53), (.tmp 54)]), none⟩,
    ⟨(some 56), (.call 1 true (.cst (.d (.fn n_rel_Union))) [(.tmp 52), (.tmp 55)]), none⟩,
    ⟨(some 57), (.mv (.tmp 8)), none⟩,
    ⟨(some 58), (.call 2 true (.cst (.d (.fn n_rel_Then))) [(.tmp 56), (.tmp 57)]), none⟩,
    ⟨(some 9), (.mv (.tmp 58)), none⟩] []) (
 .seq (
  .region true [⟨(some 59), (.mv (.tmp 4)), none⟩,
    ⟨(some 60), (.call 0 true (.cst (.d (.fn n_rel_Star))) [(.tmp 59)]), none⟩,
    ⟨(some 61), (.mv (.tmp 9)), none⟩,
    ⟨(some 62), (.call 1 true (.cst (.d (.fn n_rel_Star))) [(.tmp 61)]), none⟩,
    ⟨(some 63), (.call 2 true (.cst (.d (.fn n_rel_Then))) [(.tmp 60), (.tmp 62)]), none⟩,
    ⟨(some 64), (.fieldAddr 9 (.tmp 5)), none⟩,
    ⟨(some 65), (.load false 1 (.tmp 64)), none⟩,
    ⟨(some 66), (.call 3 true (.cst (.d (.fn n_rel_Then))) [(.tmp 63), (.tmp 65)]), none⟩,
    ⟨(some 67), (.mv (.tmp 8)), none⟩,
    ⟨(some 68), (.call 4 true (.cst (.d (.fn n_rel_Then))) [(.tmp 66), (.tmp 67)]), none⟩,
    ⟨(some 10), (.mv (.tmp 68)), none⟩] [(4, 6), (3, 6), (1, 6)]) (
 .seq (
  .region true [⟨(some 69), (.mv (.tmp 2)), none⟩,
    ⟨(some 70), (.mv (.tmp 9)), none⟩,
    ⟨(some 71), (.mv (.tmp 0)), none⟩,
    ⟨(some 72), (.nilchk (.tmp 71)), none⟩,
    ⟨(some 73), (.fieldAddr 14 (.tmp 72)), none⟩,
    ⟨(some 74), (.load false 1 (.tmp 73)), none⟩,
    ⟨(some 75), (.mv (.tmp 0)), none⟩,
    ⟨(some 76), (.nilchk (.tmp 75)), none⟩,
    ⟨(some 77), (.fieldAddr 14 (.tmp 76)), none⟩,
    ⟨(some 78), (.load false 1 (.tmp 77)), none⟩,
    ⟨(some 79), (.call 0 true (.cst (.d (.fn n_power_keep))) [(.tmp 70), (.tmp 74), (.tmp 78)]), none⟩,
    ⟨(some 80), (.mv (.tmp 10)), none⟩,
    ⟨(some 81), (.call 1 true (.cst (.d (.fn n_rel_Union))) [(.tmp 79), (.tmp 80)]), none⟩,
    ⟨(some 82), (.mv (.tmp 4)), none⟩,
    ⟨(some 2), (.mv (.tmp 69)), none⟩,
    ⟨(some 3), (.mv (.tmp 81)), none⟩,
    ⟨(some 4), (.mv (.tmp 82)), none⟩] []) (
 .ret))))))))))
def R_power_model_made : List LRes := [(.tmp 2), (.tmp 3), (.tmp 4)]
def V_power_model_made : List Nat := [0, 5, 7, 6, 2, 8, 4, 9, 10, 3]

def L_power_model_ext (n_power_model_where : Nat) (n_power_apart : Nat) : LCode :=
 .seq (
  .region false [⟨(some 4), (.mv (.cst (.d (.list [] true)))), none⟩] []) (
 .seq (
  .region false [⟨(some 5), (.mv (.tmp 0)), none⟩,
    ⟨(some 6), (.mv (.tmp 1)), none⟩,
    ⟨(some 7), (.call 0 true (.cst (.d (.fn n_power_model_where))) [(.tmp 5), (.tmp 6), (.cst (.d (.fn n_power_apart)))]), none⟩,
    ⟨(some 4), (.mv (.tmp 7)), none⟩] []) (
 .ret))
def R_power_model_ext : List LRes := [(.tmp 4)]
def V_power_model_ext : List Nat := [0, 1, 4]

def L_power_model_poloc (n_power_model_where : Nat) (n_power_model_poloc_1 : Nat) : LCode :=
 .seq (
  .region false [⟨(some 2), (.mv (.cst (.d (.list [] true)))), none⟩] []) (
 .seq (
  .region false [⟨(some 3), (.mv (.tmp 0)), none⟩,
    ⟨(some 4), (.mv (.tmp 0)), none⟩,
    ⟨(some 5), (.nilchk (.tmp 4)), none⟩,
    ⟨(some 6), (.fieldAddr 1 (.tmp 5)), none⟩,
    ⟨(some 7), (.fieldAddr 1 (.tmp 6)), none⟩,
    ⟨(some 8), (.load false 1 (.tmp 7)), none⟩,
    ⟨(some 9), (.call 0 true (.cst (.d (.fn n_power_model_where))) [(.tmp 3), (.tmp 8), (.cst (.d (.fn n_power_model_poloc_1)))]), none⟩,
    ⟨(some 2), (.mv (.tmp 9)), none⟩] []) (
 .ret))
def R_power_model_poloc : List LRes := [(.tmp 2)]
def V_power_model_poloc : List Nat := [0, 2]

def L_power_empty (n_slices_ContainsFunc_uint64 : Nat) (n_power_empty_1 : Nat) : LCode :=
 .seq (
  .region false [⟨(some 2), (.mv (.cst (.d (.bool false)))), none⟩] []) (
 .seq (
  .region false [⟨(some 3), (.mv (.tmp 0)), none⟩,
    ⟨(some 4), (.call 0 false (.cst (.d (.fn n_slices_ContainsFunc_uint64))) [(.tmp 3), (.cst (.d (.fn n_power_empty_1)))]), none⟩,
    ⟨(some 5), (.un .not (.tmp 4)), none⟩,
    ⟨(some 2), (.mv (.tmp 5)), none⟩] []) (
 .ret))
def R_power_empty : List LRes := [(.tmp 2)]
def V_power_empty : List Nat := [0, 2]

def L_power_model_ppo (n_rel_Union : Nat) (n_rel_Inter : Nat) (n_rel_Then : Nat) (n_power_model_ext : Nat) (n_power_model_poloc : Nat) (n_rel_Minus : Nat) (n_power_keep : Nat) (n_power_all : Nat) (n_slices_Equal_uint64 : Nat) : LCode :=
 .seq (
  .region false [⟨(some 2), (.mv (.cst (.d (.list [] true)))), none⟩] []) (
 .seq (
  .region true [⟨(some 17), (.mv (.tmp 0)), none⟩,
    ⟨(some 18), (.nilchk (.tmp 17)), none⟩,
    ⟨(some 19), (.fieldAddr 1 (.tmp 18)), none⟩,
    ⟨(some 20), (.fieldAddr 5 (.tmp 19)), none⟩,
    ⟨(some 21), (.load false 1 (.tmp 20)), none⟩,
    ⟨(some 22), (.mv (.tmp 0)), none⟩,
    ⟨(some 23), (.nilchk (.tmp 22)), none⟩,
    ⟨(some 24), (.fieldAddr 1 (.tmp 23)), none⟩,
    ⟨(some 25), (.fieldAddr 6 (.tmp 24)), none⟩,
    ⟨(some 26), (.load false 1 (.tmp 25)), none⟩,
    ⟨(some 27), (.call 0 true (.cst (.d (.fn n_rel_Union))) [(.tmp 21), (.tmp 26)]), none⟩,
    ⟨(some 3), (.mv (.tmp 27)), none⟩] []) (
 .seq (
  .region false [⟨(some 28), (.mv (.tmp 0)), none⟩,
    ⟨(some 29), (.mv (.tmp 0)), none⟩,
    ⟨(some 30), (.nilchk (.tmp 29)), none⟩,
    ⟨(some 31), (.fieldAddr 1 (.tmp 30)), none⟩,
    ⟨(some 32), (.fieldAddr 2 (.tmp 31)), none⟩,
    ⟨(some 33), (.load false 1 (.tmp 32)), none⟩,
    ⟨(some 34), (.call 0 true (.cst (.d (.fn n_power_model_ext))) [(.tmp 28), (.tmp 33)]), none⟩,
    ⟨(some 35), (.mv (.tmp 0)), none⟩,
    ⟨(some 36), (.call 1 true (.cst (.d (.fn n_power_model_poloc))) [(.tmp 35)]), none⟩,
    ⟨(some 4), (.mv (.tmp 34)), none⟩,
    ⟨(some 5), (.mv (.tmp 36)), none⟩] []) (
 .seq (
  .region false [⟨(some 37), (.mv (.tmp 0)), none⟩,
    ⟨(some 38), (.nilchk (.tmp 37)), none⟩,
    ⟨(some 39), (.fieldAddr 1 (.tmp 38)), none⟩,
    ⟨(some 40), (.fieldAddr 2 (.tmp 39)), none⟩,
    ⟨(some 41), (.load false 1 (.tmp 40)), none⟩,
    ⟨(some 42), (.mv (.tmp 4)), none⟩,
    ⟨(some 43), (.call 0 true (.cst (.d (.fn n_rel_Minus))) [(.tmp 41), (.tmp 42)]), none⟩,
    ⟨(some 6), (.mv (.tmp 43)), none⟩] []) (
 .seq (
  .region false [⟨(some 44), (.mv (.tmp 5)), none⟩,
    ⟨(some 45), (.mv (.tmp 0)), none⟩,
    ⟨(some 46), (.mv (.tmp 0)), none⟩,
    ⟨(some 47), (.nilchk (.tmp 46)), none⟩,
    ⟨(some 48), (.fieldAddr 1 (.tmp 47)), none⟩,
    ⟨(some 49), (.fieldAddr 4 (.tmp 48)), none⟩,
    ⟨(some 50), (.load false 1 (.tmp 49)), none⟩,
    ⟨(some 51), (.call 0 true (.cst (.d (.fn n_power_model_ext))) [(.tmp 45), (.tmp 50)]), none⟩,
    ⟨(some 52), (.mv (.tmp 4)), none⟩,
    ⟨(some 53), (.call 1 true (.cst (.d (.fn n_rel_Then))) [(.tmp 51), (.tmp 52)]), none⟩,
    ⟨(some 54), (.call 2 true (.cst (.d (.fn n_rel_Inter))) [(.tmp 44), (.tmp 53)]), none⟩,
    ⟨(some 7), (.mv (.tmp 54)), none⟩] []) (
 .seq (
  .region false [⟨(some 55), (.mv (.tmp 5)), none⟩,
    ⟨(some 56), (.mv (.tmp 0)), none⟩,
    ⟨(some 57), (.mv (.tmp 0)), none⟩,
    ⟨(some 58), (.nilchk (.tmp 57)), none⟩,
    ⟨(some 59), (.fieldAddr 1 (.tmp 58)), none⟩,
    ⟨(some 60), (.fieldAddr 3 (.tmp 59)), none⟩,
    ⟨(some 61), (.load false 1 (.tmp 60)), none⟩,
    ⟨(some 62), (.call 0 true (.cst (.d (.fn n_power_model_ext))) [(.tmp 56), (.tmp 61)]), none⟩,
    ⟨(some 63), (.mv (.tmp 4)), none⟩,
    ⟨(some 64), (.call 1 true (.cst (.d (.fn n_rel_Then))) [(.tmp 62), (.tmp 63)]), none⟩,
    ⟨(some 65), (.call 2 true (.cst (.d (.fn n_rel_Inter))) [(.tmp 55), (.tmp 64)]), none⟩,
    ⟨(some 8), (.mv (.tmp 65)), none⟩] []) (
 .seq (
  .region false [⟨(some 66), (.mv (.tmp 3)), none⟩,
    ⟨(some 67), (.mv (.tmp 6)), none⟩,
    ⟨(some 68), (.mv (.tmp 7)), none⟩,
    ⟨(some 69), (.bslice 0 1 3 [(.d (.list [] true))] [(0, (.tmp 66)), (1, (.tmp 67)), (2, (.tmp 68))]), none⟩,
    ⟨(some 70), (.call 1 true (.cst (.d (.fn n_power_all))) [(.tmp 69)]), none⟩,
    ⟨(some 9), (.mv (.tmp 70)), none⟩] []) (
 .seq (
  .region false [⟨(some 71), (.mv (.tmp 0)), none⟩,
    ⟨(some 72), (.nilchk (.tmp 71)), none⟩,
    ⟨(some 73), (.fieldAddr 1 (.tmp 72)), none⟩,
    ⟨(some 74), (.fieldAddr 8 (.tmp 73)), none⟩,
    ⟨(some 75), (.load false 1 (.tmp 74)), none⟩,
    ⟨(some 76), (.mv (.tmp 8)), none⟩,
    ⟨(some 77), (.bslice 0 1 2 [(.d (.list [] true))] [(0, (.tmp 75)), (1, (.tmp 76))]), none⟩,
    ⟨(some 78), (.call 1 true (.cst (.d (.fn n_power_all))) [(.tmp 77)]), none⟩,
    ⟨(some 10), (.mv (.tmp 78)), none⟩] []) (
 .seq (
  .region true [⟨(some 79), (.mv (.tmp 3)), none⟩,
    ⟨(some 80), (.mv (.tmp 5)), none⟩,
    ⟨(some 81), (.mv (.tmp 0)), none⟩,
    ⟨(some 82), (.nilchk (.tmp 81)), none⟩,
    ⟨(some 83), (.fieldAddr 1 (.tmp 82)), none⟩,
    ⟨(some 84), (.fieldAddr 7 (.tmp 83)), none⟩,
    ⟨(some 85), (.load false 1 (.tmp 84)), none⟩,
    ⟨(some 86), (.mv (.tmp 0)), none⟩,
    ⟨(some 87), (.nilchk (.tmp 86)), none⟩,
    ⟨(some 88), (.fieldAddr 1 (.tmp 87)), none⟩,
    ⟨(some 89), (.fieldAddr 5 (.tmp 88)), none⟩,
    ⟨(some 90), (.load false 1 (.tmp 89)), none⟩,
    ⟨(some 91), (.mv (.tmp 0)), none⟩,
    ⟨(some 92), (.nilchk (.tmp 91)), none⟩,
    ⟨(some 93), (.fieldAddr 1 (.tmp 92)), none⟩,
    ⟨(some 94), (.fieldAddr 1 (.tmp 93)), none⟩,
    ⟨(some 95), (.load false 1 (.tmp 94)), none⟩,
    ⟨(some 96), (.call 0 true (.cst (.d (.fn n_rel_Then))) [(.tmp 90), (.tmp 95)]), none⟩,
    ⟨(some 97), (.bslice 1 1 4 [(.d (.list [] true))] [(0, (.tmp 79)), (1, (.tmp 80)), (2, (.tmp 85)), (3, (.tmp 96))]), none⟩,
    ⟨(some 98), (.call 2 true (.cst (.d (.fn n_power_all))) [(.tmp 97)]), none⟩,
    ⟨(some 11), (.mv (.tmp 98)), none⟩] [(6, 17)]) (
 .seq (
  .region false [⟨(some 99), (.mv (.tmp 0)), none⟩,
    ⟨(some 100), (.nilchk (.tmp 99)), none⟩,
    ⟨(some 101), (.fieldAddr 0 (.tmp 100)), none⟩,
    ⟨(some 102), (.load false 1 (.tmp 101)), none⟩,
    ⟨(some 103), (.len (.tmp 102)), none⟩,
    ⟨(some 104), (.mkslice 0 1 8 [(.d (.int .u64 0))] (.tmp 103) (.tmp 103)), none⟩,
    ⟨(some 12), (.mv (.tmp 104)), none⟩] []) (
 .block 0 (
  .loop (
   .block 1 (
    .seq (
     .region false [⟨(some 105), (.mv (.tmp 9)), none⟩,
       ⟨(some 106), (.mv (.tmp 10)), none⟩,
       ⟨(some 107), (.mv (.tmp 12)), none⟩,
       ⟨(some 108), (.mv (.tmp 10)), none⟩,
       ⟨(some 109), (.call 0 true (.cst (.d (.fn n_rel_Then))) [(.tmp 107), (.tmp 108)]), none⟩,
       ⟨(some 110), (.mv (.tmp 9)), none⟩,
       ⟨(some 111), (.mv (.tmp 9)), none⟩,
       ⟨(some 112), (.call 1 true (.cst (.d (.fn n_rel_Then))) [(.tmp 110), (.tmp 111)]), none⟩,
       ⟨(some 113), (.bslice 2 1 4 [(.d (.list [] true))] [(0, (.tmp 105)), (1, (.tmp 106)), (2, (.tmp 109)), (3, (.tmp 112))]), none⟩,
       ⟨(some 114), (.call 3 true (.cst (.d (.fn n_power_all))) [(.tmp 113)]), none⟩,
       ⟨(some 13), (.mv (.tmp 114)), none⟩] []) (
    .seq (
     .region false [⟨(some 115), (.mv (.tmp 10)), none⟩,
       ⟨(some 116), (.mv (.tmp 10)), none⟩,
       ⟨(some 117), (.mv (.tmp 9)), none⟩,
       ⟨(some 118), (.call 0 true (.cst (.d (.fn n_rel_Then))) [(.tmp 116), (.tmp 117)]), none⟩,
       ⟨(some 119), (.mv (.tmp 11)), none⟩,
       ⟨(some 120), (.mv (.tmp 10)), none⟩,
       ⟨(some 121), (.call 1 true (.cst (.d (.fn n_rel_Then))) [(.tmp 119), (.tmp 120)]), none⟩,
       ⟨(some 122), (.bslice 2 1 3 [(.d (.list [] true))] [(0, (.tmp 115)), (1, (.tmp 118)), (2, (.tmp 121))]), none⟩,
       ⟨(some 123), (.call 3 true (.cst (.d (.fn n_power_all))) [(.tmp 122)]), none⟩,
       ⟨(some 14), (.mv (.tmp 123)), none⟩] []) (
    .seq (
     .region false [⟨(some 124), (.mv (.tmp 12)), none⟩,
       ⟨(some 125), (.mv (.tmp 9)), none⟩,
       ⟨(some 126), (.mv (.tmp 11)), none⟩,
       ⟨(some 127), (.mv (.tmp 12)), none⟩,
       ⟨(some 128), (.mv (.tmp 11)), none⟩,
       ⟨(some 129), (.call 0 true (.cst (.d (.fn n_rel_Then))) [(.tmp 127), (.tmp 128)]), none⟩,
       ⟨(some 130), (.mv (.tmp 9)), none⟩,
       ⟨(some 131), (.mv (.tmp 12)), none⟩,
       ⟨(some 132), (.call 1 true (.cst (.d (.fn n_rel_Then))) [(.tmp 130), (.tmp 131)]), none⟩,
       ⟨(some 133), (.bslice 2 1 5 [(.d (.list [] true))] [(0, (.tmp 124)), (1, (.tmp 125)), (2, (.tmp 126)), (3, (.tmp 129)), (4, (.tmp 132))]), none⟩,
       ⟨(some 134), (.call 3 true (.cst (.d (.fn n_power_all))) [(.tmp 133)]), none⟩,
       ⟨(some 15), (.mv (.tmp 134)), none⟩] []) (
    .seq (
     .region false [⟨(some 135), (.mv (.tmp 11)), none⟩,
       ⟨(some 136), (.mv (.tmp 10)), none⟩,
       ⟨(some 137), (.mv (.tmp 10)), none⟩,
       ⟨(some 138), (.mv (.tmp 12)), none⟩,
       ⟨(some 139), (.call 0 true (.cst (.d (.fn n_rel_Then))) [(.tmp 137), (.tmp 138)]), none⟩,
       ⟨(some 140), (.mv (.tmp 11)), none⟩,
       ⟨(some 141), (.mv (.tmp 11)), none⟩,
       ⟨(some 142), (.call 1 true (.cst (.d (.fn n_rel_Then))) [(.tmp 140), (.tmp 141)]), none⟩,
       ⟨(some 143), (.bslice 2 1 4 [(.d (.list [] true))] [(0, (.tmp 135)), (1, (.tmp 136)), (2, (.tmp 139)), (3, (.tmp 142))]), none⟩,
       ⟨(some 144), (.call 3 true (.cst (.d (.fn n_power_all))) [(.tmp 143)]), none⟩,
       ⟨(some 16), (.mv (.tmp 144)), none⟩] []) (
    .seq (
     .seq (
      .region false [⟨(some 145), (.mv (.tmp 9)), none⟩,
        ⟨(some 146), (.mv (.tmp 13)), none⟩,
        ⟨(some 147), (.call 0 false (.cst (.d (.fn n_slices_Equal_uint64))) [(.tmp 145), (.tmp 146)]), none⟩,
        ⟨(some 148), (.mv (.tmp 147)), none⟩,
        ⟨(some 149), (.mv (.tmp 10)), (some (148, true))⟩,
        ⟨(some 150), (.mv (.tmp 14)), (some (148, true))⟩,
        ⟨(some 151), (.call 0 false (.cst (.d (.fn n_slices_Equal_uint64))) [(.tmp 149), (.tmp 150)]), (some (148, true))⟩,
        ⟨(some 152), (.pick (.tmp 148) (.tmp 151) (.cst (.d (.bool false)))), none⟩,
        ⟨(some 153), (.mv (.tmp 152)), none⟩,
        ⟨(some 154), (.mv (.tmp 12)), (some (153, true))⟩,
        ⟨(some 155), (.mv (.tmp 15)), (some (153, true))⟩,
        ⟨(some 156), (.call 0 false (.cst (.d (.fn n_slices_Equal_uint64))) [(.tmp 154), (.tmp 155)]), (some (153, true))⟩,
        ⟨(some 157), (.pick (.tmp 153) (.tmp 156) (.cst (.d (.bool false)))), none⟩,
        ⟨(some 158), (.mv (.tmp 157)), none⟩,
        ⟨(some 159), (.mv (.tmp 11)), (some (158, true))⟩,
        ⟨(some 160), (.mv (.tmp 16)), (some (158, true))⟩,
        ⟨(some 161), (.call 0 false (.cst (.d (.fn n_slices_Equal_uint64))) [(.tmp 159), (.tmp 160)]), (some (158, true))⟩,
        ⟨(some 162), (.pick (.tmp 158) (.tmp 161) (.cst (.d (.bool false)))), none⟩] []) (
     .cond (.tmp 162) (
      .seq (
       .region true [⟨(some 163), (.mv (.tmp 9)), none⟩,
         ⟨(some 164), (.mv (.tmp 0)), none⟩,
         ⟨(some 165), (.nilchk (.tmp 164)), none⟩,
         ⟨(some 166), (.fieldAddr 13 (.tmp 165)), none⟩,
         ⟨(some 167), (.load false 1 (.tmp 166)), none⟩,
         ⟨(some 168), (.mv (.tmp 0)), none⟩,
         ⟨(some 169), (.nilchk (.tmp 168)), none⟩,
         ⟨(some 170), (.fieldAddr 13 (.tmp 169)), none⟩,
         ⟨(some 171), (.load false 1 (.tmp 170)), none⟩,
         ⟨(some 172), (.call 0 true (.cst (.d (.fn n_power_keep))) [(.tmp 163), (.tmp 167), (.tmp 171)]), none⟩,
         ⟨(some 173), (.mv (.tmp 12)), none⟩,
         ⟨(some 174), (.mv (.tmp 0)), none⟩,
         ⟨(some 175), (.nilchk (.tmp 174)), none⟩,
         ⟨(some 176), (.fieldAddr 13 (.tmp 175)), none⟩,
         ⟨(some 177), (.load false 1 (.tmp 176)), none⟩,
         ⟨(some 178), (.mv (.tmp 0)), none⟩,
         ⟨(some 179), (.nilchk (.tmp 178)), none⟩,
         ⟨(some 180), (.fieldAddr 14 (.tmp 179)), none⟩,
         ⟨(some 181), (.load false 1 (.tmp 180)), none⟩,
         ⟨(some 182), (.call 1 true (.cst (.d (.fn n_power_keep))) [(.tmp 173), (.tmp 177), (.tmp 181)]), none⟩,
         ⟨(some 183), (.call 2 true (.cst (.d (.fn n_rel_Union))) [(.tmp 172), (.tmp 182)]), none⟩,
         ⟨(some 2), (.mv (.tmp 183)), none⟩] [(9, 14), (9, 18)]) (
      .ret)) (
      .skip))) (
    .region false [⟨(some 184), (.mv (.tmp 13)), none⟩,
      ⟨(some 185), (.mv (.tmp 14)), none⟩,
      ⟨(some 186), (.mv (.tmp 15)), none⟩,
      ⟨(some 187), (.mv (.tmp 16)), none⟩,
      ⟨(some 9), (.mv (.tmp 184)), none⟩,
      ⟨(some 10), (.mv (.tmp 185)), none⟩,
      ⟨(some 12), (.mv (.tmp 186)), none⟩,
      ⟨(some 11), (.mv (.tmp 187)), none⟩] []))))))))))))))))))
def R_power_model_ppo : List LRes := [(.tmp 2)]
def V_power_model_ppo : List Nat := [0, 4, 5, 3, 6, 7, 8, 9, 10, 12, 11, 13, 14, 15, 16, 162, 2]

def L_power_fit (n_rel_Has : Nat) : LCode :=
 .seq (
  .region false [⟨(some 4), (.mv (.cst (.d (.list [] true)))), none⟩] []) (
 .seq (
  .region false [⟨(some 8), (.mv (.tmp 1)), none⟩,
    ⟨(some 9), (.mkslice 0 1 8 [(.d (.int .u64 0))] (.tmp 8) (.tmp 8)), none⟩,
    ⟨(some 5), (.mv (.tmp 9)), none⟩] []) (
 .seq (
  .seq (
   .region false [⟨(some 10), (.mv (.tmp 5)), none⟩,
     ⟨(some 11), (.len (.tmp 10)), none⟩,
     ⟨(some 12), (.mv (.cst (.d (.int .i64 0)))), none⟩] []) (
  .block 0 (
   .loop (
    .seq (
     .region false [⟨(some 13), (.bin .lss (.tmp 12) (.tmp 11)), none⟩] []) (
    .seq (
     .cond (.tmp 13) (
      .skip) (
      (.exit 0))) (
    .seq (
     .block 1 (
      .seq (
       .region false [⟨(some 14), (.mv (.tmp 12)), none⟩, ⟨(some 6), (.mv (.tmp 14)), none⟩] []) (
      .seq (
       .region false [⟨(some 15), (.mv (.tmp 5)), none⟩,
         ⟨(some 16), (.len (.tmp 15)), none⟩,
         ⟨(some 17), (.mv (.cst (.d (.int .i64 0)))), none⟩] []) (
      .block 2 (
       .loop (
        .seq (
         .region false [⟨(some 18), (.bin .lss (.tmp 17) (.tmp 16)), none⟩] []) (
        .seq (
         .cond (.tmp 18) (
          .skip) (
          (.exit 2))) (
        .seq (
         .block 3 (
          .seq (
           .region false [⟨(some 19), (.mv (.tmp 17)), none⟩, ⟨(some 7), (.mv (.tmp 19)), none⟩] []) (
          .seq (
           .region false [⟨(some 20), (.mv (.tmp 0)), none⟩,
             ⟨(some 21), (.mv (.tmp 6)), none⟩,
             ⟨(some 22), (.mv (.tmp 7)), none⟩,
             ⟨(some 23), (.call 0 false (.cst (.d (.fn n_rel_Has))) [(.tmp 20), (.tmp 21), (.tmp 22)]), none⟩] []) (
          .cond (.tmp 23) (
           .region false [⟨(some 24), (.mv (.tmp 5)), none⟩,
             ⟨(some 25), (.mv (.tmp 6)), none⟩,
             ⟨(some 26), (.idxAddr 1 (.tmp 24) (.tmp 25)), none⟩,
             ⟨(some 27), (.load false 1 (.tmp 26)), none⟩,
             ⟨(some 28), (.mv (.tmp 7)), none⟩,
             ⟨(some 29), (.conv .u64 (.tmp 28)), none⟩,
             ⟨(some 30), (.bin .shl (.cst (.d (.int .u64 1))) (.tmp 29)), none⟩,
             ⟨(some 31), (.bin .or (.tmp 27) (.tmp 30)), none⟩,
             ⟨(some 32), (.idxAddr 1 (.tmp 24) (.tmp 25)), none⟩,
             ⟨none, (.store 1 (.tmp 32) (.tmp 31)), none⟩] []) (
           .skip))))) (
        .region false [⟨(some 33), (.bin .add (.tmp 17) (.cst (.d (.int .i64 1)))), none⟩, ⟨(some 17), (.mv (.tmp 33)), none⟩] []))))))))) (
    .region false [⟨(some 34), (.bin .add (.tmp 12) (.cst (.d (.int .i64 1)))), none⟩, ⟨(some 12), (.mv (.tmp 34)), none⟩] []))))))) (
 .seq (
  .region false [⟨(some 35), (.mv (.tmp 5)), none⟩, ⟨(some 4), (.mv (.tmp 35)), none⟩] []) (
 .ret))))
def R_power_fit : List LRes := [(.tmp 4)]
def V_power_fit : List Nat := [1, 5, 12, 11, 13, 17, 16, 18, 0, 6, 7, 23, 4]

def L_power_trim (n_slices_Clone_uint64 : Nat) : LCode :=
 .seq (
  .region false [⟨(some 4), (.mv (.cst (.d (.list [] true)))), none⟩] []) (
 .seq (
  .seq (
   .region false [⟨(some 6), (.mv (.tmp 0)), none⟩,
     ⟨(some 7), (.len (.tmp 6)), none⟩,
     ⟨(some 8), (.mv (.tmp 1)), none⟩,
     ⟨(some 9), (.bin .gtr (.tmp 7) (.tmp 8)), none⟩] []) (
  .cond (.tmp 9) (
   .seq (
    .region false [⟨(some 10), (.mv (.tmp 0)), none⟩,
      ⟨(some 11), (.mv (.tmp 1)), none⟩,
      ⟨(some 12), (.slice 1 (.tmp 10) none (some (.tmp 11)) none), none⟩,
      ⟨(some 4), (.mv (.tmp 12)), none⟩] []) (
   .ret)) (
   .skip))) (
 .seq (
  .region false [⟨(some 13), (.mv (.tmp 0)), none⟩,
    ⟨(some 14), (.call 0 true (.cst (.d (.fn n_slices_Clone_uint64))) [(.tmp 13)]), none⟩,
    ⟨(some 5), (.mv (.tmp 14)), none⟩] []) (
 .seq (
  .block 0 (
   .loop (
    .seq (
     .seq (
      .region false [⟨(some 15), (.mv (.tmp 5)), none⟩,
        ⟨(some 16), (.len (.tmp 15)), none⟩,
        ⟨(some 17), (.mv (.tmp 1)), none⟩,
        ⟨(some 18), (.bin .lss (.tmp 16) (.tmp 17)), none⟩] []) (
     .cond (.tmp 18) (
      .skip) (
      (.exit 0)))) (
    .block 1 (
     .region false [⟨(some 19), (.mv (.tmp 5)), none⟩,
       ⟨(some 20), (.bslice 0 1 1 [(.d (.int .u64 0))] [(0, (.cst (.d (.int .u64 0))))]), none⟩,
       ⟨(some 21), (.append 1 1 8 (.tmp 19) (.tmp 20)), none⟩,
       ⟨(some 5), (.mv (.tmp 21)), none⟩] []))))) (
 .seq (
  .region false [⟨(some 22), (.mv (.tmp 5)), none⟩, ⟨(some 4), (.mv (.tmp 22)), none⟩] []) (
 .ret)))))
def R_power_trim : List LRes := [(.tmp 4)]
def V_power_trim : List Nat := [0, 1, 9, 5, 18, 4]

def L_power_keep : LCode :=
 .seq (
  .region false [⟨(some 6), (.mv (.cst (.d (.list [] true)))), none⟩] []) (
 .seq (
  .region false [⟨(some 10), (.mv (.tmp 0)), none⟩,
    ⟨(some 11), (.len (.tmp 10)), none⟩,
    ⟨(some 12), (.mkslice 0 1 8 [(.d (.int .u64 0))] (.tmp 11) (.tmp 11)), none⟩,
    ⟨(some 7), (.mv (.tmp 12)), none⟩] []) (
 .seq (
  .seq (
   .region false [⟨(some 13), (.mv (.tmp 0)), none⟩,
     ⟨(some 14), (.len (.tmp 13)), none⟩,
     ⟨(some 15), (.mv (.cst (.d (.int .i64 0)))), none⟩] []) (
  .block 0 (
   .loop (
    .seq (
     .region false [⟨(some 16), (.bin .lss (.tmp 15) (.tmp 14)), none⟩] []) (
    .seq (
     .cond (.tmp 16) (
      .skip) (
      (.exit 0))) (
    .seq (
     .block 1 (
      .seq (
       .region false [⟨(some 17), (.mv (.tmp 15)), none⟩,
         ⟨(some 18), (.idxAddr 1 (.tmp 13) (.tmp 15)), none⟩,
         ⟨(some 19), (.load false 1 (.tmp 18)), none⟩,
         ⟨(some 8), (.mv (.tmp 17)), none⟩,
         ⟨(some 9), (.mv (.tmp 19)), none⟩] []) (
      .seq (
       .region false [⟨(some 20), (.mv (.tmp 1)), none⟩,
         ⟨(some 21), (.mv (.tmp 8)), none⟩,
         ⟨(some 22), (.conv .u64 (.tmp 21)), none⟩,
         ⟨(some 23), (.bin .shr (.tmp 20) (.tmp 22)), none⟩,
         ⟨(some 24), (.bin .and (.tmp 23) (.cst (.d (.int .u64 1)))), none⟩,
         ⟨(some 25), (.bin .eql (.tmp 24) (.cst (.d (.int .u64 1)))), none⟩] []) (
      .cond (.tmp 25) (
       .region false [⟨(some 26), (.mv (.tmp 7)), none⟩,
         ⟨(some 27), (.mv (.tmp 8)), none⟩,
         ⟨(some 28), (.mv (.tmp 9)), none⟩,
         ⟨(some 29), (.mv (.tmp 2)), none⟩,
         ⟨(some 30), (.bin .and (.tmp 28) (.tmp 29)), none⟩,
         ⟨(some 31), (.idxAddr 1 (.tmp 26) (.tmp 27)), none⟩,
         ⟨none, (.store 1 (.tmp 31) (.tmp 30)), none⟩] []) (
       .skip))))) (
    .region false [⟨(some 32), (.bin .add (.tmp 15) (.cst (.d (.int .i64 1)))), none⟩, ⟨(some 15), (.mv (.tmp 32)), none⟩] []))))))) (
 .seq (
  .region false [⟨(some 33), (.mv (.tmp 7)), none⟩, ⟨(some 6), (.mv (.tmp 33)), none⟩] []) (
 .ret))))
def R_power_keep : List LRes := [(.tmp 6)]
def V_power_keep : List Nat := [0, 15, 14, 16, 13, 1, 8, 25, 7, 9, 2, 6]

def L_power_all (n_rel_Union : Nat) : LCode :=
 .seq (
  .region false [⟨(some 2), (.mv (.cst (.d (.list [] true)))), none⟩] []) (
 .seq (
  .region false [⟨(some 3), (.mv (.cst (.d (.list [] true)))), none⟩] []) (
 .seq (
  .seq (
   .region false [⟨(some 6), (.mv (.tmp 0)), none⟩,
     ⟨(some 7), (.len (.tmp 6)), none⟩,
     ⟨(some 8), (.mv (.cst (.d (.int .i64 0)))), none⟩] []) (
  .block 0 (
   .loop (
    .seq (
     .region false [⟨(some 9), (.bin .lss (.tmp 8) (.tmp 7)), none⟩] []) (
    .seq (
     .cond (.tmp 9) (
      .skip) (
      (.exit 0))) (
    .seq (
     .block 1 (
      .seq (
       .region false [⟨(some 10), (.idxAddr 1 (.tmp 6) (.tmp 8)), none⟩,
         ⟨(some 11), (.load false 1 (.tmp 10)), none⟩,
         ⟨(some 5), (.mv (.tmp 11)), none⟩] []) (
      .region false [⟨(some 12), (.mv (.tmp 3)), none⟩,
        ⟨(some 13), (.mv (.tmp 5)), none⟩,
        ⟨(some 14), (.call 0 true (.cst (.d (.fn n_rel_Union))) [(.tmp 12), (.tmp 13)]), none⟩,
        ⟨(some 3), (.mv (.tmp 14)), none⟩] []))) (
    .region false [⟨(some 15), (.bin .add (.tmp 8) (.cst (.d (.int .i64 1)))), none⟩, ⟨(some 8), (.mv (.tmp 15)), none⟩] []))))))) (
 .seq (
  .region false [⟨(some 16), (.mv (.tmp 3)), none⟩, ⟨(some 2), (.mv (.tmp 16)), none⟩] []) (
 .ret))))
def R_power_all : List LRes := [(.tmp 2)]
def V_power_all : List Nat := [0, 8, 7, 9, 6, 3, 5, 2]

def L_power_model_where (n_rel_Has : Nat) : LCode :=
 .seq (
  .region false [⟨(some 6), (.mv (.cst (.d (.list [] true)))), none⟩] []) (
 .seq (
  .region false [⟨(some 10), (.mv (.tmp 1)), none⟩,
    ⟨(some 11), (.len (.tmp 10)), none⟩,
    ⟨(some 12), (.mkslice 0 1 8 [(.d (.int .u64 0))] (.tmp 11) (.tmp 11)), none⟩,
    ⟨(some 7), (.mv (.tmp 12)), none⟩] []) (
 .seq (
  .seq (
   .region false [⟨(some 13), (.mv (.tmp 1)), none⟩,
     ⟨(some 14), (.len (.tmp 13)), none⟩,
     ⟨(some 15), (.mv (.cst (.d (.int .i64 0)))), none⟩] []) (
  .block 0 (
   .loop (
    .seq (
     .region false [⟨(some 16), (.bin .lss (.tmp 15) (.tmp 14)), none⟩] []) (
    .seq (
     .cond (.tmp 16) (
      .skip) (
      (.exit 0))) (
    .seq (
     .block 1 (
      .seq (
       .region false [⟨(some 17), (.mv (.tmp 15)), none⟩, ⟨(some 8), (.mv (.tmp 17)), none⟩] []) (
      .seq (
       .region false [⟨(some 18), (.mv (.tmp 1)), none⟩,
         ⟨(some 19), (.len (.tmp 18)), none⟩,
         ⟨(some 20), (.mv (.cst (.d (.int .i64 0)))), none⟩] []) (
      .block 2 (
       .loop (
        .seq (
         .region false [⟨(some 21), (.bin .lss (.tmp 20) (.tmp 19)), none⟩] []) (
        .seq (
         .cond (.tmp 21) (
          .skip) (
          (.exit 2))) (
        .seq (
         .block 3 (
          .seq (
           .region false [⟨(some 22), (.mv (.tmp 20)), none⟩, ⟨(some 9), (.mv (.tmp 22)), none⟩] []) (
          .seq (
           .region true [⟨(some 23), (.mv (.tmp 1)), none⟩,
             ⟨(some 24), (.mv (.tmp 8)), none⟩,
             ⟨(some 25), (.mv (.tmp 9)), none⟩,
             ⟨(some 26), (.call 0 false (.cst (.d (.fn n_rel_Has))) [(.tmp 23), (.tmp 24), (.tmp 25)]), none⟩,
             ⟨(some 27), (.mv (.tmp 26)), none⟩,
             ⟨(some 28), (.mv (.tmp 2)), (some (27, true))⟩,
             ⟨(some 29), (.mv (.tmp 0)), (some (27, true))⟩,
             ⟨(some 30), (.nilchk (.tmp 29)), (some (27, true))⟩,
             ⟨(some 31), (.fieldAddr 0 (.tmp 30)), (some (27, true))⟩,
             ⟨(some 32), (.load false 1 (.tmp 31)), (some (27, true))⟩,
             ⟨(some 33), (.mv (.tmp 8)), (some (27, true))⟩,
             ⟨(some 34), (.idxAddr 4 (.tmp 32) (.tmp 33)), (some (27, true))⟩,
             ⟨(some 35), (.load true 4 (.tmp 34)), (some (27, true))⟩,
             ⟨(some 36), (.mv (.tmp 0)), (some (27, true))⟩,
             ⟨(some 37), (.nilchk (.tmp 36)), (some (27, true))⟩,
             ⟨(some 38), (.fieldAddr 0 (.tmp 37)), (some (27, true))⟩,
             ⟨(some 39), (.load false 1 (.tmp 38)), (some (27, true))⟩,
             ⟨(some 40), (.mv (.tmp 9)), (some (27, true))⟩,
             ⟨(some 41), (.idxAddr 4 (.tmp 39) (.tmp 40)), (some (27, true))⟩,
             ⟨(some 42), (.load true 4 (.tmp 41)), (some (27, true))⟩,
             ⟨(some 43), (.call 0 false (.tmp 28) [(.tmp 35), (.tmp 42)]), (some (27, true))⟩,
             ⟨(some 44), (.pick (.tmp 27) (.tmp 43) (.cst (.d (.bool false)))), none⟩] []) (
          .cond (.tmp 44) (
           .region false [⟨(some 45), (.mv (.tmp 7)), none⟩,
             ⟨(some 46), (.mv (.tmp 8)), none⟩,
             ⟨(some 47), (.idxAddr 1 (.tmp 45) (.tmp 46)), none⟩,
             ⟨(some 48), (.load false 1 (.tmp 47)), none⟩,
             ⟨(some 49), (.mv (.tmp 9)), none⟩,
             ⟨(some 50), (.conv .u64 (.tmp 49)), none⟩,
             ⟨(some 51), (.bin .shl (.cst (.d (.int .u64 1))) (.tmp 50)), none⟩,
             ⟨(some 52), (.bin .or (.tmp 48) (.tmp 51)), none⟩,
             ⟨(some 53), (.idxAddr 1 (.tmp 45) (.tmp 46)), none⟩,
             ⟨none, (.store 1 (.tmp 53) (.tmp 52)), none⟩] []) (
           .skip))))) (
        .region false [⟨(some 54), (.bin .add (.tmp 20) (.cst (.d (.int .i64 1)))), none⟩, ⟨(some 20), (.mv (.tmp 54)), none⟩] []))))))))) (
    .region false [⟨(some 55), (.bin .add (.tmp 15) (.cst (.d (.int .i64 1)))), none⟩, ⟨(some 15), (.mv (.tmp 55)), none⟩] []))))))) (
 .seq (
  .region false [⟨(some 56), (.mv (.tmp 7)), none⟩, ⟨(some 6), (.mv (.tmp 56)), none⟩] []) (
 .ret))))
def R_power_model_where : List LRes := [(.tmp 6)]
def V_power_model_where : List Nat := [1, 15, 14, 16, 20, 19, 21, 8, 9, 2, 0, 44, 7, 6]

def L_power_apart : LCode :=
 .seq (
  .region false [⟨(some 2), (.box 0 (.tmp 0)), none⟩,
    ⟨(some 3), (.box 1 (.tmp 1)), none⟩,
    ⟨(some 4), (.mv (.cst (.d (.bool false)))), none⟩] []) (
 .seq (
  .region false [⟨(some 5), (.fieldAddr 0 (.tmp 2)), none⟩,
    ⟨(some 6), (.load false 1 (.tmp 5)), none⟩,
    ⟨(some 7), (.fieldAddr 0 (.tmp 3)), none⟩,
    ⟨(some 8), (.load false 1 (.tmp 7)), none⟩,
    ⟨(some 9), (.bin .neq (.tmp 6) (.tmp 8)), none⟩,
    ⟨(some 10), (.mv (.tmp 9)), none⟩,
    ⟨(some 11), (.fieldAddr 0 (.tmp 2)), (some (10, false))⟩,
    ⟨(some 12), (.load false 1 (.tmp 11)), (some (10, false))⟩,
    ⟨(some 13), (.bin .lss (.tmp 12) (.cst (.d (.int .i64 0)))), (some (10, false))⟩,
    ⟨(some 14), (.pick (.tmp 10) (.cst (.d (.bool true))) (.tmp 13)), none⟩,
    ⟨(some 4), (.mv (.tmp 14)), none⟩] []) (
 .ret))
def R_power_apart : List LRes := [(.tmp 4)]
def V_power_apart : List Nat := [0, 1, 2, 3, 4]

def L_power_model_poloc_1 : LCode :=
 .seq (
  .region false [⟨(some 2), (.box 0 (.tmp 0)), none⟩,
    ⟨(some 3), (.box 1 (.tmp 1)), none⟩,
    ⟨(some 4), (.mv (.cst (.d (.bool false)))), none⟩] []) (
 .seq (
  .region false [⟨(some 5), (.fieldAddr 2 (.tmp 2)), none⟩,
    ⟨(some 6), (.load false 1 (.tmp 5)), none⟩,
    ⟨(some 7), (.fieldAddr 2 (.tmp 3)), none⟩,
    ⟨(some 8), (.load false 1 (.tmp 7)), none⟩,
    ⟨(some 9), (.bin .eql (.tmp 6) (.tmp 8)), none⟩,
    ⟨(some 4), (.mv (.tmp 9)), none⟩] []) (
 .ret))
def R_power_model_poloc_1 : List LRes := [(.tmp 4)]
def V_power_model_poloc_1 : List Nat := [0, 1, 2, 3, 4]

def L_power_empty_1 : LCode :=
 .seq (
  .region false [⟨(some 2), (.mv (.cst (.d (.bool false)))), none⟩] []) (
 .seq (
  .region false [⟨(some 3), (.mv (.tmp 0)), none⟩,
    ⟨(some 4), (.bin .neq (.tmp 3) (.cst (.d (.int .u64 0)))), none⟩,
    ⟨(some 2), (.mv (.tmp 4)), none⟩] []) (
 .ret))
def R_power_empty_1 : List LRes := [(.tmp 2)]
def V_power_empty_1 : List Nat := [0, 2]

end Go.Ago

/- Lowered functions of a package, callees by their numbers. Printed by a program of this session. Conditions: none. -/
set_option maxRecDepth 100000
set_option linter.unusedVariables false
namespace Go.Ago
def L_ref02_Same : LCode :=
 .seq (
  .region false [⟨(some 4), (.mv (.cst (.d (.bool false)))), none⟩] []) (
 .seq (
  .seq (
   .region false [⟨(some 6), (.mv (.tmp 0)), none⟩,
     ⟨(some 7), (.len (.tmp 6)), none⟩,
     ⟨(some 8), (.mv (.tmp 1)), none⟩,
     ⟨(some 9), (.len (.tmp 8)), none⟩,
     ⟨(some 10), (.bin .neq (.tmp 7) (.tmp 9)), none⟩] []) (
  .cond (.tmp 10) (
   .seq (
    .region false [⟨(some 4), (.mv (.cst (.d (.bool false)))), none⟩] []) (
   .ret)) (
   .skip))) (
 .seq (
  .seq (
   .region false [⟨(some 5), (.mv (.cst (.d (.int .i64 0)))), none⟩] []) (
  .block 0 (
   .loop (
    .seq (
     .seq (
      .region false [⟨(some 11), (.mv (.tmp 5)), none⟩,
        ⟨(some 12), (.mv (.tmp 0)), none⟩,
        ⟨(some 13), (.len (.tmp 12)), none⟩,
        ⟨(some 14), (.bin .lss (.tmp 11) (.tmp 13)), none⟩] []) (
     .cond (.tmp 14) (
      .skip) (
      (.exit 0)))) (
    .seq (
     .block 1 (
      .seq (
       .region true [⟨(some 17), (.mv (.tmp 0)), none⟩,
         ⟨(some 18), (.mv (.tmp 5)), none⟩,
         ⟨(some 19), (.idxAddr 1 (.tmp 17) (.tmp 18)), none⟩,
         ⟨(some 20), (.load false 1 (.tmp 19)), none⟩,
         ⟨(some 21), (.mv (.tmp 1)), none⟩,
         ⟨(some 22), (.mv (.tmp 5)), none⟩,
         ⟨(some 23), (.idxAddr 1 (.tmp 21) (.tmp 22)), none⟩,
         ⟨(some 24), (.load false 1 (.tmp 23)), none⟩,
         ⟨(some 25), (.bin .neq (.tmp 20) (.tmp 24)), none⟩] []) (
      .cond (.tmp 25) (
       .seq (
        .region false [⟨(some 4), (.mv (.cst (.d (.bool false)))), none⟩] []) (
       .ret)) (
       .skip)))) (
    .region false [⟨(some 15), (.mv (.tmp 5)), none⟩,
      ⟨(some 16), (.bin .add (.tmp 15) (.cst (.d (.int .i64 1)))), none⟩,
      ⟨(some 5), (.mv (.tmp 16)), none⟩] [])))))) (
 .seq (
  .region false [⟨(some 4), (.mv (.cst (.d (.bool true)))), none⟩] []) (
 .ret))))
def R_ref02_Same : List LRes := [(.tmp 4)]
def V_ref02_Same : List Nat := [0, 1, 10, 5, 14, 25, 4]

def L_ref02_Lay (n_ref02_Has : Nat) (n_ref02_Put : Nat) (n_ref02_most : Nat) : LCode :=
 .seq (
  .region false [⟨(some 6), (.mv (.cst (.d (.list [] true)))), none⟩] []) (
 .seq (
  .region false [⟨(some 13), (.mv (.tmp 0)), none⟩,
    ⟨(some 14), (.mv (.tmp 1)), none⟩,
    ⟨(some 15), (.call 0 false (.cst (.d (.fn n_ref02_most))) [(.tmp 13), (.tmp 14)]), none⟩,
    ⟨(some 7), (.mv (.tmp 15)), none⟩] []) (
 .seq (
  .region false [⟨(some 16), (.mv (.tmp 7)), none⟩,
    ⟨(some 17), (.mkslice 0 1 8 [(.d (.int .u64 0))] (.tmp 16) (.tmp 16)), none⟩,
    ⟨(some 8), (.mv (.tmp 17)), none⟩] []) (
 .seq (
  .seq (
   .region false [⟨(some 9), (.mv (.cst (.d (.int .i64 0)))), none⟩] []) (
  .block 0 (
   .loop (
    .seq (
     .seq (
      .region false [⟨(some 18), (.mv (.tmp 9)), none⟩,
        ⟨(some 19), (.mv (.tmp 7)), none⟩,
        ⟨(some 20), (.bin .lss (.tmp 18) (.tmp 19)), none⟩] []) (
     .cond (.tmp 20) (
      .skip) (
      (.exit 0)))) (
    .seq (
     .block 1 (
      .seq (
       .region false [⟨(some 10), (.mv (.cst (.d (.int .i64 0)))), none⟩] []) (
      .block 2 (
       .loop (
        .seq (
         .seq (
          .region false [⟨(some 23), (.mv (.tmp 10)), none⟩,
            ⟨(some 24), (.mv (.tmp 7)), none⟩,
            ⟨(some 25), (.bin .lss (.tmp 23) (.tmp 24)), none⟩] []) (
         .cond (.tmp 25) (
          .skip) (
          (.exit 2)))) (
        .seq (
         .block 3 (
          .seq (
           .region false [⟨(some 28), (.mv (.tmp 0)), none⟩,
             ⟨(some 29), (.mv (.tmp 9)), none⟩,
             ⟨(some 30), (.mv (.tmp 10)), none⟩,
             ⟨(some 31), (.call 0 false (.cst (.d (.fn n_ref02_Has))) [(.tmp 28), (.tmp 29), (.tmp 30)]), none⟩,
             ⟨(some 32), (.mv (.tmp 1)), none⟩,
             ⟨(some 33), (.mv (.tmp 9)), none⟩,
             ⟨(some 34), (.mv (.tmp 10)), none⟩,
             ⟨(some 35), (.call 0 false (.cst (.d (.fn n_ref02_Has))) [(.tmp 32), (.tmp 33), (.tmp 34)]), none⟩,
             ⟨(some 11), (.mv (.tmp 31)), none⟩,
             ⟨(some 12), (.mv (.tmp 35)), none⟩] []) (
          .seq (
           .region false [⟨(some 36), (.mv (.tmp 2)), none⟩,
             ⟨(some 37), (.bin .eql (.tmp 36) (.cst (.d (.int .i64 0)))), none⟩,
             ⟨(some 38), (.mv (.tmp 37)), none⟩,
             ⟨(some 39), (.mv (.tmp 11)), (some (38, true))⟩,
             ⟨(some 40), (.mv (.tmp 39)), (some (38, true))⟩,
             ⟨(some 41), (.mv (.tmp 12)), (some (40, false))⟩,
             ⟨(some 42), (.pick (.tmp 40) (.cst (.d (.bool true))) (.tmp 41)), (some (38, true))⟩,
             ⟨(some 43), (.pick (.tmp 38) (.tmp 42) (.cst (.d (.bool false)))), none⟩,
             ⟨(some 44), (.mv (.tmp 43)), none⟩,
             ⟨(some 45), (.mv (.tmp 2)), (some (44, false))⟩,
             ⟨(some 46), (.bin .eql (.tmp 45) (.cst (.d (.int .i64 1)))), (some (44, false))⟩,
             ⟨(some 47), (.mv (.tmp 46)), (some (44, false))⟩,
             ⟨(some 48), (.mv (.tmp 11)), (some (47, true))⟩,
             ⟨(some 49), (.pick (.tmp 47) (.tmp 48) (.cst (.d (.bool false)))), (some (44, false))⟩,
             ⟨(some 50), (.mv (.tmp 49)), (some (44, false))⟩,
             ⟨(some 51), (.mv (.tmp 12)), (some (50, true))⟩,
             ⟨(some 52), (.pick (.tmp 50) (.tmp 51) (.cst (.d (.bool false)))), (some (44, false))⟩,
             ⟨(some 53), (.pick (.tmp 44) (.cst (.d (.bool true))) (.tmp 52)), none⟩,
             ⟨(some 54), (.mv (.tmp 53)), none⟩,
             ⟨(some 55), (.mv (.tmp 2)), (some (54, false))⟩,
             ⟨(some 56), (.bin .eql (.tmp 55) (.cst (.d (.int .i64 2)))), (some (54, false))⟩,
             ⟨(some 57), (.mv (.tmp 56)), (some (54, false))⟩,
             ⟨(some 58), (.mv (.tmp 11)), (some (57, true))⟩,
             ⟨(some 59), (.pick (.tmp 57) (.tmp 58) (.cst (.d (.bool false)))), (some (54, false))⟩,
             ⟨(some 60), (.mv (.tmp 59)), (some (54, false))⟩,
             ⟨(some 61), (.mv (.tmp 12)), (some (60, true))⟩,
             ⟨(some 62), (.un .not (.tmp 61)), (some (60, true))⟩,
             ⟨(some 63), (.pick (.tmp 60) (.tmp 62) (.cst (.d (.bool false)))), (some (54, false))⟩,
             ⟨(some 64), (.pick (.tmp 54) (.cst (.d (.bool true))) (.tmp 63)), none⟩] []) (
          .cond (.tmp 64) (
           .region false [⟨(some 65), (.mv (.tmp 8)), none⟩,
             ⟨(some 66), (.mv (.tmp 9)), none⟩,
             ⟨(some 67), (.mv (.tmp 10)), none⟩,
             ⟨(some 68), (.call 0 false (.cst (.d (.fn n_ref02_Put))) [(.tmp 65), (.tmp 66), (.tmp 67)]), none⟩] []) (
           .skip))))) (
        .region false [⟨(some 26), (.mv (.tmp 10)), none⟩,
          ⟨(some 27), (.bin .add (.tmp 26) (.cst (.d (.int .i64 1)))), none⟩,
          ⟨(some 10), (.mv (.tmp 27)), none⟩] []))))))) (
    .region false [⟨(some 21), (.mv (.tmp 9)), none⟩,
      ⟨(some 22), (.bin .add (.tmp 21) (.cst (.d (.int .i64 1)))), none⟩,
      ⟨(some 9), (.mv (.tmp 22)), none⟩] [])))))) (
 .seq (
  .region false [⟨(some 69), (.mv (.tmp 8)), none⟩, ⟨(some 6), (.mv (.tmp 69)), none⟩] []) (
 .ret)))))
def R_ref02_Lay : List LRes := [(.tmp 6)]
def V_ref02_Lay : List Nat := [0, 1, 7, 9, 20, 10, 25, 2, 11, 12, 64, 8, 6]

def L_ref02_Then (n_ref02_Has : Nat) (n_ref02_Put : Nat) (n_ref02_most : Nat) : LCode :=
 .seq (
  .region false [⟨(some 4), (.mv (.cst (.d (.list [] true)))), none⟩] []) (
 .seq (
  .region false [⟨(some 10), (.mv (.tmp 0)), none⟩,
    ⟨(some 11), (.mv (.tmp 1)), none⟩,
    ⟨(some 12), (.call 0 false (.cst (.d (.fn n_ref02_most))) [(.tmp 10), (.tmp 11)]), none⟩,
    ⟨(some 5), (.mv (.tmp 12)), none⟩] []) (
 .seq (
  .region false [⟨(some 13), (.mv (.tmp 5)), none⟩,
    ⟨(some 14), (.mkslice 0 1 8 [(.d (.int .u64 0))] (.tmp 13) (.tmp 13)), none⟩,
    ⟨(some 6), (.mv (.tmp 14)), none⟩] []) (
 .seq (
  .seq (
   .region false [⟨(some 7), (.mv (.cst (.d (.int .i64 0)))), none⟩] []) (
  .block 0 (
   .loop (
    .seq (
     .seq (
      .region false [⟨(some 15), (.mv (.tmp 7)), none⟩,
        ⟨(some 16), (.mv (.tmp 5)), none⟩,
        ⟨(some 17), (.bin .lss (.tmp 15) (.tmp 16)), none⟩] []) (
     .cond (.tmp 17) (
      .skip) (
      (.exit 0)))) (
    .seq (
     .block 1 (
      .seq (
       .region false [⟨(some 8), (.mv (.cst (.d (.int .i64 0)))), none⟩] []) (
      .block 2 (
       .loop (
        .seq (
         .seq (
          .region false [⟨(some 20), (.mv (.tmp 8)), none⟩,
            ⟨(some 21), (.mv (.tmp 5)), none⟩,
            ⟨(some 22), (.bin .lss (.tmp 20) (.tmp 21)), none⟩] []) (
         .cond (.tmp 22) (
          .skip) (
          (.exit 2)))) (
        .seq (
         .block 3 (
          .seq (
           .seq (
            .region false [⟨(some 25), (.mv (.tmp 0)), none⟩,
              ⟨(some 26), (.mv (.tmp 7)), none⟩,
              ⟨(some 27), (.mv (.tmp 8)), none⟩,
              ⟨(some 28), (.call 0 false (.cst (.d (.fn n_ref02_Has))) [(.tmp 25), (.tmp 26), (.tmp 27)]), none⟩,
              ⟨(some 29), (.un .not (.tmp 28)), none⟩] []) (
           .cond (.tmp 29) (
            (.exit 3)) (
            .skip))) (
          .seq (
           .region false [⟨(some 9), (.mv (.cst (.d (.int .i64 0)))), none⟩] []) (
          .block 4 (
           .loop (
            .seq (
             .seq (
              .region false [⟨(some 30), (.mv (.tmp 9)), none⟩,
                ⟨(some 31), (.mv (.tmp 5)), none⟩,
                ⟨(some 32), (.bin .lss (.tmp 30) (.tmp 31)), none⟩] []) (
             .cond (.tmp 32) (
              .skip) (
              (.exit 4)))) (
            .seq (
             .block 5 (
              .seq (
               .region false [⟨(some 35), (.mv (.tmp 1)), none⟩,
                 ⟨(some 36), (.mv (.tmp 8)), none⟩,
                 ⟨(some 37), (.mv (.tmp 9)), none⟩,
                 ⟨(some 38), (.call 0 false (.cst (.d (.fn n_ref02_Has))) [(.tmp 35), (.tmp 36), (.tmp 37)]), none⟩] []) (
              .cond (.tmp 38) (
               .region false [⟨(some 39), (.mv (.tmp 6)), none⟩,
                 ⟨(some 40), (.mv (.tmp 7)), none⟩,
                 ⟨(some 41), (.mv (.tmp 9)), none⟩,
                 ⟨(some 42), (.call 0 false (.cst (.d (.fn n_ref02_Put))) [(.tmp 39), (.tmp 40), (.tmp 41)]), none⟩] []) (
               .skip)))) (
            .region false [⟨(some 33), (.mv (.tmp 9)), none⟩,
              ⟨(some 34), (.bin .add (.tmp 33) (.cst (.d (.int .i64 1)))), none⟩,
              ⟨(some 9), (.mv (.tmp 34)), none⟩] [])))))))) (
        .region false [⟨(some 23), (.mv (.tmp 8)), none⟩,
          ⟨(some 24), (.bin .add (.tmp 23) (.cst (.d (.int .i64 1)))), none⟩,
          ⟨(some 8), (.mv (.tmp 24)), none⟩] []))))))) (
    .region false [⟨(some 18), (.mv (.tmp 7)), none⟩,
      ⟨(some 19), (.bin .add (.tmp 18) (.cst (.d (.int .i64 1)))), none⟩,
      ⟨(some 7), (.mv (.tmp 19)), none⟩] [])))))) (
 .seq (
  .region false [⟨(some 43), (.mv (.tmp 6)), none⟩, ⟨(some 4), (.mv (.tmp 43)), none⟩] []) (
 .ret)))))
def R_ref02_Then : List LRes := [(.tmp 4)]
def V_ref02_Then : List Nat := [0, 1, 5, 7, 17, 8, 22, 29, 9, 32, 38, 6, 4]

def L_ref02_Has (n_ref02_Size : Nat) : LCode :=
 .seq (
  .region false [⟨(some 6), (.mv (.cst (.d (.bool false)))), none⟩] []) (
 .seq (
  .region false [⟨(some 8), (.mv (.tmp 0)), none⟩,
    ⟨(some 9), (.call 0 false (.cst (.d (.fn n_ref02_Size))) [(.tmp 8)]), none⟩,
    ⟨(some 7), (.mv (.tmp 9)), none⟩] []) (
 .seq (
  .seq (
   .region false [⟨(some 10), (.mv (.tmp 1)), none⟩,
     ⟨(some 11), (.bin .lss (.tmp 10) (.cst (.d (.int .i64 0)))), none⟩,
     ⟨(some 12), (.mv (.tmp 11)), none⟩,
     ⟨(some 13), (.mv (.tmp 1)), (some (12, false))⟩,
     ⟨(some 14), (.mv (.tmp 7)), (some (12, false))⟩,
     ⟨(some 15), (.bin .geq (.tmp 13) (.tmp 14)), (some (12, false))⟩,
     ⟨(some 16), (.pick (.tmp 12) (.cst (.d (.bool true))) (.tmp 15)), none⟩,
     ⟨(some 17), (.mv (.tmp 16)), none⟩,
     ⟨(some 18), (.mv (.tmp 2)), (some (17, false))⟩,
     ⟨(some 19), (.bin .lss (.tmp 18) (.cst (.d (.int .i64 0)))), (some (17, false))⟩,
     ⟨(some 20), (.pick (.tmp 17) (.cst (.d (.bool true))) (.tmp 19)), none⟩,
     ⟨(some 21), (.mv (.tmp 20)), none⟩,
     ⟨(some 22), (.mv (.tmp 2)), (some (21, false))⟩,
     ⟨(some 23), (.mv (.tmp 7)), (some (21, false))⟩,
     ⟨(some 24), (.bin .geq (.tmp 22) (.tmp 23)), (some (21, false))⟩,
     ⟨(some 25), (.pick (.tmp 21) (.cst (.d (.bool true))) (.tmp 24)), none⟩] []) (
  .cond (.tmp 25) (
   .seq (
    .region false [⟨(some 6), (.mv (.cst (.d (.bool false)))), none⟩] []) (
   .ret)) (
   .skip))) (
 .seq (
  .region false [⟨(some 26), (.mv (.tmp 0)), none⟩,
    ⟨(some 27), (.mv (.tmp 1)), none⟩,
    ⟨(some 28), (.idxAddr 1 (.tmp 26) (.tmp 27)), none⟩,
    ⟨(some 29), (.load false 1 (.tmp 28)), none⟩,
    ⟨(some 30), (.mv (.tmp 2)), none⟩,
    ⟨(some 31), (.conv .u64 (.tmp 30)), none⟩,
    ⟨(some 32), (.bin .shl (.cst (.d (.int .u64 1))) (.tmp 31)), none⟩,
    ⟨(some 33), (.bin .quo (.tmp 29) (.tmp 32)), none⟩,
    ⟨(some 34), (.bin .rem (.tmp 33) (.cst (.d (.int .u64 2)))), none⟩,
    ⟨(some 35), (.bin .eql (.tmp 34) (.cst (.d (.int .u64 1)))), none⟩,
    ⟨(some 6), (.mv (.tmp 35)), none⟩] []) (
 .ret))))
def R_ref02_Has : List LRes := [(.tmp 6)]
def V_ref02_Has : List Nat := [0, 1, 7, 2, 25, 6]

def L_ref02_Plus (n_ref02_Has : Nat) (n_ref02_Put : Nat) (n_ref02_Size : Nat) : LCode :=
 .seq (
  .region false [⟨(some 2), (.mv (.cst (.d (.list [] true)))), none⟩] []) (
 .seq (
  .region false [⟨(some 10), (.mv (.tmp 0)), none⟩,
    ⟨(some 11), (.call 0 false (.cst (.d (.fn n_ref02_Size))) [(.tmp 10)]), none⟩,
    ⟨(some 3), (.mv (.tmp 11)), none⟩] []) (
 .seq (
  .region false [⟨(some 12), (.mv (.tmp 3)), none⟩,
    ⟨(some 13), (.mkslice 0 1 8 [(.d (.int .u64 0))] (.tmp 12) (.tmp 12)), none⟩,
    ⟨(some 4), (.mv (.tmp 13)), none⟩] []) (
 .seq (
  .seq (
   .region false [⟨(some 5), (.mv (.cst (.d (.int .i64 0)))), none⟩] []) (
  .block 0 (
   .loop (
    .seq (
     .seq (
      .region false [⟨(some 14), (.mv (.tmp 5)), none⟩,
        ⟨(some 15), (.mv (.tmp 3)), none⟩,
        ⟨(some 16), (.bin .lss (.tmp 14) (.tmp 15)), none⟩] []) (
     .cond (.tmp 16) (
      .skip) (
      (.exit 0)))) (
    .seq (
     .block 1 (
      .seq (
       .region false [⟨(some 6), (.mv (.cst (.d (.list [] true)))), none⟩] []) (
      .seq (
       .seq (
        .region false [⟨(some 7), (.mv (.cst (.d (.int .i64 0)))), none⟩] []) (
       .block 2 (
        .loop (
         .seq (
          .seq (
           .region false [⟨(some 19), (.mv (.tmp 7)), none⟩,
             ⟨(some 20), (.mv (.tmp 3)), none⟩,
             ⟨(some 21), (.bin .lss (.tmp 19) (.tmp 20)), none⟩] []) (
          .cond (.tmp 21) (
           .skip) (
           (.exit 2)))) (
         .seq (
          .block 3 (
           .seq (
            .region false [⟨(some 24), (.mv (.tmp 0)), none⟩,
              ⟨(some 25), (.mv (.tmp 5)), none⟩,
              ⟨(some 26), (.mv (.tmp 7)), none⟩,
              ⟨(some 27), (.call 0 false (.cst (.d (.fn n_ref02_Has))) [(.tmp 24), (.tmp 25), (.tmp 26)]), none⟩] []) (
           .cond (.tmp 27) (
            .seq (
             .region false [⟨(some 28), (.mv (.tmp 4)), none⟩,
               ⟨(some 29), (.mv (.tmp 5)), none⟩,
               ⟨(some 30), (.mv (.tmp 7)), none⟩,
               ⟨(some 31), (.call 0 false (.cst (.d (.fn n_ref02_Put))) [(.tmp 28), (.tmp 29), (.tmp 30)]), none⟩] []) (
            .region false [⟨(some 32), (.mv (.tmp 6)), none⟩,
              ⟨(some 33), (.mv (.tmp 7)), none⟩,
              ⟨(some 34), (.bslice 0 1 1 [(.d (.int .i64 0))] [(0, (.tmp 33))]), none⟩,
              ⟨(some 35), (.append 1 1 8 (.tmp 32) (.tmp 34)), none⟩,
              ⟨(some 6), (.mv (.tmp 35)), none⟩] [])) (
            .skip)))) (
         .region false [⟨(some 22), (.mv (.tmp 7)), none⟩,
           ⟨(some 23), (.bin .add (.tmp 22) (.cst (.d (.int .i64 1)))), none⟩,
           ⟨(some 7), (.mv (.tmp 23)), none⟩] [])))))) (
      .block 4 (
       .loop (
        .seq (
         .seq (
          .region false [⟨(some 36), (.mv (.tmp 6)), none⟩,
            ⟨(some 37), (.len (.tmp 36)), none⟩,
            ⟨(some 38), (.bin .gtr (.tmp 37) (.cst (.d (.int .i64 0)))), none⟩] []) (
         .cond (.tmp 38) (
          .skip) (
          (.exit 4)))) (
        .block 5 (
         .seq (
          .region false [⟨(some 39), (.mv (.tmp 6)), none⟩,
            ⟨(some 40), (.idxAddr 1 (.tmp 39) (.cst (.d (.int .i64 0)))), none⟩,
            ⟨(some 41), (.load false 1 (.tmp 40)), none⟩,
            ⟨(some 8), (.mv (.tmp 41)), none⟩] []) (
         .seq (
          .region false [⟨(some 42), (.mv (.tmp 6)), none⟩,
            ⟨(some 43), (.slice 1 (.tmp 42) (some (.cst (.d (.int .i64 1)))) none none), none⟩,
            ⟨(some 6), (.mv (.tmp 43)), none⟩] []) (
         .seq (
          .region false [⟨(some 9), (.mv (.cst (.d (.int .i64 0)))), none⟩] []) (
         .block 6 (
          .loop (
           .seq (
            .seq (
             .region false [⟨(some 44), (.mv (.tmp 9)), none⟩,
               ⟨(some 45), (.mv (.tmp 3)), none⟩,
               ⟨(some 46), (.bin .lss (.tmp 44) (.tmp 45)), none⟩] []) (
            .cond (.tmp 46) (
             .skip) (
             (.exit 6)))) (
           .seq (
            .block 7 (
             .seq (
              .region false [⟨(some 49), (.mv (.tmp 0)), none⟩,
                ⟨(some 50), (.mv (.tmp 8)), none⟩,
                ⟨(some 51), (.mv (.tmp 9)), none⟩,
                ⟨(some 52), (.call 0 false (.cst (.d (.fn n_ref02_Has))) [(.tmp 49), (.tmp 50), (.tmp 51)]), none⟩,
                ⟨(some 53), (.mv (.tmp 52)), none⟩,
                ⟨(some 54), (.mv (.tmp 4)), (some (53, true))⟩,
                ⟨(some 55), (.mv (.tmp 5)), (some (53, true))⟩,
                ⟨(some 56), (.mv (.tmp 9)), (some (53, true))⟩,
                ⟨(some 57), (.call 0 false (.cst (.d (.fn n_ref02_Has))) [(.tmp 54), (.tmp 55), (.tmp 56)]), (some (53, true))⟩,
                ⟨(some 58), (.un .not (.tmp 57)), (some (53, true))⟩,
                ⟨(some 59), (.pick (.tmp 53) (.tmp 58) (.cst (.d (.bool false)))), none⟩] []) (
             .cond (.tmp 59) (
              .seq (
               .region false [⟨(some 60), (.mv (.tmp 4)), none⟩,
                 ⟨(some 61), (.mv (.tmp 5)), none⟩,
                 ⟨(some 62), (.mv (.tmp 9)), none⟩,
                 ⟨(some 63), (.call 0 false (.cst (.d (.fn n_ref02_Put))) [(.tmp 60), (.tmp 61), (.tmp 62)]), none⟩] []) (
              .region false [⟨(some 64), (.mv (.tmp 6)), none⟩,
                ⟨(some 65), (.mv (.tmp 9)), none⟩,
                ⟨(some 66), (.bslice 0 1 1 [(.d (.int .i64 0))] [(0, (.tmp 65))]), none⟩,
                ⟨(some 67), (.append 1 1 8 (.tmp 64) (.tmp 66)), none⟩,
                ⟨(some 6), (.mv (.tmp 67)), none⟩] [])) (
              .skip)))) (
           .region false [⟨(some 47), (.mv (.tmp 9)), none⟩,
             ⟨(some 48), (.bin .add (.tmp 47) (.cst (.d (.int .i64 1)))), none⟩,
             ⟨(some 9), (.mv (.tmp 48)), none⟩] []))))))))))))))) (
    .region false [⟨(some 17), (.mv (.tmp 5)), none⟩,
      ⟨(some 18), (.bin .add (.tmp 17) (.cst (.d (.int .i64 1)))), none⟩,
      ⟨(some 5), (.mv (.tmp 18)), none⟩] [])))))) (
 .seq (
  .region false [⟨(some 68), (.mv (.tmp 4)), none⟩, ⟨(some 2), (.mv (.tmp 68)), none⟩] []) (
 .ret)))))
def R_ref02_Plus : List LRes := [(.tmp 2)]
def V_ref02_Plus : List Nat := [0, 3, 5, 16, 7, 21, 27, 4, 6, 38, 9, 46, 8, 59, 2]

def L_ref02_Star (n_ref02_Plus : Nat) (n_ref02_Put : Nat) : LCode :=
 .seq (
  .region false [⟨(some 2), (.mv (.cst (.d (.list [] true)))), none⟩] []) (
 .seq (
  .region false [⟨(some 5), (.mv (.tmp 0)), none⟩,
    ⟨(some 6), (.call 0 true (.cst (.d (.fn n_ref02_Plus))) [(.tmp 5)]), none⟩,
    ⟨(some 3), (.mv (.tmp 6)), none⟩] []) (
 .seq (
  .seq (
   .region false [⟨(some 4), (.mv (.cst (.d (.int .i64 0)))), none⟩] []) (
  .block 0 (
   .loop (
    .seq (
     .seq (
      .region false [⟨(some 7), (.mv (.tmp 4)), none⟩,
        ⟨(some 8), (.mv (.tmp 3)), none⟩,
        ⟨(some 9), (.len (.tmp 8)), none⟩,
        ⟨(some 10), (.bin .lss (.tmp 7) (.tmp 9)), none⟩] []) (
     .cond (.tmp 10) (
      .skip) (
      (.exit 0)))) (
    .seq (
     .block 1 (
      .region false [⟨(some 13), (.mv (.tmp 3)), none⟩,
        ⟨(some 14), (.mv (.tmp 4)), none⟩,
        ⟨(some 15), (.mv (.tmp 4)), none⟩,
        ⟨(some 16), (.call 0 false (.cst (.d (.fn n_ref02_Put))) [(.tmp 13), (.tmp 14), (.tmp 15)]), none⟩] [])) (
    .region false [⟨(some 11), (.mv (.tmp 4)), none⟩,
      ⟨(some 12), (.bin .add (.tmp 11) (.cst (.d (.int .i64 1)))), none⟩,
      ⟨(some 4), (.mv (.tmp 12)), none⟩] [])))))) (
 .seq (
  .region false [⟨(some 17), (.mv (.tmp 3)), none⟩, ⟨(some 2), (.mv (.tmp 17)), none⟩] []) (
 .ret))))
def R_ref02_Star : List LRes := [(.tmp 2)]
def V_ref02_Star : List Nat := [0, 4, 3, 10, 2]

def L_ref02_Ring (n_ref02_Has : Nat) (n_ref02_Plus : Nat) : LCode :=
 .seq (
  .region false [⟨(some 2), (.mv (.cst (.d (.bool false)))), none⟩] []) (
 .seq (
  .region false [⟨(some 5), (.mv (.tmp 0)), none⟩,
    ⟨(some 6), (.call 0 true (.cst (.d (.fn n_ref02_Plus))) [(.tmp 5)]), none⟩,
    ⟨(some 3), (.mv (.tmp 6)), none⟩] []) (
 .seq (
  .seq (
   .region false [⟨(some 4), (.mv (.cst (.d (.int .i64 0)))), none⟩] []) (
  .block 0 (
   .loop (
    .seq (
     .seq (
      .region false [⟨(some 7), (.mv (.tmp 4)), none⟩,
        ⟨(some 8), (.mv (.tmp 3)), none⟩,
        ⟨(some 9), (.len (.tmp 8)), none⟩,
        ⟨(some 10), (.bin .lss (.tmp 7) (.tmp 9)), none⟩] []) (
     .cond (.tmp 10) (
      .skip) (
      (.exit 0)))) (
    .seq (
     .block 1 (
      .seq (
       .region false [⟨(some 13), (.mv (.tmp 3)), none⟩,
         ⟨(some 14), (.mv (.tmp 4)), none⟩,
         ⟨(some 15), (.mv (.tmp 4)), none⟩,
         ⟨(some 16), (.call 0 false (.cst (.d (.fn n_ref02_Has))) [(.tmp 13), (.tmp 14), (.tmp 15)]), none⟩] []) (
      .cond (.tmp 16) (
       .seq (
        .region false [⟨(some 2), (.mv (.cst (.d (.bool true)))), none⟩] []) (
       .ret)) (
       .skip)))) (
    .region false [⟨(some 11), (.mv (.tmp 4)), none⟩,
      ⟨(some 12), (.bin .add (.tmp 11) (.cst (.d (.int .i64 1)))), none⟩,
      ⟨(some 4), (.mv (.tmp 12)), none⟩] [])))))) (
 .seq (
  .region false [⟨(some 2), (.mv (.cst (.d (.bool false)))), none⟩] []) (
 .ret))))
def R_ref02_Ring : List LRes := [(.tmp 2)]
def V_ref02_Ring : List Nat := [0, 4, 3, 10, 16, 2]

def L_ref02_Put (n_ref02_Has : Nat) : LCode :=
 .seq (
  .region false [⟨(some 6), (.mv (.tmp 0)), none⟩,
    ⟨(some 7), (.mv (.tmp 1)), none⟩,
    ⟨(some 8), (.mv (.tmp 2)), none⟩,
    ⟨(some 9), (.call 0 false (.cst (.d (.fn n_ref02_Has))) [(.tmp 6), (.tmp 7), (.tmp 8)]), none⟩,
    ⟨(some 10), (.un .not (.tmp 9)), none⟩] []) (
 .cond (.tmp 10) (
  .region false [⟨(some 11), (.mv (.tmp 0)), none⟩,
    ⟨(some 12), (.mv (.tmp 1)), none⟩,
    ⟨(some 13), (.idxAddr 1 (.tmp 11) (.tmp 12)), none⟩,
    ⟨(some 14), (.load false 1 (.tmp 13)), none⟩,
    ⟨(some 15), (.mv (.tmp 2)), none⟩,
    ⟨(some 16), (.conv .u64 (.tmp 15)), none⟩,
    ⟨(some 17), (.bin .shl (.cst (.d (.int .u64 1))) (.tmp 16)), none⟩,
    ⟨(some 18), (.bin .add (.tmp 14) (.tmp 17)), none⟩,
    ⟨(some 19), (.idxAddr 1 (.tmp 11) (.tmp 12)), none⟩,
    ⟨none, (.store 1 (.tmp 19) (.tmp 18)), none⟩] []) (
  .skip))
def R_ref02_Put : List LRes := []
def V_ref02_Put : List Nat := [0, 1, 2, 10]

def L_ref02_most (n_ref02_Size : Nat) : LCode :=
 .seq (
  .region false [⟨(some 4), (.mv (.cst (.d (.int .i64 0)))), none⟩] []) (
 .seq (
  .seq (
   .region false [⟨(some 5), (.mv (.tmp 0)), none⟩,
     ⟨(some 6), (.call 0 false (.cst (.d (.fn n_ref02_Size))) [(.tmp 5)]), none⟩,
     ⟨(some 7), (.mv (.tmp 1)), none⟩,
     ⟨(some 8), (.call 0 false (.cst (.d (.fn n_ref02_Size))) [(.tmp 7)]), none⟩,
     ⟨(some 9), (.bin .gtr (.tmp 6) (.tmp 8)), none⟩] []) (
  .cond (.tmp 9) (
   .seq (
    .region false [⟨(some 10), (.mv (.tmp 0)), none⟩,
      ⟨(some 11), (.call 0 false (.cst (.d (.fn n_ref02_Size))) [(.tmp 10)]), none⟩,
      ⟨(some 4), (.mv (.tmp 11)), none⟩] []) (
   .ret)) (
   .skip))) (
 .seq (
  .region false [⟨(some 12), (.mv (.tmp 1)), none⟩,
    ⟨(some 13), (.call 0 false (.cst (.d (.fn n_ref02_Size))) [(.tmp 12)]), none⟩,
    ⟨(some 4), (.mv (.tmp 13)), none⟩] []) (
 .ret)))
def R_ref02_most : List LRes := [(.tmp 4)]
def V_ref02_most : List Nat := [0, 1, 9, 4]

def L_ref02_Size : LCode :=
 .seq (
  .region false [⟨(some 2), (.mv (.cst (.d (.int .i64 0)))), none⟩] []) (
 .seq (
  .seq (
   .region false [⟨(some 3), (.mv (.tmp 0)), none⟩,
     ⟨(some 4), (.len (.tmp 3)), none⟩,
     ⟨(some 5), (.bin .gtr (.tmp 4) (.cst (.d (.int .i64 64)))), none⟩] []) (
  .cond (.tmp 5) (
   .seq (
    .region false [⟨(some 2), (.mv (.cst (.d (.int .i64 64)))), none⟩] []) (
   .ret)) (
   .skip))) (
 .seq (
  .region false [⟨(some 6), (.mv (.tmp 0)), none⟩,
    ⟨(some 7), (.len (.tmp 6)), none⟩,
    ⟨(some 2), (.mv (.tmp 7)), none⟩] []) (
 .ret)))
def R_ref02_Size : List LRes := [(.tmp 2)]
def V_ref02_Size : List Nat := [0, 5, 2]

end Go.Ago

/- Lowered functions of a package, callees by their numbers. Printed by a program of this session. Conditions: none. -/
set_option maxRecDepth 100000
set_option linter.unusedVariables false
namespace Go.Ago
def L_ref19_Fitted (n_ref19_Fit : Nat) : LCode :=
 .seq (
  .region false [⟨(some 1), (.box 0 (.tmp 0)), none⟩, ⟨(some 2), (.alloc 1 12 [(.d (.list [] true)), (.d (.list [] true)), (.d (.list [] true)), (.d (.list [] true)), (.d (.list [] true)), (.d (.list [] true)), (.d (.list [] true)), (.d (.list [] true)), (.d (.list [] true)), (.d (.list [] true)), (.d (.list [] true)), (.d (.list [] true))]), none⟩] []) (
 .seq (
  .seq (
   .region false [⟨(some 4), (.fieldAddr 0 (.tmp 1)), none⟩,
     ⟨(some 5), (.load false 1 (.tmp 4)), none⟩,
     ⟨(some 6), (.len (.tmp 5)), none⟩,
     ⟨(some 7), (.bin .gtr (.tmp 6) (.cst (.d (.int .i64 64)))), none⟩] []) (
  .cond (.tmp 7) (
   .region false [⟨(some 8), (.fieldAddr 0 (.tmp 1)), none⟩,
     ⟨(some 9), (.load false 1 (.tmp 8)), none⟩,
     ⟨(some 10), (.slice 4 (.tmp 9) none (some (.cst (.d (.int .i64 64)))) none), none⟩,
     ⟨(some 11), (.fieldAddr 0 (.tmp 1)), none⟩,
     ⟨none, (.store 1 (.tmp 11) (.tmp 10)), none⟩] []) (
   .skip))) (
 .seq (
  .region false [⟨(some 12), (.fieldAddr 0 (.tmp 1)), none⟩,
    ⟨(some 13), (.load false 1 (.tmp 12)), none⟩,
    ⟨(some 14), (.len (.tmp 13)), none⟩,
    ⟨(some 3), (.mv (.tmp 14)), none⟩] []) (
 .seq (
  .region true [⟨(some 15), (.fieldAddr 0 (.tmp 1)), none⟩,
    ⟨(some 16), (.load false 1 (.tmp 15)), none⟩,
    ⟨(some 17), (.fieldAddr 1 (.tmp 1)), none⟩,
    ⟨(some 18), (.load false 1 (.tmp 17)), none⟩,
    ⟨(some 19), (.mv (.tmp 3)), none⟩,
    ⟨(some 20), (.call 0 true (.cst (.d (.fn n_ref19_Fit))) [(.tmp 18), (.tmp 19)]), none⟩,
    ⟨(some 21), (.fieldAddr 2 (.tmp 1)), none⟩,
    ⟨(some 22), (.load false 1 (.tmp 21)), none⟩,
    ⟨(some 23), (.mv (.tmp 3)), none⟩,
    ⟨(some 24), (.call 1 true (.cst (.d (.fn n_ref19_Fit))) [(.tmp 22), (.tmp 23)]), none⟩,
    ⟨(some 25), (.fieldAddr 3 (.tmp 1)), none⟩,
    ⟨(some 26), (.load false 1 (.tmp 25)), none⟩,
    ⟨(some 27), (.mv (.tmp 3)), none⟩,
    ⟨(some 28), (.call 2 true (.cst (.d (.fn n_ref19_Fit))) [(.tmp 26), (.tmp 27)]), none⟩,
    ⟨(some 29), (.fieldAddr 4 (.tmp 1)), none⟩,
    ⟨(some 30), (.load false 1 (.tmp 29)), none⟩,
    ⟨(some 31), (.mv (.tmp 3)), none⟩,
    ⟨(some 32), (.call 3 true (.cst (.d (.fn n_ref19_Fit))) [(.tmp 30), (.tmp 31)]), none⟩,
    ⟨(some 33), (.fieldAddr 5 (.tmp 1)), none⟩,
    ⟨(some 34), (.load false 1 (.tmp 33)), none⟩,
    ⟨(some 35), (.mv (.tmp 3)), none⟩,
    ⟨(some 36), (.call 4 true (.cst (.d (.fn n_ref19_Fit))) [(.tmp 34), (.tmp 35)]), none⟩,
    ⟨(some 37), (.fieldAddr 6 (.tmp 1)), none⟩,
    ⟨(some 38), (.load false 1 (.tmp 37)), none⟩,
    ⟨(some 39), (.mv (.tmp 3)), none⟩,
    ⟨(some 40), (.call 5 true (.cst (.d (.fn n_ref19_Fit))) [(.tmp 38), (.tmp 39)]), none⟩,
    ⟨(some 41), (.fieldAddr 7 (.tmp 1)), none⟩,
    ⟨(some 42), (.load false 1 (.tmp 41)), none⟩,
    ⟨(some 43), (.mv (.tmp 3)), none⟩,
    ⟨(some 44), (.call 6 true (.cst (.d (.fn n_ref19_Fit))) [(.tmp 42), (.tmp 43)]), none⟩,
    ⟨(some 45), (.fieldAddr 8 (.tmp 1)), none⟩,
    ⟨(some 46), (.load false 1 (.tmp 45)), none⟩,
    ⟨(some 47), (.mv (.tmp 3)), none⟩,
    ⟨(some 48), (.call 7 true (.cst (.d (.fn n_ref19_Fit))) [(.tmp 46), (.tmp 47)]), none⟩,
    ⟨(some 49), (.fieldAddr 9 (.tmp 1)), none⟩,
    ⟨(some 50), (.load false 1 (.tmp 49)), none⟩,
    ⟨(some 51), (.mv (.tmp 3)), none⟩,
    ⟨(some 52), (.call 8 true (.cst (.d (.fn n_ref19_Fit))) [(.tmp 50), (.tmp 51)]), none⟩,
    ⟨(some 53), (.fieldAddr 10 (.tmp 1)), none⟩,
    ⟨(some 54), (.load false 1 (.tmp 53)), none⟩,
    ⟨(some 55), (.mv (.tmp 3)), none⟩,
    ⟨(some 56), (.call 9 true (.cst (.d (.fn n_ref19_Fit))) [(.tmp 54), (.tmp 55)]), none⟩,
    ⟨(some 57), (.fieldAddr 11 (.tmp 1)), none⟩,
    ⟨(some 58), (.load false 1 (.tmp 57)), none⟩,
    ⟨(some 59), (.mv (.tmp 3)), none⟩,
    ⟨(some 60), (.call 10 true (.cst (.d (.fn n_ref19_Fit))) [(.tmp 58), (.tmp 59)]), none⟩,
    ⟨(some 61), (.build [(.d (.list [] true)), (.d (.list [] true)), (.d (.list [] true)), (.d (.list [] true)), (.d (.list [] true)), (.d (.list [] true)), (.d (.list [] true)), (.d (.list [] true)), (.d (.list [] true)), (.d (.list [] true)), (.d (.list [] true)), (.d (.list [] true))] [(0, (1, (.tmp 16))), (1, (1, (.tmp 20))), (2, (1, (.tmp 24))), (3, (1, (.tmp 28))), (4, (1, (.tmp 32))), (5, (1, (.tmp 36))), (6, (1, (.tmp 40))), (7, (1, (.tmp 44))), (8, (1, (.tmp 48))), (9, (1, (.tmp 52))), (10, (1, (.tmp 56))), (11, (1, (.tmp 60)))]), none⟩,
    ⟨none, (.store 12 (.tmp 2) (.tmp 61)), none⟩] [(1, 5), (5, 7), (1, 9), (9, 11), (5, 11), (1, 13), (13, 15), (9, 15), (5, 15), (1, 17), (17, 19), (13, 19), (9, 19), (5, 19), (1, 21), (21, 23), (17, 23), (13, 23), (9, 23), (5, 23), (1, 25), (25, 27), (21, 27), (17, 27), (13, 27), (9, 27), (5, 27), (1, 29), (29, 31), (25, 31), (21, 31), (17, 31), (13, 31), (9, 31), (5, 31), (1, 33), (33, 35), (29, 35), (25, 35), (21, 35), (17, 35), (13, 35), (9, 35), (5, 35), (1, 37), (37, 39), (33, 39), (29, 39), (25, 39), (21, 39), (17, 39), (13, 39), (9, 39), (5, 39), (1, 41), (41, 43), (37, 43), (33, 43), (29, 43), (25, 43), (21, 43), (17, 43), (13, 43), (9, 43), (5, 43), (1, 45)]) (
 .ret))))
def R_ref19_Fitted : List LRes := [(.cell 2 true 12)]
def V_ref19_Fitted : List Nat := [0, 1, 7, 3, 2]

def L_ref19_Ppo (n_ref02_Same : Nat) (n_ref19_part : Nat) (n_ref19_or : Nat) (n_ref19_and : Nat) (n_ref19_then : Nat) : LCode :=
 .seq (
  .region false [⟨(some 1), (.box 0 (.tmp 0)), none⟩, ⟨(some 2), (.mv (.cst (.d (.list [] true)))), none⟩] []) (
 .seq (
  .region false [⟨(some 12), (.fieldAddr 0 (.tmp 1)), none⟩,
    ⟨(some 13), (.load false 1 (.tmp 12)), none⟩,
    ⟨(some 3), (.mv (.tmp 13)), none⟩] []) (
 .seq (
  .region true [⟨(some 14), (.mv (.tmp 3)), none⟩,
    ⟨(some 15), (.fieldAddr 2 (.tmp 1)), none⟩,
    ⟨(some 16), (.load false 1 (.tmp 15)), none⟩,
    ⟨(some 17), (.call 0 true (.cst (.d (.fn n_ref19_part))) [(.tmp 14), (.tmp 16), (.cst (.d (.int .i64 1)))]), none⟩,
    ⟨(some 18), (.mv (.tmp 3)), none⟩,
    ⟨(some 19), (.fieldAddr 1 (.tmp 1)), none⟩,
    ⟨(some 20), (.load false 1 (.tmp 19)), none⟩,
    ⟨(some 21), (.call 1 true (.cst (.d (.fn n_ref19_part))) [(.tmp 18), (.tmp 20), (.cst (.d (.int .i64 3)))]), none⟩,
    ⟨(some 4), (.mv (.tmp 17)), none⟩,
    ⟨(some 5), (.mv (.tmp 21)), none⟩] [(3, 6)]) (
 .seq (
  .region false [⟨(some 22), (.fieldAddr 5 (.tmp 1)), none⟩,
    ⟨(some 23), (.load false 1 (.tmp 22)), none⟩,
    ⟨(some 24), (.fieldAddr 6 (.tmp 1)), none⟩,
    ⟨(some 25), (.load false 1 (.tmp 24)), none⟩,
    ⟨(some 26), (.bslice 0 1 2 [(.d (.list [] true))] [(0, (.tmp 23)), (1, (.tmp 25))]), none⟩,
    ⟨(some 27), (.call 1 true (.cst (.d (.fn n_ref19_or))) [(.tmp 26)]), none⟩,
    ⟨(some 6), (.mv (.tmp 27)), none⟩] []) (
 .seq (
  .region true [⟨(some 28), (.mv (.tmp 6)), none⟩,
    ⟨(some 29), (.mv (.tmp 3)), none⟩,
    ⟨(some 30), (.fieldAddr 2 (.tmp 1)), none⟩,
    ⟨(some 31), (.load false 1 (.tmp 30)), none⟩,
    ⟨(some 32), (.call 0 true (.cst (.d (.fn n_ref19_part))) [(.tmp 29), (.tmp 31), (.cst (.d (.int .i64 2)))]), none⟩,
    ⟨(some 33), (.mv (.tmp 5)), none⟩,
    ⟨(some 34), (.mv (.tmp 3)), none⟩,
    ⟨(some 35), (.fieldAddr 4 (.tmp 1)), none⟩,
    ⟨(some 36), (.load false 1 (.tmp 35)), none⟩,
    ⟨(some 37), (.call 1 true (.cst (.d (.fn n_ref19_part))) [(.tmp 34), (.tmp 36), (.cst (.d (.int .i64 1)))]), none⟩,
    ⟨(some 38), (.mv (.tmp 4)), none⟩,
    ⟨(some 39), (.bslice 2 1 2 [(.d (.list [] true))] [(0, (.tmp 37)), (1, (.tmp 38))]), none⟩,
    ⟨(some 40), (.call 3 true (.cst (.d (.fn n_ref19_then))) [(.tmp 39)]), none⟩,
    ⟨(some 41), (.call 4 true (.cst (.d (.fn n_ref19_and))) [(.tmp 33), (.tmp 40)]), none⟩,
    ⟨(some 42), (.bslice 5 1 3 [(.d (.list [] true))] [(0, (.tmp 28)), (1, (.tmp 32)), (2, (.tmp 41))]), none⟩,
    ⟨(some 43), (.call 6 true (.cst (.d (.fn n_ref19_or))) [(.tmp 42)]), none⟩,
    ⟨(some 7), (.mv (.tmp 43)), none⟩] [(4, 8)]) (
 .seq (
  .region true [⟨(some 44), (.fieldAddr 8 (.tmp 1)), none⟩,
    ⟨(some 45), (.load false 1 (.tmp 44)), none⟩,
    ⟨(some 46), (.mv (.tmp 5)), none⟩,
    ⟨(some 47), (.mv (.tmp 3)), none⟩,
    ⟨(some 48), (.fieldAddr 3 (.tmp 1)), none⟩,
    ⟨(some 49), (.load false 1 (.tmp 48)), none⟩,
    ⟨(some 50), (.call 0 true (.cst (.d (.fn n_ref19_part))) [(.tmp 47), (.tmp 49), (.cst (.d (.int .i64 1)))]), none⟩,
    ⟨(some 51), (.mv (.tmp 4)), none⟩,
    ⟨(some 52), (.bslice 1 1 2 [(.d (.list [] true))] [(0, (.tmp 50)), (1, (.tmp 51))]), none⟩,
    ⟨(some 53), (.call 2 true (.cst (.d (.fn n_ref19_then))) [(.tmp 52)]), none⟩,
    ⟨(some 54), (.call 3 true (.cst (.d (.fn n_ref19_and))) [(.tmp 46), (.tmp 53)]), none⟩,
    ⟨(some 55), (.bslice 4 1 2 [(.d (.list [] true))] [(0, (.tmp 45)), (1, (.tmp 54))]), none⟩,
    ⟨(some 56), (.call 5 true (.cst (.d (.fn n_ref19_or))) [(.tmp 55)]), none⟩,
    ⟨(some 8), (.mv (.tmp 56)), none⟩] [(1, 6), (1, 8), (1, 9), (1, 10)]) (
 .seq (
  .region true [⟨(some 57), (.mv (.tmp 6)), none⟩,
    ⟨(some 58), (.mv (.tmp 5)), none⟩,
    ⟨(some 59), (.fieldAddr 7 (.tmp 1)), none⟩,
    ⟨(some 60), (.load false 1 (.tmp 59)), none⟩,
    ⟨(some 61), (.fieldAddr 5 (.tmp 1)), none⟩,
    ⟨(some 62), (.load false 1 (.tmp 61)), none⟩,
    ⟨(some 63), (.fieldAddr 1 (.tmp 1)), none⟩,
    ⟨(some 64), (.load false 1 (.tmp 63)), none⟩,
    ⟨(some 65), (.bslice 0 1 2 [(.d (.list [] true))] [(0, (.tmp 62)), (1, (.tmp 64))]), none⟩,
    ⟨(some 66), (.call 1 true (.cst (.d (.fn n_ref19_then))) [(.tmp 65)]), none⟩,
    ⟨(some 67), (.bslice 2 1 4 [(.d (.list [] true))] [(0, (.tmp 57)), (1, (.tmp 58)), (2, (.tmp 60)), (3, (.tmp 66))]), none⟩,
    ⟨(some 68), (.call 3 true (.cst (.d (.fn n_ref19_or))) [(.tmp 67)]), none⟩,
    ⟨(some 9), (.mv (.tmp 68)), none⟩] [(3, 8), (3, 9)]) (
 .seq (
  .region false [⟨(some 69), (.mv (.tmp 3)), none⟩,
    ⟨(some 70), (.len (.tmp 69)), none⟩,
    ⟨(some 71), (.mkslice 0 1 8 [(.d (.int .u64 0))] (.tmp 70) (.tmp 70)), none⟩,
    ⟨(some 10), (.mv (.tmp 71)), none⟩] []) (
 .block 0 (
  .loop (
   .block 1 (
    .seq (
     .region false [⟨(some 72), (.mv (.tmp 7)), none⟩,
       ⟨(some 73), (.mv (.tmp 8)), none⟩,
       ⟨(some 74), (.mv (.tmp 10)), none⟩,
       ⟨(some 75), (.mv (.tmp 9)), none⟩,
       ⟨(some 76), (.build [(.d (.list [] true)), (.d (.list [] true)), (.d (.list [] true)), (.d (.list [] true))] [(0, (1, (.tmp 72))), (1, (1, (.tmp 73))), (2, (1, (.tmp 74))), (3, (1, (.tmp 75)))]), none⟩,
       ⟨(some 11), (.alloc 0 4 [(.d (.list [] true)), (.d (.list [] true)), (.d (.list [] true)), (.d (.list [] true))]), none⟩,
       ⟨none, (.store 4 (.tmp 11) (.tmp 76)), none⟩] []) (
    .seq (
     .region false [⟨(some 77), (.mv (.tmp 7)), none⟩,
       ⟨(some 78), (.mv (.tmp 8)), none⟩,
       ⟨(some 79), (.mv (.tmp 10)), none⟩,
       ⟨(some 80), (.mv (.tmp 8)), none⟩,
       ⟨(some 81), (.bslice 0 1 2 [(.d (.list [] true))] [(0, (.tmp 79)), (1, (.tmp 80))]), none⟩,
       ⟨(some 82), (.call 1 true (.cst (.d (.fn n_ref19_then))) [(.tmp 81)]), none⟩,
       ⟨(some 83), (.mv (.tmp 7)), none⟩,
       ⟨(some 84), (.mv (.tmp 7)), none⟩,
       ⟨(some 85), (.bslice 2 1 2 [(.d (.list [] true))] [(0, (.tmp 83)), (1, (.tmp 84))]), none⟩,
       ⟨(some 86), (.call 3 true (.cst (.d (.fn n_ref19_then))) [(.tmp 85)]), none⟩,
       ⟨(some 87), (.bslice 4 1 4 [(.d (.list [] true))] [(0, (.tmp 77)), (1, (.tmp 78)), (2, (.tmp 82)), (3, (.tmp 86))]), none⟩,
       ⟨(some 88), (.call 5 true (.cst (.d (.fn n_ref19_or))) [(.tmp 87)]), none⟩,
       ⟨(some 7), (.mv (.tmp 88)), none⟩] []) (
    .seq (
     .region false [⟨(some 89), (.mv (.tmp 8)), none⟩,
       ⟨(some 90), (.mv (.tmp 8)), none⟩,
       ⟨(some 91), (.mv (.tmp 7)), none⟩,
       ⟨(some 92), (.bslice 0 1 2 [(.d (.list [] true))] [(0, (.tmp 90)), (1, (.tmp 91))]), none⟩,
       ⟨(some 93), (.call 1 true (.cst (.d (.fn n_ref19_then))) [(.tmp 92)]), none⟩,
       ⟨(some 94), (.mv (.tmp 9)), none⟩,
       ⟨(some 95), (.mv (.tmp 8)), none⟩,
       ⟨(some 96), (.bslice 2 1 2 [(.d (.list [] true))] [(0, (.tmp 94)), (1, (.tmp 95))]), none⟩,
       ⟨(some 97), (.call 3 true (.cst (.d (.fn n_ref19_then))) [(.tmp 96)]), none⟩,
       ⟨(some 98), (.bslice 4 1 3 [(.d (.list [] true))] [(0, (.tmp 89)), (1, (.tmp 93)), (2, (.tmp 97))]), none⟩,
       ⟨(some 99), (.call 5 true (.cst (.d (.fn n_ref19_or))) [(.tmp 98)]), none⟩,
       ⟨(some 8), (.mv (.tmp 99)), none⟩] []) (
    .seq (
     .region false [⟨(some 100), (.mv (.tmp 10)), none⟩,
       ⟨(some 101), (.mv (.tmp 7)), none⟩,
       ⟨(some 102), (.mv (.tmp 9)), none⟩,
       ⟨(some 103), (.mv (.tmp 10)), none⟩,
       ⟨(some 104), (.mv (.tmp 9)), none⟩,
       ⟨(some 105), (.bslice 0 1 2 [(.d (.list [] true))] [(0, (.tmp 103)), (1, (.tmp 104))]), none⟩,
       ⟨(some 106), (.call 1 true (.cst (.d (.fn n_ref19_then))) [(.tmp 105)]), none⟩,
       ⟨(some 107), (.mv (.tmp 7)), none⟩,
       ⟨(some 108), (.mv (.tmp 10)), none⟩,
       ⟨(some 109), (.bslice 2 1 2 [(.d (.list [] true))] [(0, (.tmp 107)), (1, (.tmp 108))]), none⟩,
       ⟨(some 110), (.call 3 true (.cst (.d (.fn n_ref19_then))) [(.tmp 109)]), none⟩,
       ⟨(some 111), (.bslice 4 1 5 [(.d (.list [] true))] [(0, (.tmp 100)), (1, (.tmp 101)), (2, (.tmp 102)), (3, (.tmp 106)), (4, (.tmp 110))]), none⟩,
       ⟨(some 112), (.call 5 true (.cst (.d (.fn n_ref19_or))) [(.tmp 111)]), none⟩,
       ⟨(some 10), (.mv (.tmp 112)), none⟩] []) (
    .seq (
     .region false [⟨(some 113), (.mv (.tmp 9)), none⟩,
       ⟨(some 114), (.mv (.tmp 8)), none⟩,
       ⟨(some 115), (.mv (.tmp 8)), none⟩,
       ⟨(some 116), (.mv (.tmp 10)), none⟩,
       ⟨(some 117), (.bslice 0 1 2 [(.d (.list [] true))] [(0, (.tmp 115)), (1, (.tmp 116))]), none⟩,
       ⟨(some 118), (.call 1 true (.cst (.d (.fn n_ref19_then))) [(.tmp 117)]), none⟩,
       ⟨(some 119), (.mv (.tmp 9)), none⟩,
       ⟨(some 120), (.mv (.tmp 9)), none⟩,
       ⟨(some 121), (.bslice 2 1 2 [(.d (.list [] true))] [(0, (.tmp 119)), (1, (.tmp 120))]), none⟩,
       ⟨(some 122), (.call 3 true (.cst (.d (.fn n_ref19_then))) [(.tmp 121)]), none⟩,
       ⟨(some 123), (.bslice 4 1 4 [(.d (.list [] true))] [(0, (.tmp 113)), (1, (.tmp 114)), (2, (.tmp 118)), (3, (.tmp 122))]), none⟩,
       ⟨(some 124), (.call 5 true (.cst (.d (.fn n_ref19_or))) [(.tmp 123)]), none⟩,
       ⟨(some 9), (.mv (.tmp 124)), none⟩] []) (
    .seq (
     .region false [⟨(some 125), (.idxArrAddr 4 1 (.tmp 11) (.cst (.d (.int .i64 0)))), none⟩,
       ⟨(some 126), (.load false 1 (.tmp 125)), none⟩,
       ⟨(some 127), (.mv (.tmp 7)), none⟩,
       ⟨(some 128), (.call 0 false (.cst (.d (.fn n_ref02_Same))) [(.tmp 126), (.tmp 127)]), none⟩,
       ⟨(some 129), (.mv (.tmp 128)), none⟩,
       ⟨(some 130), (.idxArrAddr 4 1 (.tmp 11) (.cst (.d (.int .i64 1)))), (some (129, true))⟩,
       ⟨(some 131), (.load false 1 (.tmp 130)), (some (129, true))⟩,
       ⟨(some 132), (.mv (.tmp 8)), (some (129, true))⟩,
       ⟨(some 133), (.call 0 false (.cst (.d (.fn n_ref02_Same))) [(.tmp 131), (.tmp 132)]), (some (129, true))⟩,
       ⟨(some 134), (.pick (.tmp 129) (.tmp 133) (.cst (.d (.bool false)))), none⟩,
       ⟨(some 135), (.mv (.tmp 134)), none⟩,
       ⟨(some 136), (.idxArrAddr 4 1 (.tmp 11) (.cst (.d (.int .i64 2)))), (some (135, true))⟩,
       ⟨(some 137), (.load false 1 (.tmp 136)), (some (135, true))⟩,
       ⟨(some 138), (.mv (.tmp 10)), (some (135, true))⟩,
       ⟨(some 139), (.call 0 false (.cst (.d (.fn n_ref02_Same))) [(.tmp 137), (.tmp 138)]), (some (135, true))⟩,
       ⟨(some 140), (.pick (.tmp 135) (.tmp 139) (.cst (.d (.bool false)))), none⟩,
       ⟨(some 141), (.mv (.tmp 140)), none⟩,
       ⟨(some 142), (.idxArrAddr 4 1 (.tmp 11) (.cst (.d (.int .i64 3)))), (some (141, true))⟩,
       ⟨(some 143), (.load false 1 (.tmp 142)), (some (141, true))⟩,
       ⟨(some 144), (.mv (.tmp 9)), (some (141, true))⟩,
       ⟨(some 145), (.call 0 false (.cst (.d (.fn n_ref02_Same))) [(.tmp 143), (.tmp 144)]), (some (141, true))⟩,
       ⟨(some 146), (.pick (.tmp 141) (.tmp 145) (.cst (.d (.bool false)))), none⟩] []) (
    .cond (.tmp 146) (
     .seq (
      .region false [⟨(some 147), (.mv (.tmp 3)), none⟩,
        ⟨(some 148), (.mv (.tmp 7)), none⟩,
        ⟨(some 149), (.call 0 true (.cst (.d (.fn n_ref19_part))) [(.tmp 147), (.tmp 148), (.cst (.d (.int .i64 4)))]), none⟩,
        ⟨(some 150), (.mv (.tmp 3)), none⟩,
        ⟨(some 151), (.mv (.tmp 10)), none⟩,
        ⟨(some 152), (.call 1 true (.cst (.d (.fn n_ref19_part))) [(.tmp 150), (.tmp 151), (.cst (.d (.int .i64 5)))]), none⟩,
        ⟨(some 153), (.bslice 2 1 2 [(.d (.list [] true))] [(0, (.tmp 149)), (1, (.tmp 152))]), none⟩,
        ⟨(some 154), (.call 3 true (.cst (.d (.fn n_ref19_or))) [(.tmp 153)]), none⟩,
        ⟨(some 2), (.mv (.tmp 154)), none⟩] []) (
     .ret)) (
     .skip))))))))))))))))))
def R_ref19_Ppo : List LRes := [(.tmp 2)]
def V_ref19_Ppo : List Nat := [0, 1, 3, 6, 5, 4, 7, 8, 10, 9, 11, 146, 2]

def L_ref19_Prop (n_ref19_part : Nat) (n_ref19_or : Nat) (n_ref19_then : Nat) (n_ref19_hb : Nat) (n_ref02_Star : Nat) : LCode :=
 .seq (
  .region false [⟨(some 1), (.box 0 (.tmp 0)), none⟩, ⟨(some 2), (.mv (.cst (.d (.list [] true)))), none⟩] []) (
 .seq (
  .region false [⟨(some 8), (.load true 12 (.tmp 1)), none⟩,
    ⟨(some 9), (.call 0 false (.cst (.d (.fn n_ref19_hb))) [(.tmp 8)]), none⟩,
    ⟨(some 7), (.mv (.tmp 9)), none⟩,
    ⟨(some 10), (.extract 0 (.tmp 7)), none⟩,
    ⟨(some 11), (.extract 1 (.tmp 7)), none⟩,
    ⟨(some 3), (.mv (.tmp 10)), none⟩,
    ⟨(some 4), (.mv (.tmp 11)), none⟩] []) (
 .seq (
  .region false [⟨(some 12), (.mv (.tmp 3)), none⟩,
    ⟨(some 13), (.call 0 true (.cst (.d (.fn n_ref02_Star))) [(.tmp 12)]), none⟩,
    ⟨(some 5), (.mv (.tmp 13)), none⟩] []) (
 .seq (
  .region false [⟨(some 14), (.mv (.tmp 4)), none⟩,
    ⟨(some 15), (.fieldAddr 0 (.tmp 1)), none⟩,
    ⟨(some 16), (.load false 1 (.tmp 15)), none⟩,
    ⟨(some 17), (.fieldAddr 2 (.tmp 1)), none⟩,
    ⟨(some 18), (.load false 1 (.tmp 17)), none⟩,
    ⟨(some 19), (.call 0 true (.cst (.d (.fn n_ref19_part))) [(.tmp 16), (.tmp 18), (.cst (.d (.int .i64 1)))]), none⟩,
    ⟨(some 20), (.mv (.tmp 4)), none⟩,
    ⟨(some 21), (.bslice 1 1 2 [(.d (.list [] true))] [(0, (.tmp 19)), (1, (.tmp 20))]), none⟩,
    ⟨(some 22), (.call 2 true (.cst (.d (.fn n_ref19_then))) [(.tmp 21)]), none⟩,
    ⟨(some 23), (.bslice 3 1 2 [(.d (.list [] true))] [(0, (.tmp 14)), (1, (.tmp 22))]), none⟩,
    ⟨(some 24), (.call 4 true (.cst (.d (.fn n_ref19_or))) [(.tmp 23)]), none⟩,
    ⟨(some 25), (.mv (.tmp 5)), none⟩,
    ⟨(some 26), (.bslice 5 1 2 [(.d (.list [] true))] [(0, (.tmp 24)), (1, (.tmp 25))]), none⟩,
    ⟨(some 27), (.call 6 true (.cst (.d (.fn n_ref19_then))) [(.tmp 26)]), none⟩,
    ⟨(some 6), (.mv (.tmp 27)), none⟩] []) (
 .seq (
  .region true [⟨(some 28), (.fieldAddr 0 (.tmp 1)), none⟩,
    ⟨(some 29), (.load false 1 (.tmp 28)), none⟩,
    ⟨(some 30), (.mv (.tmp 6)), none⟩,
    ⟨(some 31), (.call 0 true (.cst (.d (.fn n_ref19_part))) [(.tmp 29), (.tmp 30), (.cst (.d (.int .i64 7)))]), none⟩,
    ⟨(some 32), (.fieldAddr 2 (.tmp 1)), none⟩,
    ⟨(some 33), (.load false 1 (.tmp 32)), none⟩,
    ⟨(some 34), (.fieldAddr 3 (.tmp 1)), none⟩,
    ⟨(some 35), (.load false 1 (.tmp 34)), none⟩,
    ⟨(some 36), (.fieldAddr 4 (.tmp 1)), none⟩,
    ⟨(some 37), (.load false 1 (.tmp 36)), none⟩,
    ⟨(some 38), (.bslice 1 1 3 [(.d (.list [] true))] [(0, (.tmp 33)), (1, (.tmp 35)), (2, (.tmp 37))]), none⟩,
    ⟨(some 39), (.call 2 true (.cst (.d (.fn n_ref19_or))) [(.tmp 38)]), none⟩,
    ⟨(some 40), (.call 3 true (.cst (.d (.fn n_ref02_Star))) [(.tmp 39)]), none⟩,
    ⟨(some 41), (.mv (.tmp 6)), none⟩,
    ⟨(some 42), (.call 4 true (.cst (.d (.fn n_ref02_Star))) [(.tmp 41)]), none⟩,
    ⟨(some 43), (.fieldAddr 9 (.tmp 1)), none⟩,
    ⟨(some 44), (.load false 1 (.tmp 43)), none⟩,
    ⟨(some 45), (.mv (.tmp 5)), none⟩,
    ⟨(some 46), (.bslice 5 1 4 [(.d (.list [] true))] [(0, (.tmp 40)), (1, (.tmp 42)), (2, (.tmp 44)), (3, (.tmp 45))]), none⟩,
    ⟨(some 47), (.call 6 true (.cst (.d (.fn n_ref19_then))) [(.tmp 46)]), none⟩,
    ⟨(some 48), (.bslice 7 1 2 [(.d (.list [] true))] [(0, (.tmp 31)), (1, (.tmp 47))]), none⟩,
    ⟨(some 49), (.call 8 true (.cst (.d (.fn n_ref19_or))) [(.tmp 48)]), none⟩,
    ⟨(some 2), (.mv (.tmp 49)), none⟩] [(3, 5), (3, 7), (3, 9), (3, 10), (1, 10), (14, 16), (12, 16), (11, 16), (10, 16), (3, 16)]) (
 .ret)))))
def R_ref19_Prop : List LRes := [(.tmp 2)]
def V_ref19_Prop : List Nat := [0, 1, 3, 4, 5, 6, 2]

def L_ref19_Check (n_ref19_Prop : Nat) (n_ref19_part : Nat) (n_ref19_or : Nat) (n_ref19_and : Nat) (n_ref19_then : Nat) (n_ref19_hb : Nat) (n_ref02_Star : Nat) (n_ref02_Ring : Nat) (n_ref19_self : Nat) : LCode :=
 .seq (
  .region false [⟨(some 1), (.box 0 (.tmp 0)), none⟩, ⟨(some 2), (.mv (.cst (.d (.int .i64 0)))), none⟩] []) (
 .seq (
  .region false [⟨(some 10), (.fieldAddr 0 (.tmp 1)), none⟩,
    ⟨(some 11), (.load false 1 (.tmp 10)), none⟩,
    ⟨(some 3), (.mv (.tmp 11)), none⟩] []) (
 .seq (
  .seq (
   .region true [⟨(some 12), (.mv (.tmp 3)), none⟩,
     ⟨(some 13), (.fieldAddr 1 (.tmp 1)), none⟩,
     ⟨(some 14), (.load false 1 (.tmp 13)), none⟩,
     ⟨(some 15), (.call 0 true (.cst (.d (.fn n_ref19_part))) [(.tmp 12), (.tmp 14), (.cst (.d (.int .i64 3)))]), none⟩,
     ⟨(some 16), (.fieldAddr 2 (.tmp 1)), none⟩,
     ⟨(some 17), (.load false 1 (.tmp 16)), none⟩,
     ⟨(some 18), (.fieldAddr 3 (.tmp 1)), none⟩,
     ⟨(some 19), (.load false 1 (.tmp 18)), none⟩,
     ⟨(some 20), (.fieldAddr 4 (.tmp 1)), none⟩,
     ⟨(some 21), (.load false 1 (.tmp 20)), none⟩,
     ⟨(some 22), (.bslice 1 1 4 [(.d (.list [] true))] [(0, (.tmp 15)), (1, (.tmp 17)), (2, (.tmp 19)), (3, (.tmp 21))]), none⟩,
     ⟨(some 23), (.call 2 true (.cst (.d (.fn n_ref19_or))) [(.tmp 22)]), none⟩,
     ⟨(some 24), (.call 3 false (.cst (.d (.fn n_ref02_Ring))) [(.tmp 23)]), none⟩] [(3, 5), (3, 7), (3, 9)]) (
  .cond (.tmp 24) (
   .seq (
    .region false [⟨(some 2), (.mv (.cst (.d (.int .i64 1)))), none⟩] []) (
   .ret)) (
   .skip))) (
 .seq (
  .region false [⟨(some 26), (.load true 12 (.tmp 1)), none⟩,
    ⟨(some 27), (.call 0 false (.cst (.d (.fn n_ref19_hb))) [(.tmp 26)]), none⟩,
    ⟨(some 25), (.mv (.tmp 27)), none⟩,
    ⟨(some 28), (.extract 0 (.tmp 25)), none⟩,
    ⟨(some 29), (.extract 1 (.tmp 25)), none⟩,
    ⟨(some 4), (.mv (.tmp 28)), none⟩,
    ⟨(some 5), (.mv (.tmp 29)), none⟩] []) (
 .seq (
  .seq (
   .region false [⟨(some 30), (.mv (.tmp 4)), none⟩, ⟨(some 31), (.call 0 false (.cst (.d (.fn n_ref02_Ring))) [(.tmp 30)]), none⟩] []) (
  .cond (.tmp 31) (
   .seq (
    .region false [⟨(some 2), (.mv (.cst (.d (.int .i64 2)))), none⟩] []) (
   .ret)) (
   .skip))) (
 .seq (
  .region true [⟨(some 32), (.load true 12 (.tmp 1)), none⟩,
    ⟨(some 33), (.call 0 true (.cst (.d (.fn n_ref19_Prop))) [(.tmp 32)]), none⟩,
    ⟨(some 34), (.mv (.tmp 3)), none⟩,
    ⟨(some 35), (.fieldAddr 4 (.tmp 1)), none⟩,
    ⟨(some 36), (.load false 1 (.tmp 35)), none⟩,
    ⟨(some 37), (.call 1 true (.cst (.d (.fn n_ref19_part))) [(.tmp 34), (.tmp 36), (.cst (.d (.int .i64 1)))]), none⟩,
    ⟨(some 6), (.mv (.tmp 33)), none⟩,
    ⟨(some 7), (.mv (.tmp 37)), none⟩] [(1, 4)]) (
 .seq (
  .seq (
   .region false [⟨(some 38), (.mv (.tmp 7)), none⟩,
     ⟨(some 39), (.mv (.tmp 6)), none⟩,
     ⟨(some 40), (.mv (.tmp 4)), none⟩,
     ⟨(some 41), (.call 0 true (.cst (.d (.fn n_ref02_Star))) [(.tmp 40)]), none⟩,
     ⟨(some 42), (.bslice 1 1 3 [(.d (.list [] true))] [(0, (.tmp 38)), (1, (.tmp 39)), (2, (.tmp 41))]), none⟩,
     ⟨(some 43), (.call 2 true (.cst (.d (.fn n_ref19_then))) [(.tmp 42)]), none⟩,
     ⟨(some 44), (.call 3 false (.cst (.d (.fn n_ref19_self))) [(.tmp 43)]), none⟩] []) (
  .cond (.tmp 44) (
   .seq (
    .region false [⟨(some 2), (.mv (.cst (.d (.int .i64 3)))), none⟩] []) (
   .ret)) (
   .skip))) (
 .seq (
  .seq (
   .region false [⟨(some 45), (.fieldAddr 3 (.tmp 1)), none⟩,
     ⟨(some 46), (.load false 1 (.tmp 45)), none⟩,
     ⟨(some 47), (.mv (.tmp 6)), none⟩,
     ⟨(some 48), (.bslice 0 1 2 [(.d (.list [] true))] [(0, (.tmp 46)), (1, (.tmp 47))]), none⟩,
     ⟨(some 49), (.call 1 true (.cst (.d (.fn n_ref19_or))) [(.tmp 48)]), none⟩,
     ⟨(some 50), (.call 2 false (.cst (.d (.fn n_ref02_Ring))) [(.tmp 49)]), none⟩] []) (
  .cond (.tmp 50) (
   .seq (
    .region false [⟨(some 2), (.mv (.cst (.d (.int .i64 4)))), none⟩] []) (
   .ret)) (
   .skip))) (
 .seq (
  .region true [⟨(some 51), (.fieldAddr 11 (.tmp 1)), none⟩,
    ⟨(some 52), (.load false 1 (.tmp 51)), none⟩,
    ⟨(some 53), (.mv (.tmp 7)), none⟩,
    ⟨(some 54), (.mv (.tmp 3)), none⟩,
    ⟨(some 55), (.fieldAddr 3 (.tmp 1)), none⟩,
    ⟨(some 56), (.load false 1 (.tmp 55)), none⟩,
    ⟨(some 57), (.call 0 true (.cst (.d (.fn n_ref19_part))) [(.tmp 54), (.tmp 56), (.cst (.d (.int .i64 1)))]), none⟩,
    ⟨(some 58), (.bslice 1 1 2 [(.d (.list [] true))] [(0, (.tmp 53)), (1, (.tmp 57))]), none⟩,
    ⟨(some 59), (.call 2 true (.cst (.d (.fn n_ref19_then))) [(.tmp 58)]), none⟩,
    ⟨(some 60), (.call 3 true (.cst (.d (.fn n_ref19_and))) [(.tmp 52), (.tmp 59)]), none⟩,
    ⟨(some 8), (.mv (.tmp 60)), none⟩] [(1, 6), (1, 7), (1, 8)]) (
 .seq (
  .seq (
   .region false [⟨(some 9), (.mv (.cst (.d (.int .i64 0)))), none⟩] []) (
  .block 0 (
   .loop (
    .seq (
     .seq (
      .region false [⟨(some 61), (.mv (.tmp 9)), none⟩,
        ⟨(some 62), (.mv (.tmp 8)), none⟩,
        ⟨(some 63), (.len (.tmp 62)), none⟩,
        ⟨(some 64), (.bin .lss (.tmp 61) (.tmp 63)), none⟩] []) (
     .cond (.tmp 64) (
      .skip) (
      (.exit 0)))) (
    .seq (
     .block 1 (
      .seq (
       .region false [⟨(some 67), (.mv (.tmp 8)), none⟩,
         ⟨(some 68), (.mv (.tmp 9)), none⟩,
         ⟨(some 69), (.idxAddr 1 (.tmp 67) (.tmp 68)), none⟩,
         ⟨(some 70), (.load false 1 (.tmp 69)), none⟩,
         ⟨(some 71), (.bin .neq (.tmp 70) (.cst (.d (.int .u64 0)))), none⟩] []) (
      .cond (.tmp 71) (
       .seq (
        .region false [⟨(some 2), (.mv (.cst (.d (.int .i64 5)))), none⟩] []) (
       .ret)) (
       .skip)))) (
    .region false [⟨(some 65), (.mv (.tmp 9)), none⟩,
      ⟨(some 66), (.bin .add (.tmp 65) (.cst (.d (.int .i64 1)))), none⟩,
      ⟨(some 9), (.mv (.tmp 66)), none⟩] [])))))) (
 .seq (
  .region false [⟨(some 2), (.mv (.cst (.d (.int .i64 0)))), none⟩] []) (
 .ret)))))))))))
def R_ref19_Check : List LRes := [(.tmp 2)]
def V_ref19_Check : List Nat := [0, 1, 3, 24, 4, 31, 7, 6, 44, 50, 9, 8, 64, 71, 2]

def L_ref19_Fit (n_ref02_Put : Nat) : LCode :=
 .seq (
  .region false [⟨(some 4), (.mv (.cst (.d (.list [] true)))), none⟩] []) (
 .seq (
  .region false [⟨(some 8), (.mv (.tmp 1)), none⟩,
    ⟨(some 9), (.mkslice 0 1 8 [(.d (.int .u64 0))] (.tmp 8) (.tmp 8)), none⟩,
    ⟨(some 5), (.mv (.tmp 9)), none⟩] []) (
 .seq (
  .seq (
   .region false [⟨(some 6), (.mv (.cst (.d (.int .i64 0)))), none⟩] []) (
  .block 0 (
   .loop (
    .seq (
     .seq (
      .region false [⟨(some 10), (.mv (.tmp 6)), none⟩,
        ⟨(some 11), (.mv (.tmp 1)), none⟩,
        ⟨(some 12), (.bin .lss (.tmp 10) (.tmp 11)), none⟩,
        ⟨(some 13), (.mv (.tmp 12)), none⟩,
        ⟨(some 14), (.mv (.tmp 6)), (some (13, true))⟩,
        ⟨(some 15), (.mv (.tmp 0)), (some (13, true))⟩,
        ⟨(some 16), (.len (.tmp 15)), (some (13, true))⟩,
        ⟨(some 17), (.bin .lss (.tmp 14) (.tmp 16)), (some (13, true))⟩,
        ⟨(some 18), (.pick (.tmp 13) (.tmp 17) (.cst (.d (.bool false)))), none⟩] []) (
     .cond (.tmp 18) (
      .skip) (
      (.exit 0)))) (
    .seq (
     .block 1 (
      .seq (
       .region false [⟨(some 7), (.mv (.cst (.d (.int .i64 0)))), none⟩] []) (
      .block 2 (
       .loop (
        .seq (
         .seq (
          .region false [⟨(some 21), (.mv (.tmp 7)), none⟩,
            ⟨(some 22), (.mv (.tmp 1)), none⟩,
            ⟨(some 23), (.bin .lss (.tmp 21) (.tmp 22)), none⟩] []) (
         .cond (.tmp 23) (
          .skip) (
          (.exit 2)))) (
        .seq (
         .block 3 (
          .seq (
           .region false [⟨(some 26), (.mv (.tmp 0)), none⟩,
             ⟨(some 27), (.mv (.tmp 6)), none⟩,
             ⟨(some 28), (.idxAddr 1 (.tmp 26) (.tmp 27)), none⟩,
             ⟨(some 29), (.load false 1 (.tmp 28)), none⟩,
             ⟨(some 30), (.mv (.tmp 7)), none⟩,
             ⟨(some 31), (.conv .u64 (.tmp 30)), none⟩,
             ⟨(some 32), (.bin .shr (.tmp 29) (.tmp 31)), none⟩,
             ⟨(some 33), (.bin .rem (.tmp 32) (.cst (.d (.int .u64 2)))), none⟩,
             ⟨(some 34), (.bin .eql (.tmp 33) (.cst (.d (.int .u64 1)))), none⟩] []) (
          .cond (.tmp 34) (
           .region false [⟨(some 35), (.mv (.tmp 5)), none⟩,
             ⟨(some 36), (.mv (.tmp 6)), none⟩,
             ⟨(some 37), (.mv (.tmp 7)), none⟩,
             ⟨(some 38), (.call 0 false (.cst (.d (.fn n_ref02_Put))) [(.tmp 35), (.tmp 36), (.tmp 37)]), none⟩] []) (
           .skip)))) (
        .region false [⟨(some 24), (.mv (.tmp 7)), none⟩,
          ⟨(some 25), (.bin .add (.tmp 24) (.cst (.d (.int .i64 1)))), none⟩,
          ⟨(some 7), (.mv (.tmp 25)), none⟩] []))))))) (
    .region false [⟨(some 19), (.mv (.tmp 6)), none⟩,
      ⟨(some 20), (.bin .add (.tmp 19) (.cst (.d (.int .i64 1)))), none⟩,
      ⟨(some 6), (.mv (.tmp 20)), none⟩] [])))))) (
 .seq (
  .region false [⟨(some 39), (.mv (.tmp 5)), none⟩, ⟨(some 4), (.mv (.tmp 39)), none⟩] []) (
 .ret))))
def R_ref19_Fit : List LRes := [(.tmp 4)]
def V_ref19_Fit : List Nat := [1, 6, 0, 18, 7, 23, 34, 5, 4]

def L_ref19_part (n_ref02_Put : Nat) (n_ref02_Has : Nat) : LCode :=
 .seq (
  .region false [⟨(some 6), (.mv (.cst (.d (.list [] true)))), none⟩] []) (
 .seq (
  .region false [⟨(some 15), (.mv (.tmp 0)), none⟩,
    ⟨(some 16), (.len (.tmp 15)), none⟩,
    ⟨(some 17), (.mkslice 0 1 8 [(.d (.int .u64 0))] (.tmp 16) (.tmp 16)), none⟩,
    ⟨(some 7), (.mv (.tmp 17)), none⟩] []) (
 .seq (
  .seq (
   .region false [⟨(some 8), (.mv (.cst (.d (.int .i64 0)))), none⟩] []) (
  .block 0 (
   .loop (
    .seq (
     .seq (
      .region false [⟨(some 18), (.mv (.tmp 8)), none⟩,
        ⟨(some 19), (.mv (.tmp 0)), none⟩,
        ⟨(some 20), (.len (.tmp 19)), none⟩,
        ⟨(some 21), (.bin .lss (.tmp 18) (.tmp 20)), none⟩] []) (
     .cond (.tmp 21) (
      .skip) (
      (.exit 0)))) (
    .seq (
     .block 1 (
      .seq (
       .region false [⟨(some 9), (.mv (.cst (.d (.int .i64 0)))), none⟩] []) (
      .block 2 (
       .loop (
        .seq (
         .seq (
          .region false [⟨(some 24), (.mv (.tmp 9)), none⟩,
            ⟨(some 25), (.mv (.tmp 0)), none⟩,
            ⟨(some 26), (.len (.tmp 25)), none⟩,
            ⟨(some 27), (.bin .lss (.tmp 24) (.tmp 26)), none⟩] []) (
         .cond (.tmp 27) (
          .skip) (
          (.exit 2)))) (
        .seq (
         .block 3 (
          .seq (
           .region true [⟨(some 30), (.mv (.tmp 0)), none⟩,
             ⟨(some 31), (.mv (.tmp 8)), none⟩,
             ⟨(some 32), (.idxAddr 4 (.tmp 30) (.tmp 31)), none⟩,
             ⟨(some 33), (.load true 4 (.tmp 32)), none⟩,
             ⟨(some 34), (.mv (.tmp 0)), none⟩,
             ⟨(some 35), (.mv (.tmp 9)), none⟩,
             ⟨(some 36), (.idxAddr 4 (.tmp 34) (.tmp 35)), none⟩,
             ⟨(some 37), (.load true 4 (.tmp 36)), none⟩,
             ⟨(some 10), (.alloc 0 4 [(.d (.int .i64 0)), (.d (.int .i64 0)), (.d (.int .i64 0)), (.d (.int .i64 0))]), none⟩,
             ⟨(some 11), (.alloc 1 4 [(.d (.int .i64 0)), (.d (.int .i64 0)), (.d (.int .i64 0)), (.d (.int .i64 0))]), none⟩,
             ⟨none, (.store 4 (.tmp 10) (.tmp 33)), none⟩,
             ⟨none, (.store 4 (.tmp 11) (.tmp 37)), none⟩] [(7, 8), (3, 8), (8, 9), (7, 9), (3, 9), (7, 10)]) (
          .seq (
           .region false [⟨(some 38), (.fieldAddr 0 (.tmp 10)), none⟩,
             ⟨(some 39), (.load false 1 (.tmp 38)), none⟩,
             ⟨(some 40), (.fieldAddr 0 (.tmp 11)), none⟩,
             ⟨(some 41), (.load false 1 (.tmp 40)), none⟩,
             ⟨(some 42), (.bin .neq (.tmp 39) (.tmp 41)), none⟩,
             ⟨(some 43), (.mv (.tmp 42)), none⟩,
             ⟨(some 44), (.fieldAddr 0 (.tmp 10)), (some (43, false))⟩,
             ⟨(some 45), (.load false 1 (.tmp 44)), (some (43, false))⟩,
             ⟨(some 46), (.bin .lss (.tmp 45) (.cst (.d (.int .i64 0)))), (some (43, false))⟩,
             ⟨(some 47), (.pick (.tmp 43) (.cst (.d (.bool true))) (.tmp 46)), none⟩,
             ⟨(some 48), (.mv (.tmp 47)), none⟩,
             ⟨(some 49), (.fieldAddr 0 (.tmp 11)), (some (48, false))⟩,
             ⟨(some 50), (.load false 1 (.tmp 49)), (some (48, false))⟩,
             ⟨(some 51), (.bin .lss (.tmp 50) (.cst (.d (.int .i64 0)))), (some (48, false))⟩,
             ⟨(some 52), (.pick (.tmp 48) (.cst (.d (.bool true))) (.tmp 51)), none⟩,
             ⟨(some 12), (.mv (.tmp 52)), none⟩] []) (
          .seq (
           .region false [⟨(some 53), (.fieldAddr 1 (.tmp 10)), none⟩,
             ⟨(some 54), (.load false 1 (.tmp 53)), none⟩,
             ⟨(some 55), (.bin .mul (.tmp 54) (.cst (.d (.int .i64 10)))), none⟩,
             ⟨(some 56), (.fieldAddr 1 (.tmp 11)), none⟩,
             ⟨(some 57), (.load false 1 (.tmp 56)), none⟩,
             ⟨(some 58), (.bin .add (.tmp 55) (.tmp 57)), none⟩,
             ⟨(some 13), (.mv (.tmp 58)), none⟩] []) (
          .seq (
           .region false [⟨(some 59), (.mv (.tmp 2)), none⟩,
             ⟨(some 60), (.bin .eql (.tmp 59) (.cst (.d (.int .i64 1)))), none⟩,
             ⟨(some 61), (.mv (.tmp 60)), none⟩,
             ⟨(some 62), (.mv (.tmp 12)), (some (61, true))⟩,
             ⟨(some 63), (.pick (.tmp 61) (.tmp 62) (.cst (.d (.bool false)))), none⟩,
             ⟨(some 64), (.mv (.tmp 63)), none⟩,
             ⟨(some 65), (.mv (.tmp 2)), (some (64, false))⟩,
             ⟨(some 66), (.bin .eql (.tmp 65) (.cst (.d (.int .i64 2)))), (some (64, false))⟩,
             ⟨(some 67), (.mv (.tmp 66)), (some (64, false))⟩,
             ⟨(some 68), (.mv (.tmp 12)), (some (67, true))⟩,
             ⟨(some 69), (.un .not (.tmp 68)), (some (67, true))⟩,
             ⟨(some 70), (.pick (.tmp 67) (.tmp 69) (.cst (.d (.bool false)))), (some (64, false))⟩,
             ⟨(some 71), (.pick (.tmp 64) (.cst (.d (.bool true))) (.tmp 70)), none⟩,
             ⟨(some 72), (.mv (.tmp 71)), none⟩,
             ⟨(some 73), (.mv (.tmp 2)), (some (72, false))⟩,
             ⟨(some 74), (.bin .eql (.tmp 73) (.cst (.d (.int .i64 3)))), (some (72, false))⟩,
             ⟨(some 75), (.mv (.tmp 74)), (some (72, false))⟩,
             ⟨(some 76), (.fieldAddr 2 (.tmp 10)), (some (75, true))⟩,
             ⟨(some 77), (.load false 1 (.tmp 76)), (some (75, true))⟩,
             ⟨(some 78), (.fieldAddr 2 (.tmp 11)), (some (75, true))⟩,
             ⟨(some 79), (.load false 1 (.tmp 78)), (some (75, true))⟩,
             ⟨(some 80), (.bin .eql (.tmp 77) (.tmp 79)), (some (75, true))⟩,
             ⟨(some 81), (.pick (.tmp 75) (.tmp 80) (.cst (.d (.bool false)))), (some (72, false))⟩,
             ⟨(some 82), (.pick (.tmp 72) (.cst (.d (.bool true))) (.tmp 81)), none⟩,
             ⟨(some 83), (.mv (.tmp 82)), none⟩,
             ⟨(some 84), (.mv (.tmp 2)), (some (83, false))⟩,
             ⟨(some 85), (.bin .eql (.tmp 84) (.cst (.d (.int .i64 4)))), (some (83, false))⟩,
             ⟨(some 86), (.mv (.tmp 85)), (some (83, false))⟩,
             ⟨(some 87), (.mv (.tmp 13)), (some (86, true))⟩,
             ⟨(some 88), (.bin .eql (.tmp 87) (.cst (.d (.int .i64 11)))), (some (86, true))⟩,
             ⟨(some 89), (.pick (.tmp 86) (.tmp 88) (.cst (.d (.bool false)))), (some (83, false))⟩,
             ⟨(some 90), (.pick (.tmp 83) (.cst (.d (.bool true))) (.tmp 89)), none⟩,
             ⟨(some 91), (.mv (.tmp 90)), none⟩,
             ⟨(some 92), (.mv (.tmp 2)), (some (91, false))⟩,
             ⟨(some 93), (.bin .eql (.tmp 92) (.cst (.d (.int .i64 5)))), (some (91, false))⟩,
             ⟨(some 94), (.mv (.tmp 93)), (some (91, false))⟩,
             ⟨(some 95), (.mv (.tmp 13)), (some (94, true))⟩,
             ⟨(some 96), (.bin .eql (.tmp 95) (.cst (.d (.int .i64 12)))), (some (94, true))⟩,
             ⟨(some 97), (.pick (.tmp 94) (.tmp 96) (.cst (.d (.bool false)))), (some (91, false))⟩,
             ⟨(some 98), (.pick (.tmp 91) (.cst (.d (.bool true))) (.tmp 97)), none⟩,
             ⟨(some 99), (.mv (.tmp 98)), none⟩,
             ⟨(some 100), (.mv (.tmp 2)), (some (99, false))⟩,
             ⟨(some 101), (.bin .eql (.tmp 100) (.cst (.d (.int .i64 6)))), (some (99, false))⟩,
             ⟨(some 102), (.mv (.tmp 101)), (some (99, false))⟩,
             ⟨(some 103), (.mv (.tmp 13)), (some (102, true))⟩,
             ⟨(some 104), (.bin .eql (.tmp 103) (.cst (.d (.int .i64 21)))), (some (102, true))⟩,
             ⟨(some 105), (.pick (.tmp 102) (.tmp 104) (.cst (.d (.bool false)))), (some (99, false))⟩,
             ⟨(some 106), (.pick (.tmp 99) (.cst (.d (.bool true))) (.tmp 105)), none⟩,
             ⟨(some 107), (.mv (.tmp 106)), none⟩,
             ⟨(some 108), (.mv (.tmp 2)), (some (107, false))⟩,
             ⟨(some 109), (.bin .eql (.tmp 108) (.cst (.d (.int .i64 7)))), (some (107, false))⟩,
             ⟨(some 110), (.mv (.tmp 109)), (some (107, false))⟩,
             ⟨(some 111), (.mv (.tmp 13)), (some (110, true))⟩,
             ⟨(some 112), (.bin .eql (.tmp 111) (.cst (.d (.int .i64 22)))), (some (110, true))⟩,
             ⟨(some 113), (.pick (.tmp 110) (.tmp 112) (.cst (.d (.bool false)))), (some (107, false))⟩,
             ⟨(some 114), (.pick (.tmp 107) (.cst (.d (.bool true))) (.tmp 113)), none⟩,
             ⟨(some 14), (.mv (.tmp 114)), none⟩] []) (
          .seq (
           .seq (
            .region false [⟨(some 115), (.mv (.tmp 14)), none⟩,
              ⟨(some 116), (.mv (.tmp 115)), none⟩,
              ⟨(some 117), (.mv (.tmp 1)), (some (116, true))⟩,
              ⟨(some 118), (.mv (.tmp 8)), (some (116, true))⟩,
              ⟨(some 119), (.mv (.tmp 9)), (some (116, true))⟩,
              ⟨(some 120), (.call 0 false (.cst (.d (.fn n_ref02_Has))) [(.tmp 117), (.tmp 118), (.tmp 119)]), (some (116, true))⟩,
              ⟨(some 121), (.pick (.tmp 116) (.tmp 120) (.cst (.d (.bool false)))), none⟩,
              ⟨(some 122), (.mv (.tmp 121)), none⟩,
              ⟨(some 123), (.fieldAddr 1 (.tmp 10)), (some (122, true))⟩,
              ⟨(some 124), (.load false 1 (.tmp 123)), (some (122, true))⟩,
              ⟨(some 125), (.bin .geq (.tmp 124) (.cst (.d (.int .i64 0)))), (some (122, true))⟩,
              ⟨(some 126), (.pick (.tmp 122) (.tmp 125) (.cst (.d (.bool false)))), none⟩,
              ⟨(some 127), (.mv (.tmp 126)), none⟩,
              ⟨(some 128), (.fieldAddr 1 (.tmp 10)), (some (127, true))⟩,
              ⟨(some 129), (.load false 1 (.tmp 128)), (some (127, true))⟩,
              ⟨(some 130), (.bin .lss (.tmp 129) (.cst (.d (.int .i64 3)))), (some (127, true))⟩,
              ⟨(some 131), (.pick (.tmp 127) (.tmp 130) (.cst (.d (.bool false)))), none⟩,
              ⟨(some 132), (.mv (.tmp 131)), none⟩,
              ⟨(some 133), (.fieldAddr 1 (.tmp 11)), (some (132, true))⟩,
              ⟨(some 134), (.load false 1 (.tmp 133)), (some (132, true))⟩,
              ⟨(some 135), (.bin .geq (.tmp 134) (.cst (.d (.int .i64 0)))), (some (132, true))⟩,
              ⟨(some 136), (.pick (.tmp 132) (.tmp 135) (.cst (.d (.bool false)))), none⟩,
              ⟨(some 137), (.mv (.tmp 136)), none⟩,
              ⟨(some 138), (.fieldAddr 1 (.tmp 11)), (some (137, true))⟩,
              ⟨(some 139), (.load false 1 (.tmp 138)), (some (137, true))⟩,
              ⟨(some 140), (.bin .lss (.tmp 139) (.cst (.d (.int .i64 3)))), (some (137, true))⟩,
              ⟨(some 141), (.pick (.tmp 137) (.tmp 140) (.cst (.d (.bool false)))), none⟩] []) (
           .cond (.tmp 141) (
            .region false [⟨(some 142), (.mv (.tmp 7)), none⟩,
              ⟨(some 143), (.mv (.tmp 8)), none⟩,
              ⟨(some 144), (.mv (.tmp 9)), none⟩,
              ⟨(some 145), (.call 0 false (.cst (.d (.fn n_ref02_Put))) [(.tmp 142), (.tmp 143), (.tmp 144)]), none⟩] []) (
            .skip))) (
          .seq (
           .region false [⟨(some 146), (.mv (.tmp 14)), none⟩,
             ⟨(some 147), (.mv (.tmp 146)), none⟩,
             ⟨(some 148), (.mv (.tmp 2)), (some (147, true))⟩,
             ⟨(some 149), (.bin .lss (.tmp 148) (.cst (.d (.int .i64 4)))), (some (147, true))⟩,
             ⟨(some 150), (.pick (.tmp 147) (.tmp 149) (.cst (.d (.bool false)))), none⟩,
             ⟨(some 151), (.mv (.tmp 150)), none⟩,
             ⟨(some 152), (.mv (.tmp 1)), (some (151, true))⟩,
             ⟨(some 153), (.mv (.tmp 8)), (some (151, true))⟩,
             ⟨(some 154), (.mv (.tmp 9)), (some (151, true))⟩,
             ⟨(some 155), (.call 0 false (.cst (.d (.fn n_ref02_Has))) [(.tmp 152), (.tmp 153), (.tmp 154)]), (some (151, true))⟩,
             ⟨(some 156), (.pick (.tmp 151) (.tmp 155) (.cst (.d (.bool false)))), none⟩,
             ⟨(some 157), (.mv (.tmp 156)), none⟩,
             ⟨(some 158), (.mv (.tmp 7)), (some (157, true))⟩,
             ⟨(some 159), (.mv (.tmp 8)), (some (157, true))⟩,
             ⟨(some 160), (.mv (.tmp 9)), (some (157, true))⟩,
             ⟨(some 161), (.call 0 false (.cst (.d (.fn n_ref02_Has))) [(.tmp 158), (.tmp 159), (.tmp 160)]), (some (157, true))⟩,
             ⟨(some 162), (.un .not (.tmp 161)), (some (157, true))⟩,
             ⟨(some 163), (.pick (.tmp 157) (.tmp 162) (.cst (.d (.bool false)))), none⟩] []) (
          .cond (.tmp 163) (
           .region false [⟨(some 164), (.mv (.tmp 7)), none⟩,
             ⟨(some 165), (.mv (.tmp 8)), none⟩,
             ⟨(some 166), (.mv (.tmp 9)), none⟩,
             ⟨(some 167), (.call 0 false (.cst (.d (.fn n_ref02_Put))) [(.tmp 164), (.tmp 165), (.tmp 166)]), none⟩] []) (
           .skip))))))))) (
        .region false [⟨(some 28), (.mv (.tmp 9)), none⟩,
          ⟨(some 29), (.bin .add (.tmp 28) (.cst (.d (.int .i64 1)))), none⟩,
          ⟨(some 9), (.mv (.tmp 29)), none⟩] []))))))) (
    .region false [⟨(some 22), (.mv (.tmp 8)), none⟩,
      ⟨(some 23), (.bin .add (.tmp 22) (.cst (.d (.int .i64 1)))), none⟩,
      ⟨(some 8), (.mv (.tmp 23)), none⟩] [])))))) (
 .seq (
  .region false [⟨(some 168), (.mv (.tmp 7)), none⟩, ⟨(some 6), (.mv (.tmp 168)), none⟩] []) (
 .ret))))
def R_ref19_part : List LRes := [(.tmp 6)]
def V_ref19_part : List Nat := [0, 8, 21, 9, 27, 10, 11, 2, 12, 13, 14, 1, 141, 7, 163, 6]

def L_ref19_or (n_ref02_Lay : Nat) : LCode :=
 .seq (
  .region false [⟨(some 2), (.mv (.cst (.d (.list [] true)))), none⟩] []) (
 .seq (
  .region false [⟨(some 5), (.mv (.tmp 0)), none⟩,
    ⟨(some 6), (.idxAddr 1 (.tmp 5) (.cst (.d (.int .i64 0)))), none⟩,
    ⟨(some 7), (.load false 1 (.tmp 6)), none⟩,
    ⟨(some 3), (.mv (.tmp 7)), none⟩] []) (
 .seq (
  .seq (
   .region false [⟨(some 4), (.mv (.cst (.d (.int .i64 1)))), none⟩] []) (
  .block 0 (
   .loop (
    .seq (
     .seq (
      .region false [⟨(some 8), (.mv (.tmp 4)), none⟩,
        ⟨(some 9), (.mv (.tmp 0)), none⟩,
        ⟨(some 10), (.len (.tmp 9)), none⟩,
        ⟨(some 11), (.bin .lss (.tmp 8) (.tmp 10)), none⟩] []) (
     .cond (.tmp 11) (
      .skip) (
      (.exit 0)))) (
    .seq (
     .block 1 (
      .region false [⟨(some 14), (.mv (.tmp 3)), none⟩,
        ⟨(some 15), (.mv (.tmp 0)), none⟩,
        ⟨(some 16), (.mv (.tmp 4)), none⟩,
        ⟨(some 17), (.idxAddr 1 (.tmp 15) (.tmp 16)), none⟩,
        ⟨(some 18), (.load false 1 (.tmp 17)), none⟩,
        ⟨(some 19), (.call 0 true (.cst (.d (.fn n_ref02_Lay))) [(.tmp 14), (.tmp 18), (.cst (.d (.int .i64 0)))]), none⟩,
        ⟨(some 3), (.mv (.tmp 19)), none⟩] [])) (
    .region false [⟨(some 12), (.mv (.tmp 4)), none⟩,
      ⟨(some 13), (.bin .add (.tmp 12) (.cst (.d (.int .i64 1)))), none⟩,
      ⟨(some 4), (.mv (.tmp 13)), none⟩] [])))))) (
 .seq (
  .region false [⟨(some 20), (.mv (.tmp 3)), none⟩, ⟨(some 2), (.mv (.tmp 20)), none⟩] []) (
 .ret))))
def R_ref19_or : List LRes := [(.tmp 2)]
def V_ref19_or : List Nat := [0, 4, 11, 3, 2]

def L_ref19_and (n_ref02_Lay : Nat) : LCode :=
 .seq (
  .region false [⟨(some 4), (.mv (.cst (.d (.list [] true)))), none⟩] []) (
 .seq (
  .region false [⟨(some 5), (.mv (.tmp 0)), none⟩,
    ⟨(some 6), (.mv (.tmp 1)), none⟩,
    ⟨(some 7), (.call 0 true (.cst (.d (.fn n_ref02_Lay))) [(.tmp 5), (.tmp 6), (.cst (.d (.int .i64 1)))]), none⟩,
    ⟨(some 4), (.mv (.tmp 7)), none⟩] []) (
 .ret))
def R_ref19_and : List LRes := [(.tmp 4)]
def V_ref19_and : List Nat := [0, 1, 4]

def L_ref19_then (n_ref02_Then : Nat) : LCode :=
 .seq (
  .region false [⟨(some 2), (.mv (.cst (.d (.list [] true)))), none⟩] []) (
 .seq (
  .region false [⟨(some 5), (.mv (.tmp 0)), none⟩,
    ⟨(some 6), (.idxAddr 1 (.tmp 5) (.cst (.d (.int .i64 0)))), none⟩,
    ⟨(some 7), (.load false 1 (.tmp 6)), none⟩,
    ⟨(some 3), (.mv (.tmp 7)), none⟩] []) (
 .seq (
  .seq (
   .region false [⟨(some 4), (.mv (.cst (.d (.int .i64 1)))), none⟩] []) (
  .block 0 (
   .loop (
    .seq (
     .seq (
      .region false [⟨(some 8), (.mv (.tmp 4)), none⟩,
        ⟨(some 9), (.mv (.tmp 0)), none⟩,
        ⟨(some 10), (.len (.tmp 9)), none⟩,
        ⟨(some 11), (.bin .lss (.tmp 8) (.tmp 10)), none⟩] []) (
     .cond (.tmp 11) (
      .skip) (
      (.exit 0)))) (
    .seq (
     .block 1 (
      .region false [⟨(some 14), (.mv (.tmp 3)), none⟩,
        ⟨(some 15), (.mv (.tmp 0)), none⟩,
        ⟨(some 16), (.mv (.tmp 4)), none⟩,
        ⟨(some 17), (.idxAddr 1 (.tmp 15) (.tmp 16)), none⟩,
        ⟨(some 18), (.load false 1 (.tmp 17)), none⟩,
        ⟨(some 19), (.call 0 true (.cst (.d (.fn n_ref02_Then))) [(.tmp 14), (.tmp 18)]), none⟩,
        ⟨(some 3), (.mv (.tmp 19)), none⟩] [])) (
    .region false [⟨(some 12), (.mv (.tmp 4)), none⟩,
      ⟨(some 13), (.bin .add (.tmp 12) (.cst (.d (.int .i64 1)))), none⟩,
      ⟨(some 4), (.mv (.tmp 13)), none⟩] [])))))) (
 .seq (
  .region false [⟨(some 20), (.mv (.tmp 3)), none⟩, ⟨(some 2), (.mv (.tmp 20)), none⟩] []) (
 .ret))))
def R_ref19_then : List LRes := [(.tmp 2)]
def V_ref19_then : List Nat := [0, 4, 11, 3, 2]

def L_ref19_hb (n_ref19_Ppo : Nat) (n_ref19_part : Nat) (n_ref19_or : Nat) (n_ref02_Lay : Nat) : LCode :=
 .seq (
  .region false [⟨(some 1), (.box 0 (.tmp 0)), none⟩,
    ⟨(some 2), (.mv (.cst (.d (.list [] true)))), none⟩,
    ⟨(some 3), (.mv (.cst (.d (.list [] true)))), none⟩] []) (
 .seq (
  .region false [⟨(some 6), (.fieldAddr 0 (.tmp 1)), none⟩,
    ⟨(some 7), (.load false 1 (.tmp 6)), none⟩,
    ⟨(some 4), (.mv (.tmp 7)), none⟩] []) (
 .seq (
  .region true [⟨(some 8), (.fieldAddr 9 (.tmp 1)), none⟩,
    ⟨(some 9), (.load false 1 (.tmp 8)), none⟩,
    ⟨(some 10), (.fieldAddr 10 (.tmp 1)), none⟩,
    ⟨(some 11), (.load false 1 (.tmp 10)), none⟩,
    ⟨(some 12), (.mv (.tmp 4)), none⟩,
    ⟨(some 13), (.fieldAddr 10 (.tmp 1)), none⟩,
    ⟨(some 14), (.load false 1 (.tmp 13)), none⟩,
    ⟨(some 15), (.call 0 true (.cst (.d (.fn n_ref19_part))) [(.tmp 12), (.tmp 14), (.cst (.d (.int .i64 6)))]), none⟩,
    ⟨(some 16), (.call 1 true (.cst (.d (.fn n_ref02_Lay))) [(.tmp 11), (.tmp 15), (.cst (.d (.int .i64 2)))]), none⟩,
    ⟨(some 17), (.bslice 2 1 2 [(.d (.list [] true))] [(0, (.tmp 9)), (1, (.tmp 16))]), none⟩,
    ⟨(some 18), (.call 3 true (.cst (.d (.fn n_ref19_or))) [(.tmp 17)]), none⟩,
    ⟨(some 5), (.mv (.tmp 18)), none⟩] [(3, 7), (1, 7), (1, 8)]) (
 .seq (
  .region true [⟨(some 19), (.load true 12 (.tmp 1)), none⟩,
    ⟨(some 20), (.call 0 true (.cst (.d (.fn n_ref19_Ppo))) [(.tmp 19)]), none⟩,
    ⟨(some 21), (.mv (.tmp 5)), none⟩,
    ⟨(some 22), (.mv (.tmp 4)), none⟩,
    ⟨(some 23), (.fieldAddr 2 (.tmp 1)), none⟩,
    ⟨(some 24), (.load false 1 (.tmp 23)), none⟩,
    ⟨(some 25), (.call 1 true (.cst (.d (.fn n_ref19_part))) [(.tmp 22), (.tmp 24), (.cst (.d (.int .i64 1)))]), none⟩,
    ⟨(some 26), (.bslice 2 1 3 [(.d (.list [] true))] [(0, (.tmp 20)), (1, (.tmp 21)), (2, (.tmp 25))]), none⟩,
    ⟨(some 27), (.call 3 true (.cst (.d (.fn n_ref19_or))) [(.tmp 26)]), none⟩,
    ⟨(some 28), (.mv (.tmp 5)), none⟩,
    ⟨(some 2), (.mv (.tmp 27)), none⟩,
    ⟨(some 3), (.mv (.tmp 28)), none⟩] [(1, 5)]) (
 .ret))))
def R_ref19_hb : List LRes := [(.tmp 2), (.tmp 3)]
def V_ref19_hb : List Nat := [0, 1, 4, 5, 2, 3]

def L_ref19_self (n_ref02_Has : Nat) : LCode :=
 .seq (
  .region false [⟨(some 2), (.mv (.cst (.d (.bool false)))), none⟩] []) (
 .seq (
  .seq (
   .region false [⟨(some 3), (.mv (.cst (.d (.int .i64 0)))), none⟩] []) (
  .block 0 (
   .loop (
    .seq (
     .seq (
      .region false [⟨(some 4), (.mv (.tmp 3)), none⟩,
        ⟨(some 5), (.mv (.tmp 0)), none⟩,
        ⟨(some 6), (.len (.tmp 5)), none⟩,
        ⟨(some 7), (.bin .lss (.tmp 4) (.tmp 6)), none⟩] []) (
     .cond (.tmp 7) (
      .skip) (
      (.exit 0)))) (
    .seq (
     .block 1 (
      .seq (
       .region false [⟨(some 10), (.mv (.tmp 0)), none⟩,
         ⟨(some 11), (.mv (.tmp 3)), none⟩,
         ⟨(some 12), (.mv (.tmp 3)), none⟩,
         ⟨(some 13), (.call 0 false (.cst (.d (.fn n_ref02_Has))) [(.tmp 10), (.tmp 11), (.tmp 12)]), none⟩] []) (
      .cond (.tmp 13) (
       .seq (
        .region false [⟨(some 2), (.mv (.cst (.d (.bool true)))), none⟩] []) (
       .ret)) (
       .skip)))) (
    .region false [⟨(some 8), (.mv (.tmp 3)), none⟩,
      ⟨(some 9), (.bin .add (.tmp 8) (.cst (.d (.int .i64 1)))), none⟩,
      ⟨(some 3), (.mv (.tmp 9)), none⟩] [])))))) (
 .seq (
  .region false [⟨(some 2), (.mv (.cst (.d (.bool false)))), none⟩] []) (
 .ret)))
def R_ref19_self : List LRes := [(.tmp 2)]
def V_ref19_self : List Nat := [3, 0, 7, 13, 2]

end Go.Ago

/- Lowered functions of a package, callees by their numbers. Printed by a program of this session. Conditions: none. -/
set_option maxRecDepth 100000
set_option linter.unusedVariables false
namespace Go.Ago
def L_law19_PowerJudges (n_law19_awake : Nat) (n_power_Check : Nat) (n_law19_few : Nat) (n_ref02_Same : Nat) (n_power_Ppo : Nat) (n_ref19_Fitted : Nat) (n_ref19_Ppo : Nat) (n_power_Prop : Nat) (n_ref19_Prop : Nat) (n_ref19_Check : Nat) : LCode :=
 .seq (
  .region false [⟨(some 1), (.box 0 (.tmp 0)), none⟩, ⟨(some 2), (.mv (.cst (.d (.bool false)))), none⟩] []) (
 .seq (
  .seq (
   .region false [⟨(some 4), (.call 0 false (.cst (.d (.fn n_law19_awake))) []), none⟩, ⟨(some 5), (.un .not (.tmp 4)), none⟩] []) (
  .cond (.tmp 5) (
   .seq (
    .region false [⟨(some 2), (.mv (.cst (.d (.bool false)))), none⟩] []) (
   .ret)) (
   .skip))) (
 .seq (
  .seq (
   .region false [⟨(some 6), (.load true 12 (.tmp 1)), none⟩,
     ⟨(some 7), (.call 0 false (.cst (.d (.fn n_law19_few))) [(.tmp 6)]), none⟩,
     ⟨(some 8), (.un .not (.tmp 7)), none⟩] []) (
  .cond (.tmp 8) (
   .seq (
    .region false [⟨(some 2), (.mv (.cst (.d (.bool true)))), none⟩] []) (
   .ret)) (
   .skip))) (
 .seq (
  .region false [⟨(some 9), (.load true 12 (.tmp 1)), none⟩,
    ⟨(some 10), (.call 0 false (.cst (.d (.fn n_ref19_Fitted))) [(.tmp 9)]), none⟩,
    ⟨(some 3), (.alloc 0 12 [(.d (.list [] true)), (.d (.list [] true)), (.d (.list [] true)), (.d (.list [] true)), (.d (.list [] true)), (.d (.list [] true)), (.d (.list [] true)), (.d (.list [] true)), (.d (.list [] true)), (.d (.list [] true)), (.d (.list [] true)), (.d (.list [] true))]), none⟩,
    ⟨none, (.store 12 (.tmp 3) (.tmp 10)), none⟩] []) (
 .seq (
  .region true [⟨(some 11), (.load true 12 (.tmp 1)), none⟩,
    ⟨(some 12), (.call 0 true (.cst (.d (.fn n_power_Ppo))) [(.tmp 11)]), none⟩,
    ⟨(some 13), (.load true 12 (.tmp 3)), none⟩,
    ⟨(some 14), (.call 1 true (.cst (.d (.fn n_ref19_Ppo))) [(.tmp 13)]), none⟩,
    ⟨(some 15), (.call 2 false (.cst (.d (.fn n_ref02_Same))) [(.tmp 12), (.tmp 14)]), none⟩,
    ⟨(some 16), (.mv (.tmp 15)), none⟩,
    ⟨(some 17), (.load true 12 (.tmp 1)), (some (16, true))⟩,
    ⟨(some 18), (.call 2 true (.cst (.d (.fn n_power_Prop))) [(.tmp 17)]), (some (16, true))⟩,
    ⟨(some 19), (.load true 12 (.tmp 3)), (some (16, true))⟩,
    ⟨(some 20), (.call 3 true (.cst (.d (.fn n_ref19_Prop))) [(.tmp 19)]), (some (16, true))⟩,
    ⟨(some 21), (.call 4 false (.cst (.d (.fn n_ref02_Same))) [(.tmp 18), (.tmp 20)]), (some (16, true))⟩,
    ⟨(some 22), (.pick (.tmp 16) (.tmp 21) (.cst (.d (.bool false)))), none⟩,
    ⟨(some 23), (.mv (.tmp 22)), none⟩,
    ⟨(some 24), (.load true 12 (.tmp 1)), (some (23, true))⟩,
    ⟨(some 25), (.call 4 false (.cst (.d (.fn n_power_Check))) [(.tmp 24)]), (some (23, true))⟩,
    ⟨(some 26), (.load true 12 (.tmp 3)), (some (23, true))⟩,
    ⟨(some 27), (.call 4 false (.cst (.d (.fn n_ref19_Check))) [(.tmp 26)]), (some (23, true))⟩,
    ⟨(some 28), (.bin .eql (.tmp 25) (.tmp 27)), (some (23, true))⟩,
    ⟨(some 29), (.pick (.tmp 23) (.tmp 28) (.cst (.d (.bool false)))), none⟩,
    ⟨(some 2), (.mv (.tmp 29)), none⟩] [(1, 2), (7, 8), (14, 15)]) (
 .ret)))))
def R_law19_PowerJudges : List LRes := [(.tmp 2)]
def V_law19_PowerJudges : List Nat := [0, 5, 1, 8, 3, 2]

def L_law19_awake (n_power_Check : Nat) (n_power_Ppo : Nat) (n_rel_Has : Nat) : LCode :=
 .seq (
  .region false [⟨(some 0), (.mv (.cst (.d (.bool false)))), none⟩] []) (
 .seq (
  .region false [⟨(some 3), (.build [(.d (.int .i64 0)), (.d (.int .i64 0)), (.d (.int .i64 0)), (.d (.int .i64 0))] [(1, (1, (.cst (.d (.int .i64 1)))))]), none⟩,
    ⟨(some 4), (.build [(.d (.int .i64 0)), (.d (.int .i64 0)), (.d (.int .i64 0)), (.d (.int .i64 0))] [(1, (1, (.cst (.d (.int .i64 2))))), (2, (1, (.cst (.d (.int .i64 1)))))]), none⟩,
    ⟨(some 5), (.build [(.d (.int .i64 0)), (.d (.int .i64 0)), (.d (.int .i64 0)), (.d (.int .i64 0))] [(0, (1, (.cst (.d (.int .i64 1))))), (1, (1, (.cst (.d (.int .i64 1))))), (2, (1, (.cst (.d (.int .i64 1)))))]), none⟩,
    ⟨(some 6), (.build [(.d (.int .i64 0)), (.d (.int .i64 0)), (.d (.int .i64 0)), (.d (.int .i64 0))] [(0, (1, (.cst (.d (.int .i64 1))))), (1, (1, (.cst (.d (.int .i64 2)))))]), none⟩,
    ⟨(some 7), (.bslice 0 4 4 [(.d (.int .i64 0)), (.d (.int .i64 0)), (.d (.int .i64 0)), (.d (.int .i64 0))] [(0, (.tmp 3)), (1, (.tmp 4)), (2, (.tmp 5)), (3, (.tmp 6))]), none⟩,
    ⟨(some 8), (.bslice 1 1 4 [(.d (.int .u64 0))] [(0, (.cst (.d (.int .u64 2)))), (1, (.cst (.d (.int .u64 0)))), (2, (.cst (.d (.int .u64 8)))), (3, (.cst (.d (.int .u64 0))))]), none⟩,
    ⟨(some 9), (.bslice 2 1 4 [(.d (.int .u64 0))] [(0, (.cst (.d (.int .u64 0)))), (1, (.cst (.d (.int .u64 4)))), (2, (.cst (.d (.int .u64 0)))), (3, (.cst (.d (.int .u64 1))))]), none⟩,
    ⟨(some 10), (.build [(.d (.list [] true)), (.d (.list [] true)), (.d (.list [] true)), (.d (.list [] true)), (.d (.list [] true)), (.d (.list [] true)), (.d (.list [] true)), (.d (.list [] true)), (.d (.list [] true)), (.d (.list [] true)), (.d (.list [] true)), (.d (.list [] true))] [(0, (1, (.tmp 7))), (1, (1, (.tmp 8))), (2, (1, (.tmp 9)))]), none⟩,
    ⟨(some 1), (.alloc 3 12 [(.d (.list [] true)), (.d (.list [] true)), (.d (.list [] true)), (.d (.list [] true)), (.d (.list [] true)), (.d (.list [] true)), (.d (.list [] true)), (.d (.list [] true)), (.d (.list [] true)), (.d (.list [] true)), (.d (.list [] true)), (.d (.list [] true))]), none⟩,
    ⟨none, (.store 12 (.tmp 1) (.tmp 10)), none⟩] []) (
 .seq (
  .region false [⟨(some 11), (.load true 12 (.tmp 1)), none⟩,
    ⟨(some 2), (.alloc 0 12 [(.d (.list [] true)), (.d (.list [] true)), (.d (.list [] true)), (.d (.list [] true)), (.d (.list [] true)), (.d (.list [] true)), (.d (.list [] true)), (.d (.list [] true)), (.d (.list [] true)), (.d (.list [] true)), (.d (.list [] true)), (.d (.list [] true))]), none⟩,
    ⟨none, (.store 12 (.tmp 2) (.tmp 11)), none⟩] []) (
 .seq (
  .region false [⟨(some 12), (.fieldAddr 1 (.tmp 1)), none⟩,
    ⟨(some 13), (.load false 1 (.tmp 12)), none⟩,
    ⟨(some 14), (.fieldAddr 7 (.tmp 2)), none⟩,
    ⟨none, (.store 1 (.tmp 14) (.tmp 13)), none⟩] []) (
 .seq (
  .region false [⟨(some 15), (.load true 12 (.tmp 1)), none⟩,
    ⟨(some 16), (.call 0 false (.cst (.d (.fn n_power_Check))) [(.tmp 15)]), none⟩,
    ⟨(some 17), (.bin .eql (.tmp 16) (.cst (.d (.int .i64 0)))), none⟩,
    ⟨(some 18), (.mv (.tmp 17)), none⟩,
    ⟨(some 19), (.load true 12 (.tmp 2)), (some (18, true))⟩,
    ⟨(some 20), (.call 0 false (.cst (.d (.fn n_power_Check))) [(.tmp 19)]), (some (18, true))⟩,
    ⟨(some 21), (.bin .eql (.tmp 20) (.cst (.d (.int .i64 2)))), (some (18, true))⟩,
    ⟨(some 22), (.pick (.tmp 18) (.tmp 21) (.cst (.d (.bool false)))), none⟩,
    ⟨(some 23), (.mv (.tmp 22)), none⟩,
    ⟨(some 24), (.load true 12 (.tmp 2)), (some (23, true))⟩,
    ⟨(some 25), (.call 0 true (.cst (.d (.fn n_power_Ppo))) [(.tmp 24)]), (some (23, true))⟩,
    ⟨(some 26), (.call 1 false (.cst (.d (.fn n_rel_Has))) [(.tmp 25), (.cst (.d (.int .i64 0))), (.cst (.d (.int .i64 1)))]), (some (23, true))⟩,
    ⟨(some 27), (.pick (.tmp 23) (.tmp 26) (.cst (.d (.bool false)))), none⟩,
    ⟨(some 0), (.mv (.tmp 27)), none⟩] []) (
 .ret)))))
def R_law19_awake : List LRes := [(.tmp 0)]
def V_law19_awake : List Nat := [1, 2, 0]

def L_law19_few : LCode :=
 .seq (
  .region false [⟨(some 1), (.box 0 (.tmp 0)), none⟩, ⟨(some 2), (.mv (.cst (.d (.bool false)))), none⟩] []) (
 .seq (
  .region false [⟨(some 3), (.fieldAddr 0 (.tmp 1)), none⟩,
    ⟨(some 4), (.load false 1 (.tmp 3)), none⟩,
    ⟨(some 5), (.len (.tmp 4)), none⟩,
    ⟨(some 6), (.bin .leq (.tmp 5) (.cst (.d (.int .i64 14)))), none⟩,
    ⟨(some 2), (.mv (.tmp 6)), none⟩] []) (
 .ret))
def R_law19_few : List LRes := [(.tmp 2)]
def V_law19_few : List Nat := [0, 1, 2]

end Go.Ago
