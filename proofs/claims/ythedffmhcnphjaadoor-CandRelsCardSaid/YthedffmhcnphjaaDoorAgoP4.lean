/- Lowered functions of a package, callees by their numbers. Printed by a program of this session. Conditions: none. -/
import Derived.Test.YthedffmhcnphjaaDoorAgoP3
set_option maxRecDepth 100000
set_option linter.unusedVariables false
namespace Go.Ago
end Go.Ago

/- Lowered functions of a package, callees by their numbers. Printed by a program of this session. Conditions: none. -/
set_option maxRecDepth 100000
set_option linter.unusedVariables false
namespace Go.Ago
end Go.Ago

/- Lowered functions of a package, callees by their numbers. Printed by a program of this session. Conditions: none. -/
set_option maxRecDepth 100000
set_option linter.unusedVariables false
namespace Go.Ago
end Go.Ago

/- Lowered functions of a package, callees by their numbers. Printed by a program of this session. Conditions: none. -/
set_option maxRecDepth 100000
set_option linter.unusedVariables false
namespace Go.Ago
def L_slices_Clone_int : LCode :=
 .seq (
  .region false [⟨(some 2), (.mv (.cst (.d (.list [] true)))), none⟩] []) (
 .seq (
  .seq (
   .nilq [⟨(some 3), (.mv (.tmp 0)), none⟩] false 4 (.tmp 3)) (
  .cond (.tmp 4) (
   .seq (
    .region false [⟨(some 2), (.mv (.cst (.d (.list [] true)))), none⟩] []) (
   .ret)) (
   .skip))) (
 .seq (
  .region false [⟨(some 5), (.mv (.cst (.d (.list [] true)))), none⟩,
    ⟨(some 6), (.mv (.tmp 0)), none⟩,
    ⟨(some 7), (.append 0 1 8 (.tmp 5) (.tmp 6)), none⟩,
    ⟨(some 2), (.mv (.tmp 7)), none⟩] []) (
 .ret)))
def R_slices_Clone_int : List LRes := [(.tmp 2)]
def V_slices_Clone_int : List Nat := [0, 4, 2]

def L_slices_Equal_int : LCode :=
 .seq (
  .region false [⟨(some 4), (.mv (.cst (.d (.bool false)))), none⟩] []) (
 .seq (
  .seq (
   .region false [⟨(some 6), (.mv (.tmp 0)), none⟩,
     ⟨(some 7), (.len (.tmp 6)), none⟩,
     ⟨(some 8), (.mv (.tmp 1)), none⟩,
     ⟨(some 9), (.len (.tmp 8)), none⟩,
     ⟨(some 10), (.bin .neq (.tmp 7) (.tmp 9)), none⟩] []) (
  .cond (.tmp 10) (
   .seq (
    .region false [⟨(some 4), (.mv (.cst (.d (.bool false)))), none⟩] []) (
   .ret)) (
   .skip))) (
 .seq (
  .seq (
   .region false [⟨(some 11), (.mv (.tmp 0)), none⟩,
     ⟨(some 12), (.len (.tmp 11)), none⟩,
     ⟨(some 13), (.mv (.cst (.d (.int .i64 0)))), none⟩] []) (
  .block 0 (
   .loop (
    .seq (
     .region false [⟨(some 14), (.bin .lss (.tmp 13) (.tmp 12)), none⟩] []) (
    .seq (
     .cond (.tmp 14) (
      .skip) (
      (.exit 0))) (
    .seq (
     .block 1 (
      .seq (
       .region false [⟨(some 15), (.mv (.tmp 13)), none⟩, ⟨(some 5), (.mv (.tmp 15)), none⟩] []) (
      .seq (
       .region true [⟨(some 16), (.mv (.tmp 0)), none⟩,
         ⟨(some 17), (.mv (.tmp 5)), none⟩,
         ⟨(some 18), (.idxAddr 1 (.tmp 16) (.tmp 17)), none⟩,
         ⟨(some 19), (.load false 1 (.tmp 18)), none⟩,
         ⟨(some 20), (.mv (.tmp 1)), none⟩,
         ⟨(some 21), (.mv (.tmp 5)), none⟩,
         ⟨(some 22), (.idxAddr 1 (.tmp 20) (.tmp 21)), none⟩,
         ⟨(some 23), (.load false 1 (.tmp 22)), none⟩,
         ⟨(some 24), (.bin .neq (.tmp 19) (.tmp 23)), none⟩] []) (
      .cond (.tmp 24) (
       .seq (
        .region false [⟨(some 4), (.mv (.cst (.d (.bool false)))), none⟩] []) (
       .ret)) (
       .skip))))) (
    .region false [⟨(some 25), (.bin .add (.tmp 13) (.cst (.d (.int .i64 1)))), none⟩, ⟨(some 13), (.mv (.tmp 25)), none⟩] []))))))) (
 .seq (
  .region false [⟨(some 4), (.mv (.cst (.d (.bool true)))), none⟩] []) (
 .ret))))
def R_slices_Equal_int : List LRes := [(.tmp 4)]
def V_slices_Equal_int : List Nat := [0, 1, 10, 13, 12, 14, 5, 24, 4]

end Go.Ago

/- Lowered functions of a package, callees by their numbers. Printed by a program of this session. Conditions: none. -/
set_option maxRecDepth 100000
set_option linter.unusedVariables false
namespace Go.Ago
def L_rel_Of : LCode :=
 .seq (
  .region false [⟨(some 4), (.mv (.cst (.d (.list [] true)))), none⟩, ⟨(some 5), (.mv (.cst (.d (.int .i64 0)))), none⟩] []) (
 .seq (
  .seq (
   .region false [⟨(some 9), (.mv (.tmp 0)), none⟩,
     ⟨(some 10), (.bin .lss (.tmp 9) (.cst (.d (.int .i64 0)))), none⟩,
     ⟨(some 11), (.mv (.tmp 10)), none⟩,
     ⟨(some 12), (.mv (.tmp 0)), (some (11, false))⟩,
     ⟨(some 13), (.bin .gtr (.tmp 12) (.cst (.d (.int .i64 64)))), (some (11, false))⟩,
     ⟨(some 14), (.pick (.tmp 11) (.cst (.d (.bool true))) (.tmp 13)), none⟩] []) (
  .cond (.tmp 14) (
   .seq (
    .region false [⟨(some 4), (.mv (.cst (.d (.list [] true)))), none⟩, ⟨(some 5), (.mv (.cst (.d (.int .i64 1)))), none⟩] []) (
   .ret)) (
   .skip))) (
 .seq (
  .region false [⟨(some 15), (.mv (.tmp 0)), none⟩,
    ⟨(some 16), (.mkslice 0 1 8 [(.d (.int .u64 0))] (.tmp 15) (.tmp 15)), none⟩,
    ⟨(some 6), (.mv (.tmp 16)), none⟩] []) (
 .seq (
  .seq (
   .region false [⟨(some 17), (.mv (.tmp 1)), none⟩,
     ⟨(some 18), (.len (.tmp 17)), none⟩,
     ⟨(some 19), (.mv (.cst (.d (.int .i64 0)))), none⟩] []) (
  .block 0 (
   .loop (
    .seq (
     .region false [⟨(some 20), (.bin .lss (.tmp 19) (.tmp 18)), none⟩] []) (
    .seq (
     .cond (.tmp 20) (
      .skip) (
      (.exit 0))) (
    .seq (
     .block 1 (
      .seq (
       .region false [⟨(some 21), (.idxAddr 2 (.tmp 17) (.tmp 19)), none⟩,
         ⟨(some 22), (.load true 2 (.tmp 21)), none⟩,
         ⟨(some 8), (.alloc 0 2 [(.d (.int .i64 0)), (.d (.int .i64 0))]), none⟩,
         ⟨none, (.store 2 (.tmp 8) (.tmp 22)), none⟩] []) (
      .seq (
       .seq (
        .region false [⟨(some 23), (.idxArrAddr 2 1 (.tmp 8) (.cst (.d (.int .i64 0)))), none⟩,
          ⟨(some 24), (.load false 1 (.tmp 23)), none⟩,
          ⟨(some 25), (.bin .lss (.tmp 24) (.cst (.d (.int .i64 0)))), none⟩,
          ⟨(some 26), (.mv (.tmp 25)), none⟩,
          ⟨(some 27), (.idxArrAddr 2 1 (.tmp 8) (.cst (.d (.int .i64 0)))), (some (26, false))⟩,
          ⟨(some 28), (.load false 1 (.tmp 27)), (some (26, false))⟩,
          ⟨(some 29), (.mv (.tmp 0)), (some (26, false))⟩,
          ⟨(some 30), (.bin .geq (.tmp 28) (.tmp 29)), (some (26, false))⟩,
          ⟨(some 31), (.pick (.tmp 26) (.cst (.d (.bool true))) (.tmp 30)), none⟩,
          ⟨(some 32), (.mv (.tmp 31)), none⟩,
          ⟨(some 33), (.idxArrAddr 2 1 (.tmp 8) (.cst (.d (.int .i64 1)))), (some (32, false))⟩,
          ⟨(some 34), (.load false 1 (.tmp 33)), (some (32, false))⟩,
          ⟨(some 35), (.bin .lss (.tmp 34) (.cst (.d (.int .i64 0)))), (some (32, false))⟩,
          ⟨(some 36), (.pick (.tmp 32) (.cst (.d (.bool true))) (.tmp 35)), none⟩,
          ⟨(some 37), (.mv (.tmp 36)), none⟩,
          ⟨(some 38), (.idxArrAddr 2 1 (.tmp 8) (.cst (.d (.int .i64 1)))), (some (37, false))⟩,
          ⟨(some 39), (.load false 1 (.tmp 38)), (some (37, false))⟩,
          ⟨(some 40), (.mv (.tmp 0)), (some (37, false))⟩,
          ⟨(some 41), (.bin .geq (.tmp 39) (.tmp 40)), (some (37, false))⟩,
          ⟨(some 42), (.pick (.tmp 37) (.cst (.d (.bool true))) (.tmp 41)), none⟩] []) (
       .cond (.tmp 42) (
        .seq (
         .region false [⟨(some 4), (.mv (.cst (.d (.list [] true)))), none⟩, ⟨(some 5), (.mv (.cst (.d (.int .i64 2)))), none⟩] []) (
        .ret)) (
        .skip))) (
      .region true [⟨(some 43), (.mv (.tmp 6)), none⟩,
        ⟨(some 44), (.idxArrAddr 2 1 (.tmp 8) (.cst (.d (.int .i64 0)))), none⟩,
        ⟨(some 45), (.load false 1 (.tmp 44)), none⟩,
        ⟨(some 46), (.idxAddr 1 (.tmp 43) (.tmp 45)), none⟩,
        ⟨(some 47), (.load false 1 (.tmp 46)), none⟩,
        ⟨(some 48), (.idxArrAddr 2 1 (.tmp 8) (.cst (.d (.int .i64 1)))), none⟩,
        ⟨(some 49), (.load false 1 (.tmp 48)), none⟩,
        ⟨(some 50), (.conv .u64 (.tmp 49)), none⟩,
        ⟨(some 51), (.bin .shl (.cst (.d (.int .u64 1))) (.tmp 50)), none⟩,
        ⟨(some 52), (.bin .or (.tmp 47) (.tmp 51)), none⟩,
        ⟨(some 53), (.idxAddr 1 (.tmp 43) (.tmp 45)), none⟩,
        ⟨none, (.store 1 (.tmp 53) (.tmp 52)), none⟩] [])))) (
    .region false [⟨(some 54), (.bin .add (.tmp 19) (.cst (.d (.int .i64 1)))), none⟩, ⟨(some 19), (.mv (.tmp 54)), none⟩] []))))))) (
 .seq (
  .region false [⟨(some 55), (.mv (.tmp 6)), none⟩,
    ⟨(some 4), (.mv (.tmp 55)), none⟩,
    ⟨(some 5), (.mv (.cst (.d (.int .i64 0)))), none⟩] []) (
 .ret)))))
def R_rel_Of : List LRes := [(.tmp 4), (.tmp 5)]
def V_rel_Of : List Nat := [0, 14, 1, 19, 18, 20, 17, 8, 42, 6, 4, 5]

def L_rel_Ring (n_rel_Plus : Nat) : LCode :=
 .seq (
  .region false [⟨(some 2), (.mv (.cst (.d (.bool false)))), none⟩] []) (
 .seq (
  .seq (
   .region false [⟨(some 5), (.mv (.tmp 0)), none⟩,
     ⟨(some 6), (.call 0 true (.cst (.d (.fn n_rel_Plus))) [(.tmp 5)]), none⟩,
     ⟨(some 7), (.len (.tmp 6)), none⟩,
     ⟨(some 8), (.mv (.cst (.d (.int .i64 0)))), none⟩] []) (
  .block 0 (
   .loop (
    .seq (
     .region false [⟨(some 9), (.bin .lss (.tmp 8) (.tmp 7)), none⟩] []) (
    .seq (
     .cond (.tmp 9) (
      .skip) (
      (.exit 0))) (
    .seq (
     .block 1 (
      .seq (
       .region false [⟨(some 10), (.mv (.tmp 8)), none⟩,
         ⟨(some 11), (.idxAddr 1 (.tmp 6) (.tmp 8)), none⟩,
         ⟨(some 12), (.load false 1 (.tmp 11)), none⟩,
         ⟨(some 3), (.mv (.tmp 10)), none⟩,
         ⟨(some 4), (.mv (.tmp 12)), none⟩] []) (
      .seq (
       .region false [⟨(some 13), (.mv (.tmp 4)), none⟩,
         ⟨(some 14), (.mv (.tmp 3)), none⟩,
         ⟨(some 15), (.conv .u64 (.tmp 14)), none⟩,
         ⟨(some 16), (.bin .shr (.tmp 13) (.tmp 15)), none⟩,
         ⟨(some 17), (.bin .and (.tmp 16) (.cst (.d (.int .u64 1)))), none⟩,
         ⟨(some 18), (.bin .eql (.tmp 17) (.cst (.d (.int .u64 1)))), none⟩] []) (
      .cond (.tmp 18) (
       .seq (
        .region false [⟨(some 2), (.mv (.cst (.d (.bool true)))), none⟩] []) (
       .ret)) (
       .skip))))) (
    .region false [⟨(some 19), (.bin .add (.tmp 8) (.cst (.d (.int .i64 1)))), none⟩, ⟨(some 8), (.mv (.tmp 19)), none⟩] []))))))) (
 .seq (
  .region false [⟨(some 2), (.mv (.cst (.d (.bool false)))), none⟩] []) (
 .ret)))
def R_rel_Ring : List LRes := [(.tmp 2)]
def V_rel_Ring : List Nat := [0, 8, 7, 9, 6, 4, 3, 18, 2]

def L_rel_Has (n_rel_size : Nat) : LCode :=
 .seq (
  .region false [⟨(some 6), (.mv (.cst (.d (.bool false)))), none⟩] []) (
 .seq (
  .region false [⟨(some 8), (.mv (.tmp 0)), none⟩,
    ⟨(some 9), (.call 0 false (.cst (.d (.fn n_rel_size))) [(.tmp 8)]), none⟩,
    ⟨(some 7), (.mv (.tmp 9)), none⟩] []) (
 .seq (
  .region false [⟨(some 10), (.mv (.tmp 1)), none⟩,
    ⟨(some 11), (.bin .geq (.tmp 10) (.cst (.d (.int .i64 0)))), none⟩,
    ⟨(some 12), (.mv (.tmp 11)), none⟩,
    ⟨(some 13), (.mv (.tmp 1)), (some (12, true))⟩,
    ⟨(some 14), (.mv (.tmp 7)), (some (12, true))⟩,
    ⟨(some 15), (.bin .lss (.tmp 13) (.tmp 14)), (some (12, true))⟩,
    ⟨(some 16), (.pick (.tmp 12) (.tmp 15) (.cst (.d (.bool false)))), none⟩,
    ⟨(some 17), (.mv (.tmp 16)), none⟩,
    ⟨(some 18), (.mv (.tmp 2)), (some (17, true))⟩,
    ⟨(some 19), (.bin .geq (.tmp 18) (.cst (.d (.int .i64 0)))), (some (17, true))⟩,
    ⟨(some 20), (.pick (.tmp 17) (.tmp 19) (.cst (.d (.bool false)))), none⟩,
    ⟨(some 21), (.mv (.tmp 20)), none⟩,
    ⟨(some 22), (.mv (.tmp 2)), (some (21, true))⟩,
    ⟨(some 23), (.mv (.tmp 7)), (some (21, true))⟩,
    ⟨(some 24), (.bin .lss (.tmp 22) (.tmp 23)), (some (21, true))⟩,
    ⟨(some 25), (.pick (.tmp 21) (.tmp 24) (.cst (.d (.bool false)))), none⟩,
    ⟨(some 26), (.mv (.tmp 25)), none⟩,
    ⟨(some 27), (.mv (.tmp 0)), (some (26, true))⟩,
    ⟨(some 28), (.mv (.tmp 1)), (some (26, true))⟩,
    ⟨(some 29), (.idxAddr 1 (.tmp 27) (.tmp 28)), (some (26, true))⟩,
    ⟨(some 30), (.load false 1 (.tmp 29)), (some (26, true))⟩,
    ⟨(some 31), (.mv (.tmp 2)), (some (26, true))⟩,
    ⟨(some 32), (.conv .u64 (.tmp 31)), (some (26, true))⟩,
    ⟨(some 33), (.bin .shr (.tmp 30) (.tmp 32)), (some (26, true))⟩,
    ⟨(some 34), (.bin .and (.tmp 33) (.cst (.d (.int .u64 1)))), (some (26, true))⟩,
    ⟨(some 35), (.bin .eql (.tmp 34) (.cst (.d (.int .u64 1)))), (some (26, true))⟩,
    ⟨(some 36), (.pick (.tmp 26) (.tmp 35) (.cst (.d (.bool false)))), none⟩,
    ⟨(some 6), (.mv (.tmp 36)), none⟩] []) (
 .ret)))
def R_rel_Has : List LRes := [(.tmp 6)]
def V_rel_Has : List Nat := [0, 1, 7, 2, 6]

def L_rel_Back (n_rel_size : Nat) (n_rel_row : Nat) (n_math_bits_TrailingZeros64 : Nat) : LCode :=
 .seq (
  .region false [⟨(some 2), (.mv (.cst (.d (.list [] true)))), none⟩] []) (
 .seq (
  .region false [⟨(some 6), (.mv (.tmp 0)), none⟩,
    ⟨(some 7), (.call 0 false (.cst (.d (.fn n_rel_size))) [(.tmp 6)]), none⟩,
    ⟨(some 8), (.mkslice 0 1 8 [(.d (.int .u64 0))] (.tmp 7) (.tmp 7)), none⟩,
    ⟨(some 3), (.mv (.tmp 8)), none⟩] []) (
 .seq (
  .seq (
   .region false [⟨(some 9), (.mv (.tmp 3)), none⟩,
     ⟨(some 10), (.len (.tmp 9)), none⟩,
     ⟨(some 11), (.mv (.cst (.d (.int .i64 0)))), none⟩] []) (
  .block 0 (
   .loop (
    .seq (
     .region false [⟨(some 12), (.bin .lss (.tmp 11) (.tmp 10)), none⟩] []) (
    .seq (
     .cond (.tmp 12) (
      .skip) (
      (.exit 0))) (
    .seq (
     .block 1 (
      .seq (
       .region false [⟨(some 13), (.mv (.tmp 11)), none⟩, ⟨(some 4), (.mv (.tmp 13)), none⟩] []) (
      .seq (
       .region false [⟨(some 14), (.mv (.tmp 0)), none⟩,
         ⟨(some 15), (.mv (.tmp 4)), none⟩,
         ⟨(some 16), (.call 0 false (.cst (.d (.fn n_rel_row))) [(.tmp 14), (.tmp 15)]), none⟩,
         ⟨(some 5), (.mv (.tmp 16)), none⟩] []) (
      .block 2 (
       .loop (
        .seq (
         .seq (
          .region false [⟨(some 17), (.mv (.tmp 5)), none⟩, ⟨(some 18), (.bin .neq (.tmp 17) (.cst (.d (.int .u64 0)))), none⟩] []) (
         .cond (.tmp 18) (
          .skip) (
          (.exit 2)))) (
        .seq (
         .block 3 (
          .region false [⟨(some 23), (.mv (.tmp 3)), none⟩,
            ⟨(some 24), (.mv (.tmp 5)), none⟩,
            ⟨(some 25), (.call 0 false (.cst (.d (.fn n_math_bits_TrailingZeros64))) [(.tmp 24)]), none⟩,
            ⟨(some 26), (.idxAddr 1 (.tmp 23) (.tmp 25)), none⟩,
            ⟨(some 27), (.load false 1 (.tmp 26)), none⟩,
            ⟨(some 28), (.mv (.tmp 4)), none⟩,
            ⟨(some 29), (.conv .u64 (.tmp 28)), none⟩,
            ⟨(some 30), (.bin .shl (.cst (.d (.int .u64 1))) (.tmp 29)), none⟩,
            ⟨(some 31), (.bin .or (.tmp 27) (.tmp 30)), none⟩,
            ⟨(some 32), (.idxAddr 1 (.tmp 23) (.tmp 25)), none⟩,
            ⟨none, (.store 1 (.tmp 32) (.tmp 31)), none⟩] [])) (
        .region false [⟨(some 19), (.mv (.tmp 5)), none⟩,
          ⟨(some 20), (.mv (.tmp 5)), none⟩,
          ⟨(some 21), (.bin .sub (.tmp 20) (.cst (.d (.int .u64 1)))), none⟩,
          ⟨(some 22), (.bin .and (.tmp 19) (.tmp 21)), none⟩,
          ⟨(some 5), (.mv (.tmp 22)), none⟩] [])))))))) (
    .region false [⟨(some 33), (.bin .add (.tmp 11) (.cst (.d (.int .i64 1)))), none⟩, ⟨(some 11), (.mv (.tmp 33)), none⟩] []))))))) (
 .seq (
  .region false [⟨(some 34), (.mv (.tmp 3)), none⟩, ⟨(some 2), (.mv (.tmp 34)), none⟩] []) (
 .ret))))
def R_rel_Back : List LRes := [(.tmp 2)]
def V_rel_Back : List Nat := [0, 3, 11, 10, 12, 4, 5, 18, 2]

def L_rel_Plus (n_rel_lay : Nat) (n_rel_Plus_1 : Nat) : LCode :=
 .seq (
  .region false [⟨(some 2), (.mv (.cst (.d (.list [] true)))), none⟩] []) (
 .seq (
  .region false [⟨(some 6), (.mv (.tmp 0)), none⟩,
    ⟨(some 7), (.call 0 true (.cst (.d (.fn n_rel_lay))) [(.tmp 6), (.cst (.d (.list [] true))), (.cst (.d (.fn n_rel_Plus_1)))]), none⟩,
    ⟨(some 3), (.mv (.tmp 7)), none⟩] []) (
 .seq (
  .seq (
   .region false [⟨(some 8), (.mv (.tmp 3)), none⟩,
     ⟨(some 9), (.len (.tmp 8)), none⟩,
     ⟨(some 10), (.mv (.cst (.d (.int .i64 0)))), none⟩] []) (
  .block 0 (
   .loop (
    .seq (
     .region false [⟨(some 11), (.bin .lss (.tmp 10) (.tmp 9)), none⟩] []) (
    .seq (
     .cond (.tmp 11) (
      .skip) (
      (.exit 0))) (
    .seq (
     .block 1 (
      .seq (
       .region false [⟨(some 12), (.mv (.tmp 10)), none⟩, ⟨(some 4), (.mv (.tmp 12)), none⟩] []) (
      .seq (
       .region false [⟨(some 13), (.mv (.tmp 3)), none⟩,
         ⟨(some 14), (.len (.tmp 13)), none⟩,
         ⟨(some 15), (.mv (.cst (.d (.int .i64 0)))), none⟩] []) (
      .block 2 (
       .loop (
        .seq (
         .region false [⟨(some 16), (.bin .lss (.tmp 15) (.tmp 14)), none⟩] []) (
        .seq (
         .cond (.tmp 16) (
          .skip) (
          (.exit 2))) (
        .seq (
         .block 3 (
          .seq (
           .region false [⟨(some 17), (.mv (.tmp 15)), none⟩, ⟨(some 5), (.mv (.tmp 17)), none⟩] []) (
          .seq (
           .region false [⟨(some 18), (.mv (.tmp 3)), none⟩,
             ⟨(some 19), (.mv (.tmp 5)), none⟩,
             ⟨(some 20), (.idxAddr 1 (.tmp 18) (.tmp 19)), none⟩,
             ⟨(some 21), (.load false 1 (.tmp 20)), none⟩,
             ⟨(some 22), (.mv (.tmp 4)), none⟩,
             ⟨(some 23), (.conv .u64 (.tmp 22)), none⟩,
             ⟨(some 24), (.bin .shr (.tmp 21) (.tmp 23)), none⟩,
             ⟨(some 25), (.bin .and (.tmp 24) (.cst (.d (.int .u64 1)))), none⟩,
             ⟨(some 26), (.bin .eql (.tmp 25) (.cst (.d (.int .u64 1)))), none⟩] []) (
          .cond (.tmp 26) (
           .region true [⟨(some 27), (.mv (.tmp 3)), none⟩,
             ⟨(some 28), (.mv (.tmp 5)), none⟩,
             ⟨(some 29), (.idxAddr 1 (.tmp 27) (.tmp 28)), none⟩,
             ⟨(some 30), (.load false 1 (.tmp 29)), none⟩,
             ⟨(some 31), (.mv (.tmp 3)), none⟩,
             ⟨(some 32), (.mv (.tmp 4)), none⟩,
             ⟨(some 33), (.idxAddr 1 (.tmp 31) (.tmp 32)), none⟩,
             ⟨(some 34), (.load false 1 (.tmp 33)), none⟩,
             ⟨(some 35), (.bin .or (.tmp 30) (.tmp 34)), none⟩,
             ⟨(some 36), (.idxAddr 1 (.tmp 27) (.tmp 28)), none⟩,
             ⟨none, (.store 1 (.tmp 36) (.tmp 35)), none⟩] []) (
           .skip))))) (
        .region false [⟨(some 37), (.bin .add (.tmp 15) (.cst (.d (.int .i64 1)))), none⟩, ⟨(some 15), (.mv (.tmp 37)), none⟩] []))))))))) (
    .region false [⟨(some 38), (.bin .add (.tmp 10) (.cst (.d (.int .i64 1)))), none⟩, ⟨(some 10), (.mv (.tmp 38)), none⟩] []))))))) (
 .seq (
  .region false [⟨(some 39), (.mv (.tmp 3)), none⟩, ⟨(some 2), (.mv (.tmp 39)), none⟩] []) (
 .ret))))
def R_rel_Plus : List LRes := [(.tmp 2)]
def V_rel_Plus : List Nat := [0, 3, 10, 9, 11, 15, 14, 16, 5, 4, 26, 2]

def L_rel_Then (n_rel_size : Nat) (n_rel_row : Nat) (n_math_bits_TrailingZeros64 : Nat) : LCode :=
 .seq (
  .region false [⟨(some 4), (.mv (.cst (.d (.list [] true)))), none⟩] []) (
 .seq (
  .region false [⟨(some 8), (.mv (.tmp 0)), none⟩,
    ⟨(some 9), (.call 0 false (.cst (.d (.fn n_rel_size))) [(.tmp 8)]), none⟩,
    ⟨(some 10), (.mv (.tmp 1)), none⟩,
    ⟨(some 11), (.call 0 false (.cst (.d (.fn n_rel_size))) [(.tmp 10)]), none⟩,
    ⟨(some 12), (.maxi (.tmp 9) (.tmp 11)), none⟩,
    ⟨(some 13), (.mkslice 0 1 8 [(.d (.int .u64 0))] (.tmp 12) (.tmp 12)), none⟩,
    ⟨(some 5), (.mv (.tmp 13)), none⟩] []) (
 .seq (
  .seq (
   .region false [⟨(some 14), (.mv (.tmp 5)), none⟩,
     ⟨(some 15), (.len (.tmp 14)), none⟩,
     ⟨(some 16), (.mv (.cst (.d (.int .i64 0)))), none⟩] []) (
  .block 0 (
   .loop (
    .seq (
     .region false [⟨(some 17), (.bin .lss (.tmp 16) (.tmp 15)), none⟩] []) (
    .seq (
     .cond (.tmp 17) (
      .skip) (
      (.exit 0))) (
    .seq (
     .block 1 (
      .seq (
       .region false [⟨(some 18), (.mv (.tmp 16)), none⟩, ⟨(some 6), (.mv (.tmp 18)), none⟩] []) (
      .seq (
       .region false [⟨(some 19), (.mv (.tmp 0)), none⟩,
         ⟨(some 20), (.mv (.tmp 6)), none⟩,
         ⟨(some 21), (.call 0 false (.cst (.d (.fn n_rel_row))) [(.tmp 19), (.tmp 20)]), none⟩,
         ⟨(some 7), (.mv (.tmp 21)), none⟩] []) (
      .block 2 (
       .loop (
        .seq (
         .seq (
          .region false [⟨(some 22), (.mv (.tmp 7)), none⟩, ⟨(some 23), (.bin .neq (.tmp 22) (.cst (.d (.int .u64 0)))), none⟩] []) (
         .cond (.tmp 23) (
          .skip) (
          (.exit 2)))) (
        .seq (
         .block 3 (
          .region true [⟨(some 28), (.mv (.tmp 5)), none⟩,
            ⟨(some 29), (.mv (.tmp 6)), none⟩,
            ⟨(some 30), (.idxAddr 1 (.tmp 28) (.tmp 29)), none⟩,
            ⟨(some 31), (.load false 1 (.tmp 30)), none⟩,
            ⟨(some 32), (.mv (.tmp 1)), none⟩,
            ⟨(some 33), (.mv (.tmp 7)), none⟩,
            ⟨(some 34), (.call 0 false (.cst (.d (.fn n_math_bits_TrailingZeros64))) [(.tmp 33)]), none⟩,
            ⟨(some 35), (.call 0 false (.cst (.d (.fn n_rel_row))) [(.tmp 32), (.tmp 34)]), none⟩,
            ⟨(some 36), (.bin .or (.tmp 31) (.tmp 35)), none⟩,
            ⟨(some 37), (.idxAddr 1 (.tmp 28) (.tmp 29)), none⟩,
            ⟨none, (.store 1 (.tmp 37) (.tmp 36)), none⟩] [(3, 6), (3, 7)])) (
        .region false [⟨(some 24), (.mv (.tmp 7)), none⟩,
          ⟨(some 25), (.mv (.tmp 7)), none⟩,
          ⟨(some 26), (.bin .sub (.tmp 25) (.cst (.d (.int .u64 1)))), none⟩,
          ⟨(some 27), (.bin .and (.tmp 24) (.tmp 26)), none⟩,
          ⟨(some 7), (.mv (.tmp 27)), none⟩] [])))))))) (
    .region false [⟨(some 38), (.bin .add (.tmp 16) (.cst (.d (.int .i64 1)))), none⟩, ⟨(some 16), (.mv (.tmp 38)), none⟩] []))))))) (
 .seq (
  .region false [⟨(some 39), (.mv (.tmp 5)), none⟩, ⟨(some 4), (.mv (.tmp 39)), none⟩] []) (
 .ret))))
def R_rel_Then : List LRes := [(.tmp 4)]
def V_rel_Then : List Nat := [0, 1, 5, 16, 15, 17, 6, 7, 23, 4]

def L_rel_size : LCode :=
 .seq (
  .region false [⟨(some 2), (.mv (.cst (.d (.int .i64 0)))), none⟩] []) (
 .seq (
  .region false [⟨(some 3), (.mv (.tmp 0)), none⟩,
    ⟨(some 4), (.len (.tmp 3)), none⟩,
    ⟨(some 5), (.mini (.tmp 4) (.cst (.d (.int .i64 64)))), none⟩,
    ⟨(some 2), (.mv (.tmp 5)), none⟩] []) (
 .ret))
def R_rel_size : List LRes := [(.tmp 2)]
def V_rel_size : List Nat := [0, 2]

def L_rel_row (n_rel_size : Nat) (n_rel_all : Nat) : LCode :=
 .seq (
  .region false [⟨(some 4), (.mv (.cst (.d (.int .u64 0)))), none⟩] []) (
 .seq (
  .seq (
   .region false [⟨(some 6), (.mv (.tmp 0)), none⟩,
     ⟨(some 7), (.call 0 false (.cst (.d (.fn n_rel_size))) [(.tmp 6)]), none⟩,
     ⟨(some 5), (.mv (.tmp 7)), none⟩] []) (
  .seq (
   .region false [⟨(some 8), (.mv (.tmp 1)), none⟩,
     ⟨(some 9), (.mv (.tmp 5)), none⟩,
     ⟨(some 10), (.bin .lss (.tmp 8) (.tmp 9)), none⟩] []) (
  .cond (.tmp 10) (
   .seq (
    .region true [⟨(some 11), (.mv (.tmp 0)), none⟩,
      ⟨(some 12), (.mv (.tmp 1)), none⟩,
      ⟨(some 13), (.idxAddr 1 (.tmp 11) (.tmp 12)), none⟩,
      ⟨(some 14), (.load false 1 (.tmp 13)), none⟩,
      ⟨(some 15), (.mv (.tmp 5)), none⟩,
      ⟨(some 16), (.call 0 false (.cst (.d (.fn n_rel_all))) [(.tmp 15)]), none⟩,
      ⟨(some 17), (.bin .and (.tmp 14) (.tmp 16)), none⟩,
      ⟨(some 4), (.mv (.tmp 17)), none⟩] [(3, 5)]) (
   .ret)) (
   .skip)))) (
 .seq (
  .region false [⟨(some 4), (.mv (.cst (.d (.int .u64 0)))), none⟩] []) (
 .ret)))
def R_rel_row : List LRes := [(.tmp 4)]
def V_rel_row : List Nat := [0, 1, 5, 10, 4]

def L_rel_lay (n_rel_size : Nat) (n_rel_row : Nat) : LCode :=
 .seq (
  .region false [⟨(some 6), (.mv (.cst (.d (.list [] true)))), none⟩] []) (
 .seq (
  .region false [⟨(some 9), (.mv (.tmp 0)), none⟩,
    ⟨(some 10), (.call 0 false (.cst (.d (.fn n_rel_size))) [(.tmp 9)]), none⟩,
    ⟨(some 11), (.mv (.tmp 1)), none⟩,
    ⟨(some 12), (.call 0 false (.cst (.d (.fn n_rel_size))) [(.tmp 11)]), none⟩,
    ⟨(some 13), (.maxi (.tmp 10) (.tmp 12)), none⟩,
    ⟨(some 14), (.mkslice 0 1 8 [(.d (.int .u64 0))] (.tmp 13) (.tmp 13)), none⟩,
    ⟨(some 7), (.mv (.tmp 14)), none⟩] []) (
 .seq (
  .seq (
   .region false [⟨(some 15), (.mv (.tmp 7)), none⟩,
     ⟨(some 16), (.len (.tmp 15)), none⟩,
     ⟨(some 17), (.mv (.cst (.d (.int .i64 0)))), none⟩] []) (
  .block 0 (
   .loop (
    .seq (
     .region false [⟨(some 18), (.bin .lss (.tmp 17) (.tmp 16)), none⟩] []) (
    .seq (
     .cond (.tmp 18) (
      .skip) (
      (.exit 0))) (
    .seq (
     .block 1 (
      .seq (
       .region false [⟨(some 19), (.mv (.tmp 17)), none⟩, ⟨(some 8), (.mv (.tmp 19)), none⟩] []) (
      .region false [⟨(some 20), (.mv (.tmp 7)), none⟩,
        ⟨(some 21), (.mv (.tmp 8)), none⟩,
        ⟨(some 22), (.mv (.tmp 2)), none⟩,
        ⟨(some 23), (.mv (.tmp 0)), none⟩,
        ⟨(some 24), (.mv (.tmp 8)), none⟩,
        ⟨(some 25), (.call 0 false (.cst (.d (.fn n_rel_row))) [(.tmp 23), (.tmp 24)]), none⟩,
        ⟨(some 26), (.mv (.tmp 1)), none⟩,
        ⟨(some 27), (.mv (.tmp 8)), none⟩,
        ⟨(some 28), (.call 0 false (.cst (.d (.fn n_rel_row))) [(.tmp 26), (.tmp 27)]), none⟩,
        ⟨(some 29), (.call 0 false (.tmp 22) [(.tmp 25), (.tmp 28)]), none⟩,
        ⟨(some 30), (.idxAddr 1 (.tmp 20) (.tmp 21)), none⟩,
        ⟨none, (.store 1 (.tmp 30) (.tmp 29)), none⟩] []))) (
    .region false [⟨(some 31), (.bin .add (.tmp 17) (.cst (.d (.int .i64 1)))), none⟩, ⟨(some 17), (.mv (.tmp 31)), none⟩] []))))))) (
 .seq (
  .region false [⟨(some 32), (.mv (.tmp 7)), none⟩, ⟨(some 6), (.mv (.tmp 32)), none⟩] []) (
 .ret))))
def R_rel_lay : List LRes := [(.tmp 6)]
def V_rel_lay : List Nat := [0, 1, 7, 17, 16, 18, 8, 2, 6]

def L_rel_Plus_1 : LCode :=
 .seq (
  .region false [⟨(some 4), (.mv (.cst (.d (.int .u64 0)))), none⟩] []) (
 .seq (
  .region false [⟨(some 5), (.mv (.tmp 0)), none⟩, ⟨(some 4), (.mv (.tmp 5)), none⟩] []) (
 .ret))
def R_rel_Plus_1 : List LRes := [(.tmp 4)]
def V_rel_Plus_1 : List Nat := [0, 4]

def L_rel_all : LCode :=
 .seq (
  .region false [⟨(some 2), (.mv (.cst (.d (.int .u64 0)))), none⟩] []) (
 .seq (
  .seq (
   .region false [⟨(some 3), (.mv (.tmp 0)), none⟩, ⟨(some 4), (.bin .geq (.tmp 3) (.cst (.d (.int .i64 64)))), none⟩] []) (
  .cond (.tmp 4) (
   .seq (
    .region false [⟨(some 2), (.mv (.cst (.d (.int .u64 18446744073709551615)))), none⟩] []) (
   .ret)) (
   .skip))) (
 .seq (
  .region false [⟨(some 5), (.mv (.tmp 0)), none⟩,
    ⟨(some 6), (.conv .u64 (.tmp 5)), none⟩,
    ⟨(some 7), (.bin .shl (.cst (.d (.int .u64 1))) (.tmp 6)), none⟩,
    ⟨(some 8), (.bin .sub (.tmp 7) (.cst (.d (.int .u64 1)))), none⟩,
    ⟨(some 2), (.mv (.tmp 8)), none⟩] []) (
 .ret)))
def R_rel_all : List LRes := [(.tmp 2)]
def V_rel_all : List Nat := [0, 4, 2]

end Go.Ago

/- Lowered functions of a package, callees by their numbers. Printed by a program of this session. Conditions: none. -/
set_option maxRecDepth 100000
set_option linter.unusedVariables false
namespace Go.Ago
def L_math_bits_TrailingZeros64 : LCode :=
 .seq (
  .region false [⟨(some 2), (.mv (.cst (.d (.int .i64 0)))), none⟩] []) (
 .seq (
  .seq (
   .region false [⟨(some 3), (.mv (.tmp 0)), none⟩, ⟨(some 4), (.bin .eql (.tmp 3) (.cst (.d (.int .u64 0)))), none⟩] []) (
  .cond (.tmp 4) (
   .seq (
    .region false [⟨(some 2), (.mv (.cst (.d (.int .i64 64)))), none⟩] []) (
   .ret)) (
   .skip))) (
 .seq (
  .region false [⟨(some 5), (.mv (.tmp 0)), none⟩,
    ⟨(some 6), (.mv (.tmp 0)), none⟩,
    ⟨(some 7), (.un .neg (.tmp 6)), none⟩,
    ⟨(some 8), (.bin .and (.tmp 5) (.tmp 7)), none⟩,
    ⟨(some 9), (.bin .mul (.tmp 8) (.cst (.d (.int .u64 285870213051353865)))), none⟩,
    ⟨(some 10), (.bin .shr (.tmp 9) (.cst (.d (.int .u64 58)))), none⟩,
    ⟨(some 11), (.idxArrAddr 64 1 (.cst (.dptr tabCells 0)) (.tmp 10)), none⟩,
    ⟨(some 12), (.load false 1 (.tmp 11)), none⟩,
    ⟨(some 13), (.conv .i64 (.tmp 12)), none⟩,
    ⟨(some 2), (.mv (.tmp 13)), none⟩] []) (
 .ret)))
def R_math_bits_TrailingZeros64 : List LRes := [(.tmp 2)]
def V_math_bits_TrailingZeros64 : List Nat := [0, 4, 2]

end Go.Ago

/- Lowered functions of a package, callees by their numbers. Printed by a program of this session. Conditions: none. -/
set_option maxRecDepth 100000
set_option linter.unusedVariables false
namespace Go.Ago
end Go.Ago

/- Lowered functions of a package, callees by their numbers. Printed by a program of this session. Conditions: none. -/
set_option maxRecDepth 100000
set_option linter.unusedVariables false
namespace Go.Ago
end Go.Ago

/- Lowered functions of a package, callees by their numbers. Printed by a program of this session. Conditions: none. -/
set_option maxRecDepth 100000
set_option linter.unusedVariables false
namespace Go.Ago
end Go.Ago

/- Lowered functions of a package, callees by their numbers. Printed by a program of this session. Conditions: none. -/
set_option maxRecDepth 100000
set_option linter.unusedVariables false
namespace Go.Ago
def L_cand_Nodes (n_cand_memory : Nat) : LCode :=
 .seq (
  .region false [⟨(some 4), (.mv (.cst (.d (.list [] true)))), none⟩, ⟨(some 5), (.mv (.cst (.d (.int .i64 0)))), none⟩] []) (
 .seq (
  .seq (
   .region false [⟨(some 13), (.mv (.tmp 0)), none⟩,
     ⟨(some 14), (.len (.tmp 13)), none⟩,
     ⟨(some 15), (.bin .gtr (.tmp 14) (.cst (.d (.int .i64 16)))), none⟩,
     ⟨(some 16), (.mv (.tmp 15)), none⟩,
     ⟨(some 17), (.mv (.tmp 1)), (some (16, false))⟩,
     ⟨(some 18), (.len (.tmp 17)), (some (16, false))⟩,
     ⟨(some 19), (.bin .gtr (.tmp 18) (.cst (.d (.int .i64 3)))), (some (16, false))⟩,
     ⟨(some 20), (.pick (.tmp 16) (.cst (.d (.bool true))) (.tmp 19)), none⟩] []) (
  .cond (.tmp 20) (
   .seq (
    .region false [⟨(some 4), (.mv (.cst (.d (.list [] true)))), none⟩, ⟨(some 5), (.mv (.cst (.d (.int .i64 1)))), none⟩] []) (
   .ret)) (
   .skip))) (
 .seq (
  .region false [⟨(some 6), (.mv (.cst (.d (.list [] true)))), none⟩] []) (
 .seq (
  .seq (
   .region false [⟨(some 21), (.mv (.tmp 0)), none⟩,
     ⟨(some 22), (.len (.tmp 21)), none⟩,
     ⟨(some 23), (.mv (.cst (.d (.int .i64 0)))), none⟩] []) (
  .block 0 (
   .loop (
    .seq (
     .region false [⟨(some 24), (.bin .lss (.tmp 23) (.tmp 22)), none⟩] []) (
    .seq (
     .cond (.tmp 24) (
      .skip) (
      (.exit 0))) (
    .seq (
     .block 1 (
      .seq (
       .region false [⟨(some 25), (.mv (.tmp 23)), none⟩,
         ⟨(some 26), (.idxAddr 2 (.tmp 21) (.tmp 23)), none⟩,
         ⟨(some 27), (.load true 2 (.tmp 26)), none⟩,
         ⟨(some 8), (.alloc 0 2 [(.d (.bool false)), (.d (.int .i64 0))]), none⟩,
         ⟨(some 7), (.mv (.tmp 25)), none⟩,
         ⟨none, (.store 2 (.tmp 8) (.tmp 27)), none⟩] []) (
      .region false [⟨(some 28), (.mv (.tmp 6)), none⟩,
        ⟨(some 29), (.mv (.tmp 7)), none⟩,
        ⟨(some 30), (.fieldAddr 1 (.tmp 8)), none⟩,
        ⟨(some 31), (.load false 1 (.tmp 30)), none⟩,
        ⟨(some 32), (.build [(.d (.int .i64 0)), (.d (.int .i64 0)), (.d (.int .i64 0)), (.d (.int .i64 0))] [(0, (1, (.cst (.d (.int .i64 (-1)))))), (1, (1, (.cst (.d (.int .i64 2))))), (2, (1, (.tmp 29))), (3, (1, (.tmp 31)))]), none⟩,
        ⟨(some 33), (.bslice 0 4 1 [(.d (.int .i64 0)), (.d (.int .i64 0)), (.d (.int .i64 0)), (.d (.int .i64 0))] [(0, (.tmp 32))]), none⟩,
        ⟨(some 34), (.append 1 4 32 (.tmp 28) (.tmp 33)), none⟩,
        ⟨(some 6), (.mv (.tmp 34)), none⟩] []))) (
    .region false [⟨(some 35), (.bin .add (.tmp 23) (.cst (.d (.int .i64 1)))), none⟩, ⟨(some 23), (.mv (.tmp 35)), none⟩] []))))))) (
 .seq (
  .seq (
   .region false [⟨(some 36), (.mv (.tmp 1)), none⟩,
     ⟨(some 37), (.len (.tmp 36)), none⟩,
     ⟨(some 38), (.mv (.cst (.d (.int .i64 0)))), none⟩] []) (
  .block 2 (
   .loop (
    .seq (
     .region false [⟨(some 39), (.bin .lss (.tmp 38) (.tmp 37)), none⟩] []) (
    .seq (
     .cond (.tmp 39) (
      .skip) (
      (.exit 2))) (
    .seq (
     .block 3 (
      .seq (
       .region false [⟨(some 40), (.mv (.tmp 38)), none⟩,
         ⟨(some 41), (.idxAddr 2 (.tmp 36) (.tmp 38)), none⟩,
         ⟨(some 42), (.load true 2 (.tmp 41)), none⟩,
         ⟨(some 10), (.alloc 0 2 [(.d (.list [] true)), (.d (.int .i64 0))]), none⟩,
         ⟨(some 9), (.mv (.tmp 40)), none⟩,
         ⟨none, (.store 2 (.tmp 10) (.tmp 42)), none⟩] []) (
      .seq (
       .region false [⟨(some 43), (.fieldAddr 0 (.tmp 10)), none⟩,
         ⟨(some 44), (.load false 1 (.tmp 43)), none⟩,
         ⟨(some 45), (.len (.tmp 44)), none⟩,
         ⟨(some 46), (.mv (.cst (.d (.int .i64 0)))), none⟩] []) (
      .block 4 (
       .loop (
        .seq (
         .region false [⟨(some 47), (.bin .lss (.tmp 46) (.tmp 45)), none⟩] []) (
        .seq (
         .cond (.tmp 47) (
          .skip) (
          (.exit 4))) (
        .seq (
         .block 5 (
          .seq (
           .region false [⟨(some 48), (.idxAddr 8 (.tmp 44) (.tmp 46)), none⟩,
             ⟨(some 49), (.load true 8 (.tmp 48)), none⟩,
             ⟨(some 12), (.alloc 0 8 [(.d (.int .i64 0)), (.d (.int .i64 0)), (.d (.int .i64 0)), (.d (.int .i64 0)), (.d (.int .u64 0)), (.d (.int .u64 0)), (.d (.int .u64 0)), (.d (.int .u64 0))]), none⟩,
             ⟨none, (.store 8 (.tmp 12) (.tmp 49)), none⟩] []) (
          .seq (
           .seq (
            .region false [⟨(some 50), (.load true 8 (.tmp 12)), none⟩,
              ⟨(some 51), (.call 0 false (.cst (.d (.fn n_cand_memory))) [(.tmp 50)]), none⟩,
              ⟨(some 52), (.un .not (.tmp 51)), none⟩] []) (
           .cond (.tmp 52) (
            (.exit 5)) (
            .skip))) (
          .seq (
           .seq (
            .region false [⟨(some 53), (.fieldAddr 1 (.tmp 12)), none⟩,
              ⟨(some 54), (.load false 1 (.tmp 53)), none⟩,
              ⟨(some 55), (.bin .lss (.tmp 54) (.cst (.d (.int .i64 0)))), none⟩,
              ⟨(some 56), (.mv (.tmp 55)), none⟩,
              ⟨(some 57), (.fieldAddr 1 (.tmp 12)), (some (56, false))⟩,
              ⟨(some 58), (.load false 1 (.tmp 57)), (some (56, false))⟩,
              ⟨(some 59), (.mv (.tmp 0)), (some (56, false))⟩,
              ⟨(some 60), (.len (.tmp 59)), (some (56, false))⟩,
              ⟨(some 61), (.bin .geq (.tmp 58) (.tmp 60)), (some (56, false))⟩,
              ⟨(some 62), (.pick (.tmp 56) (.cst (.d (.bool true))) (.tmp 61)), none⟩] []) (
           .cond (.tmp 62) (
            .seq (
             .region false [⟨(some 4), (.mv (.cst (.d (.list [] true)))), none⟩, ⟨(some 5), (.mv (.cst (.d (.int .i64 3)))), none⟩] []) (
            .ret)) (
            .skip))) (
          .seq (
           .region false [⟨(some 63), (.mv (.tmp 6)), none⟩,
             ⟨(some 64), (.len (.tmp 63)), none⟩,
             ⟨(some 65), (.bin .leq (.tmp 64) (.cst (.d (.int .i64 64)))), none⟩] []) (
          .cond (.tmp 65) (
           .region false [⟨(some 66), (.mv (.tmp 6)), none⟩,
             ⟨(some 67), (.mv (.tmp 9)), none⟩,
             ⟨(some 68), (.fieldAddr 0 (.tmp 12)), none⟩,
             ⟨(some 69), (.load false 1 (.tmp 68)), none⟩,
             ⟨(some 70), (.fieldAddr 1 (.tmp 12)), none⟩,
             ⟨(some 71), (.load false 1 (.tmp 70)), none⟩,
             ⟨(some 72), (.fieldAddr 2 (.tmp 12)), none⟩,
             ⟨(some 73), (.load false 1 (.tmp 72)), none⟩,
             ⟨(some 74), (.build [(.d (.int .i64 0)), (.d (.int .i64 0)), (.d (.int .i64 0)), (.d (.int .i64 0))] [(0, (1, (.tmp 67))), (1, (1, (.tmp 69))), (2, (1, (.tmp 71))), (3, (1, (.tmp 73)))]), none⟩,
             ⟨(some 75), (.bslice 0 4 1 [(.d (.int .i64 0)), (.d (.int .i64 0)), (.d (.int .i64 0)), (.d (.int .i64 0))] [(0, (.tmp 74))]), none⟩,
             ⟨(some 76), (.append 1 4 32 (.tmp 66) (.tmp 75)), none⟩,
             ⟨(some 6), (.mv (.tmp 76)), none⟩] []) (
           .skip))))))) (
        .region false [⟨(some 77), (.bin .add (.tmp 46) (.cst (.d (.int .i64 1)))), none⟩, ⟨(some 46), (.mv (.tmp 77)), none⟩] []))))))))) (
    .region false [⟨(some 78), (.bin .add (.tmp 38) (.cst (.d (.int .i64 1)))), none⟩, ⟨(some 38), (.mv (.tmp 78)), none⟩] []))))))) (
 .seq (
  .seq (
   .region false [⟨(some 79), (.mv (.tmp 6)), none⟩,
     ⟨(some 80), (.len (.tmp 79)), none⟩,
     ⟨(some 81), (.bin .gtr (.tmp 80) (.cst (.d (.int .i64 64)))), none⟩] []) (
  .cond (.tmp 81) (
   .seq (
    .region false [⟨(some 4), (.mv (.cst (.d (.list [] true)))), none⟩, ⟨(some 5), (.mv (.cst (.d (.int .i64 15)))), none⟩] []) (
   .ret)) (
   .skip))) (
 .seq (
  .region false [⟨(some 82), (.mv (.tmp 6)), none⟩,
    ⟨(some 4), (.mv (.tmp 82)), none⟩,
    ⟨(some 5), (.mv (.cst (.d (.int .i64 0)))), none⟩] []) (
 .ret)))))))
def R_cand_Nodes : List LRes := [(.tmp 4), (.tmp 5)]
def V_cand_Nodes : List Nat := [0, 1, 20, 23, 22, 24, 21, 6, 7, 8, 38, 37, 39, 36, 10, 46, 45, 47, 44, 12, 52, 62, 65, 9, 81, 4, 5]

def L_cand_Build (n_cand_Nodes : Nat) (n_cand_readers : Nat) (n_cand_follows : Nat) (n_cand_pairs_rel : Nat) (n_rel_Then : Nat) (n_rel_Back : Nat) (n_cand_within : Nat) : LCode :=
 .seq (
  .region false [⟨(some 8), (.alloc 0 12 [(.d (.list [] true)), (.d (.list [] true)), (.d (.list [] true)), (.d (.list [] true)), (.d (.list [] true)), (.d (.list [] true)), (.d (.list [] true)), (.d (.list [] true)), (.d (.list [] true)), (.d (.list [] true)), (.d (.list [] true)), (.d (.list [] true))]), none⟩, ⟨(some 9), (.mv (.cst (.d (.int .i64 0)))), none⟩] []) (
 .seq (
  .region false [⟨(some 18), (.mv (.tmp 0)), none⟩,
    ⟨(some 19), (.mv (.tmp 1)), none⟩,
    ⟨(some 20), (.call 0 false (.cst (.d (.fn n_cand_Nodes))) [(.tmp 18), (.tmp 19)]), none⟩,
    ⟨(some 17), (.mv (.tmp 20)), none⟩,
    ⟨(some 21), (.extract 0 (.tmp 17)), none⟩,
    ⟨(some 22), (.extract 1 (.tmp 17)), none⟩,
    ⟨(some 10), (.mv (.tmp 21)), none⟩,
    ⟨(some 11), (.mv (.tmp 22)), none⟩] []) (
 .seq (
  .seq (
   .region false [⟨(some 23), (.mv (.tmp 11)), none⟩, ⟨(some 24), (.bin .neq (.tmp 23) (.cst (.d (.int .i64 0)))), none⟩] []) (
  .cond (.tmp 24) (
   .seq (
    .region false [⟨(some 25), (.build [(.d (.list [] true)), (.d (.list [] true)), (.d (.list [] true)), (.d (.list [] true)), (.d (.list [] true)), (.d (.list [] true)), (.d (.list [] true)), (.d (.list [] true)), (.d (.list [] true)), (.d (.list [] true)), (.d (.list [] true)), (.d (.list [] true))] []), none⟩,
      ⟨(some 26), (.mv (.tmp 11)), none⟩,
      ⟨none, (.store 12 (.tmp 8) (.tmp 25)), none⟩,
      ⟨(some 9), (.mv (.tmp 26)), none⟩] []) (
   .ret)) (
   .skip))) (
 .seq (
  .region false [⟨(some 28), (.mv (.tmp 10)), none⟩,
    ⟨(some 29), (.mv (.tmp 2)), none⟩,
    ⟨(some 30), (.call 0 false (.cst (.d (.fn n_cand_readers))) [(.tmp 28), (.tmp 29)]), none⟩,
    ⟨(some 27), (.mv (.tmp 30)), none⟩,
    ⟨(some 31), (.extract 0 (.tmp 27)), none⟩,
    ⟨(some 32), (.extract 1 (.tmp 27)), none⟩,
    ⟨(some 12), (.mv (.tmp 31)), none⟩,
    ⟨(some 13), (.mv (.tmp 32)), none⟩] []) (
 .seq (
  .region false [⟨(some 34), (.mv (.tmp 10)), none⟩,
    ⟨(some 35), (.mv (.tmp 0)), none⟩,
    ⟨(some 36), (.len (.tmp 35)), none⟩,
    ⟨(some 37), (.mv (.tmp 3)), none⟩,
    ⟨(some 38), (.call 0 false (.cst (.d (.fn n_cand_follows))) [(.tmp 34), (.tmp 36), (.tmp 37)]), none⟩,
    ⟨(some 33), (.mv (.tmp 38)), none⟩,
    ⟨(some 39), (.extract 0 (.tmp 33)), none⟩,
    ⟨(some 40), (.extract 1 (.tmp 33)), none⟩,
    ⟨(some 14), (.mv (.tmp 39)), none⟩,
    ⟨(some 15), (.mv (.tmp 40)), none⟩] []) (
 .seq (
  .seq (
   .region false [⟨(some 41), (.mv (.tmp 13)), none⟩,
     ⟨(some 42), (.un .not (.tmp 41)), none⟩,
     ⟨(some 43), (.mv (.tmp 42)), none⟩,
     ⟨(some 44), (.mv (.tmp 15)), (some (43, false))⟩,
     ⟨(some 45), (.un .not (.tmp 44)), (some (43, false))⟩,
     ⟨(some 46), (.pick (.tmp 43) (.cst (.d (.bool true))) (.tmp 45)), none⟩] []) (
  .cond (.tmp 46) (
   .seq (
    .region false [⟨(some 47), (.build [(.d (.list [] true)), (.d (.list [] true)), (.d (.list [] true)), (.d (.list [] true)), (.d (.list [] true)), (.d (.list [] true)), (.d (.list [] true)), (.d (.list [] true)), (.d (.list [] true)), (.d (.list [] true)), (.d (.list [] true)), (.d (.list [] true))] []), none⟩,
      ⟨none, (.store 12 (.tmp 8) (.tmp 47)), none⟩,
      ⟨(some 9), (.mv (.cst (.d (.int .i64 3)))), none⟩] []) (
   .ret)) (
   .skip))) (
 .seq (
  .region false [⟨(some 48), (.mv (.tmp 10)), none⟩,
    ⟨(some 49), (.mv (.tmp 12)), none⟩,
    ⟨(some 50), (.mv (.tmp 10)), none⟩,
    ⟨(some 51), (.len (.tmp 50)), none⟩,
    ⟨(some 52), (.call 0 true (.cst (.d (.fn n_cand_pairs_rel))) [(.tmp 49), (.tmp 51)]), none⟩,
    ⟨(some 53), (.mv (.tmp 14)), none⟩,
    ⟨(some 54), (.mv (.tmp 10)), none⟩,
    ⟨(some 55), (.len (.tmp 54)), none⟩,
    ⟨(some 56), (.call 1 true (.cst (.d (.fn n_cand_pairs_rel))) [(.tmp 53), (.tmp 55)]), none⟩,
    ⟨(some 57), (.build [(.d (.list [] true)), (.d (.list [] true)), (.d (.list [] true)), (.d (.list [] true)), (.d (.list [] true)), (.d (.list [] true)), (.d (.list [] true)), (.d (.list [] true)), (.d (.list [] true)), (.d (.list [] true)), (.d (.list [] true)), (.d (.list [] true))] [(0, (1, (.tmp 48))), (2, (1, (.tmp 52))), (3, (1, (.tmp 56)))]), none⟩,
    ⟨(some 16), (.alloc 2 12 [(.d (.list [] true)), (.d (.list [] true)), (.d (.list [] true)), (.d (.list [] true)), (.d (.list [] true)), (.d (.list [] true)), (.d (.list [] true)), (.d (.list [] true)), (.d (.list [] true)), (.d (.list [] true)), (.d (.list [] true)), (.d (.list [] true))]), none⟩,
    ⟨none, (.store 12 (.tmp 16) (.tmp 57)), none⟩] []) (
 .seq (
  .region true [⟨(some 58), (.fieldAddr 2 (.tmp 16)), none⟩,
    ⟨(some 59), (.load false 1 (.tmp 58)), none⟩,
    ⟨(some 60), (.call 0 true (.cst (.d (.fn n_rel_Back))) [(.tmp 59)]), none⟩,
    ⟨(some 61), (.fieldAddr 3 (.tmp 16)), none⟩,
    ⟨(some 62), (.load false 1 (.tmp 61)), none⟩,
    ⟨(some 63), (.call 1 true (.cst (.d (.fn n_rel_Then))) [(.tmp 60), (.tmp 62)]), none⟩,
    ⟨(some 64), (.fieldAddr 4 (.tmp 16)), none⟩,
    ⟨none, (.store 1 (.tmp 64) (.tmp 63)), none⟩] [(2, 4)]) (
 .seq (
  .region false [⟨(some 65), (.mv (.tmp 0)), none⟩,
    ⟨(some 66), (.len (.tmp 65)), none⟩,
    ⟨(some 67), (.mv (.tmp 1)), none⟩,
    ⟨(some 68), (.call 0 false (.cst (.d (.fn n_cand_within))) [(.tmp 16), (.tmp 66), (.tmp 67)]), none⟩] []) (
 .seq (
  .region false [⟨(some 69), (.load true 12 (.tmp 16)), none⟩,
    ⟨none, (.store 12 (.tmp 8) (.tmp 69)), none⟩,
    ⟨(some 9), (.mv (.cst (.d (.int .i64 0)))), none⟩] []) (
 .ret))))))))))
def R_cand_Build : List LRes := [(.cell 8 true 12), (.tmp 9)]
def V_cand_Build : List Nat := [0, 1, 11, 24, 8, 10, 2, 3, 13, 15, 46, 12, 14, 16, 9]

def L_cand_memory : LCode :=
 .seq (
  .region false [⟨(some 1), (.box 0 (.tmp 0)), none⟩, ⟨(some 2), (.mv (.cst (.d (.bool false)))), none⟩] []) (
 .seq (
  .region false [⟨(some 3), (.fieldAddr 0 (.tmp 1)), none⟩,
    ⟨(some 4), (.load false 1 (.tmp 3)), none⟩,
    ⟨(some 5), (.bin .eql (.tmp 4) (.cst (.d (.int .i64 1)))), none⟩,
    ⟨(some 6), (.mv (.tmp 5)), none⟩,
    ⟨(some 7), (.fieldAddr 0 (.tmp 1)), (some (6, false))⟩,
    ⟨(some 8), (.load false 1 (.tmp 7)), (some (6, false))⟩,
    ⟨(some 9), (.bin .eql (.tmp 8) (.cst (.d (.int .i64 2)))), (some (6, false))⟩,
    ⟨(some 10), (.pick (.tmp 6) (.cst (.d (.bool true))) (.tmp 9)), none⟩,
    ⟨(some 2), (.mv (.tmp 10)), none⟩] []) (
 .ret))
def R_cand_memory : List LRes := [(.tmp 2)]
def V_cand_memory : List Nat := [0, 1, 2]

def L_cand_readers (n_cand_pairs_add : Nat) : LCode :=
 .seq (
  .region false [⟨(some 4), (.mv (.cst (.d (.list [] true)))), none⟩, ⟨(some 5), (.mv (.cst (.d (.bool false)))), none⟩] []) (
 .seq (
  .region false [⟨(some 6), (.alloc 0 1 [(.d (.list [] true))]), none⟩] []) (
 .seq (
  .seq (
   .region false [⟨(some 10), (.mv (.tmp 0)), none⟩,
     ⟨(some 11), (.len (.tmp 10)), none⟩,
     ⟨(some 12), (.mv (.cst (.d (.int .i64 0)))), none⟩] []) (
  .block 0 (
   .loop (
    .seq (
     .region false [⟨(some 13), (.bin .lss (.tmp 12) (.tmp 11)), none⟩] []) (
    .seq (
     .cond (.tmp 13) (
      .skip) (
      (.exit 0))) (
    .seq (
     .block 1 (
      .seq (
       .region false [⟨(some 14), (.mv (.tmp 12)), none⟩,
         ⟨(some 15), (.idxAddr 4 (.tmp 10) (.tmp 12)), none⟩,
         ⟨(some 16), (.load true 4 (.tmp 15)), none⟩,
         ⟨(some 8), (.alloc 0 4 [(.d (.int .i64 0)), (.d (.int .i64 0)), (.d (.int .i64 0)), (.d (.int .i64 0))]), none⟩,
         ⟨(some 7), (.mv (.tmp 14)), none⟩,
         ⟨none, (.store 4 (.tmp 8) (.tmp 16)), none⟩] []) (
      .seq (
       .seq (
        .region false [⟨(some 17), (.fieldAddr 1 (.tmp 8)), none⟩,
          ⟨(some 18), (.load false 1 (.tmp 17)), none⟩,
          ⟨(some 19), (.bin .neq (.tmp 18) (.cst (.d (.int .i64 1)))), none⟩] []) (
       .cond (.tmp 19) (
        (.exit 1)) (
        .skip))) (
      .seq (
       .seq (
        .region false [⟨(some 20), (.mv (.tmp 1)), none⟩,
          ⟨(some 21), (.len (.tmp 20)), none⟩,
          ⟨(some 22), (.bin .eql (.tmp 21) (.cst (.d (.int .i64 0)))), none⟩] []) (
       .cond (.tmp 22) (
        .seq (
         .region false [⟨(some 4), (.mv (.cst (.d (.list [] true)))), none⟩, ⟨(some 5), (.mv (.cst (.d (.bool false)))), none⟩] []) (
        .ret)) (
        .skip))) (
      .seq (
       .region false [⟨(some 23), (.mv (.tmp 1)), none⟩,
         ⟨(some 24), (.idxAddr 1 (.tmp 23) (.cst (.d (.int .i64 0)))), none⟩,
         ⟨(some 25), (.load false 1 (.tmp 24)), none⟩,
         ⟨(some 9), (.mv (.tmp 25)), none⟩] []) (
      .seq (
       .region false [⟨(some 26), (.mv (.tmp 1)), none⟩,
         ⟨(some 27), (.slice 1 (.tmp 26) (some (.cst (.d (.int .i64 1)))) none none), none⟩,
         ⟨(some 1), (.mv (.tmp 27)), none⟩] []) (
      .seq (
       .seq (
        .region true [⟨(some 28), (.mv (.tmp 9)), none⟩,
          ⟨(some 29), (.bin .lss (.tmp 28) (.cst (.d (.int .i64 0)))), none⟩,
          ⟨(some 30), (.mv (.tmp 29)), none⟩,
          ⟨(some 31), (.mv (.tmp 9)), (some (30, false))⟩,
          ⟨(some 32), (.mv (.tmp 0)), (some (30, false))⟩,
          ⟨(some 33), (.len (.tmp 32)), (some (30, false))⟩,
          ⟨(some 34), (.bin .geq (.tmp 31) (.tmp 33)), (some (30, false))⟩,
          ⟨(some 35), (.pick (.tmp 30) (.cst (.d (.bool true))) (.tmp 34)), none⟩,
          ⟨(some 36), (.mv (.tmp 35)), none⟩,
          ⟨(some 37), (.mv (.tmp 0)), (some (36, false))⟩,
          ⟨(some 38), (.mv (.tmp 9)), (some (36, false))⟩,
          ⟨(some 39), (.idxAddr 4 (.tmp 37) (.tmp 38)), (some (36, false))⟩,
          ⟨(some 40), (.fieldAddr 1 (.tmp 39)), (some (36, false))⟩,
          ⟨(some 41), (.load false 1 (.tmp 40)), (some (36, false))⟩,
          ⟨(some 42), (.bin .neq (.tmp 41) (.cst (.d (.int .i64 2)))), (some (36, false))⟩,
          ⟨(some 43), (.pick (.tmp 36) (.cst (.d (.bool true))) (.tmp 42)), none⟩,
          ⟨(some 44), (.mv (.tmp 43)), none⟩,
          ⟨(some 45), (.mv (.tmp 0)), (some (44, false))⟩,
          ⟨(some 46), (.mv (.tmp 9)), (some (44, false))⟩,
          ⟨(some 47), (.idxAddr 4 (.tmp 45) (.tmp 46)), (some (44, false))⟩,
          ⟨(some 48), (.fieldAddr 2 (.tmp 47)), (some (44, false))⟩,
          ⟨(some 49), (.load false 1 (.tmp 48)), (some (44, false))⟩,
          ⟨(some 50), (.fieldAddr 2 (.tmp 8)), (some (44, false))⟩,
          ⟨(some 51), (.load false 1 (.tmp 50)), (some (44, false))⟩,
          ⟨(some 52), (.bin .neq (.tmp 49) (.tmp 51)), (some (44, false))⟩,
          ⟨(some 53), (.pick (.tmp 44) (.cst (.d (.bool true))) (.tmp 52)), none⟩,
          ⟨(some 54), (.mv (.tmp 53)), none⟩,
          ⟨(some 55), (.mv (.tmp 0)), (some (54, false))⟩,
          ⟨(some 56), (.mv (.tmp 9)), (some (54, false))⟩,
          ⟨(some 57), (.idxAddr 4 (.tmp 55) (.tmp 56)), (some (54, false))⟩,
          ⟨(some 58), (.fieldAddr 3 (.tmp 57)), (some (54, false))⟩,
          ⟨(some 59), (.load false 1 (.tmp 58)), (some (54, false))⟩,
          ⟨(some 60), (.fieldAddr 3 (.tmp 8)), (some (54, false))⟩,
          ⟨(some 61), (.load false 1 (.tmp 60)), (some (54, false))⟩,
          ⟨(some 62), (.bin .neq (.tmp 59) (.tmp 61)), (some (54, false))⟩,
          ⟨(some 63), (.pick (.tmp 54) (.cst (.d (.bool true))) (.tmp 62)), none⟩] []) (
       .cond (.tmp 63) (
        .seq (
         .region false [⟨(some 4), (.mv (.cst (.d (.list [] true)))), none⟩, ⟨(some 5), (.mv (.cst (.d (.bool false)))), none⟩] []) (
        .ret)) (
        .skip))) (
      .region false [⟨(some 64), (.mv (.tmp 9)), none⟩,
        ⟨(some 65), (.mv (.tmp 7)), none⟩,
        ⟨(some 66), (.call 0 false (.cst (.d (.fn n_cand_pairs_add))) [(.tmp 6), (.tmp 64), (.tmp 65)]), none⟩] [])))))))) (
    .region false [⟨(some 67), (.bin .add (.tmp 12) (.cst (.d (.int .i64 1)))), none⟩, ⟨(some 12), (.mv (.tmp 67)), none⟩] []))))))) (
 .seq (
  .region false [⟨(some 68), (.load false 1 (.tmp 6)), none⟩,
    ⟨(some 69), (.mv (.tmp 1)), none⟩,
    ⟨(some 70), (.len (.tmp 69)), none⟩,
    ⟨(some 71), (.bin .eql (.tmp 70) (.cst (.d (.int .i64 0)))), none⟩,
    ⟨(some 4), (.mv (.tmp 68)), none⟩,
    ⟨(some 5), (.mv (.tmp 71)), none⟩] []) (
 .ret))))
def R_cand_readers : List LRes := [(.tmp 4), (.tmp 5)]
def V_cand_readers : List Nat := [0, 12, 11, 13, 10, 8, 19, 1, 22, 9, 63, 7, 6, 4, 5]

def L_cand_follows (n_cand_pairs_add : Nat) (n_slices_Clone_int : Nat) (n_slices_Sort_int : Nat) (n_slices_Equal_int : Nat) : LCode :=
 .seq (
  .region false [⟨(some 6), (.mv (.cst (.d (.list [] true)))), none⟩, ⟨(some 7), (.mv (.cst (.d (.bool false)))), none⟩] []) (
 .seq (
  .seq (
   .region false [⟨(some 19), (.mv (.tmp 2)), none⟩,
     ⟨(some 20), (.len (.tmp 19)), none⟩,
     ⟨(some 21), (.mv (.tmp 1)), none⟩,
     ⟨(some 22), (.bin .neq (.tmp 20) (.tmp 21)), none⟩] []) (
  .cond (.tmp 22) (
   .seq (
    .region false [⟨(some 6), (.mv (.cst (.d (.list [] true)))), none⟩, ⟨(some 7), (.mv (.cst (.d (.bool false)))), none⟩] []) (
   .ret)) (
   .skip))) (
 .seq (
  .region false [⟨(some 8), (.alloc 0 1 [(.d (.list [] true))]), none⟩] []) (
 .seq (
  .seq (
   .region false [⟨(some 23), (.mv (.tmp 2)), none⟩,
     ⟨(some 24), (.len (.tmp 23)), none⟩,
     ⟨(some 25), (.mv (.cst (.d (.int .i64 0)))), none⟩] []) (
  .block 0 (
   .loop (
    .seq (
     .region false [⟨(some 26), (.bin .lss (.tmp 25) (.tmp 24)), none⟩] []) (
    .seq (
     .cond (.tmp 26) (
      .skip) (
      (.exit 0))) (
    .seq (
     .block 1 (
      .seq (
       .region false [⟨(some 27), (.mv (.tmp 25)), none⟩,
         ⟨(some 28), (.idxAddr 1 (.tmp 23) (.tmp 25)), none⟩,
         ⟨(some 29), (.load false 1 (.tmp 28)), none⟩,
         ⟨(some 9), (.mv (.tmp 27)), none⟩,
         ⟨(some 10), (.mv (.tmp 29)), none⟩] []) (
      .seq (
       .region false [⟨(some 11), (.mv (.cst (.d (.list [] true)))), none⟩] []) (
      .seq (
       .seq (
        .region false [⟨(some 30), (.mv (.tmp 0)), none⟩,
          ⟨(some 31), (.mv (.tmp 1)), none⟩,
          ⟨(some 32), (.slice 4 (.tmp 30) (some (.tmp 31)) none none), none⟩,
          ⟨(some 33), (.len (.tmp 32)), none⟩,
          ⟨(some 34), (.mv (.cst (.d (.int .i64 0)))), none⟩] []) (
       .block 2 (
        .loop (
         .seq (
          .region false [⟨(some 35), (.bin .lss (.tmp 34) (.tmp 33)), none⟩] []) (
         .seq (
          .cond (.tmp 35) (
           .skip) (
           (.exit 2))) (
         .seq (
          .block 3 (
           .seq (
            .region false [⟨(some 36), (.mv (.tmp 34)), none⟩,
              ⟨(some 37), (.idxAddr 4 (.tmp 32) (.tmp 34)), none⟩,
              ⟨(some 38), (.load true 4 (.tmp 37)), none⟩,
              ⟨(some 13), (.alloc 0 4 [(.d (.int .i64 0)), (.d (.int .i64 0)), (.d (.int .i64 0)), (.d (.int .i64 0))]), none⟩,
              ⟨(some 12), (.mv (.tmp 36)), none⟩,
              ⟨none, (.store 4 (.tmp 13) (.tmp 38)), none⟩] []) (
           .seq (
            .region false [⟨(some 39), (.fieldAddr 1 (.tmp 13)), none⟩,
              ⟨(some 40), (.load false 1 (.tmp 39)), none⟩,
              ⟨(some 41), (.bin .eql (.tmp 40) (.cst (.d (.int .i64 2)))), none⟩,
              ⟨(some 42), (.mv (.tmp 41)), none⟩,
              ⟨(some 43), (.fieldAddr 2 (.tmp 13)), (some (42, true))⟩,
              ⟨(some 44), (.load false 1 (.tmp 43)), (some (42, true))⟩,
              ⟨(some 45), (.mv (.tmp 9)), (some (42, true))⟩,
              ⟨(some 46), (.bin .eql (.tmp 44) (.tmp 45)), (some (42, true))⟩,
              ⟨(some 47), (.pick (.tmp 42) (.tmp 46) (.cst (.d (.bool false)))), none⟩] []) (
           .cond (.tmp 47) (
            .region false [⟨(some 48), (.mv (.tmp 11)), none⟩,
              ⟨(some 49), (.mv (.tmp 12)), none⟩,
              ⟨(some 50), (.mv (.tmp 1)), none⟩,
              ⟨(some 51), (.bin .add (.tmp 49) (.tmp 50)), none⟩,
              ⟨(some 52), (.bslice 0 1 1 [(.d (.int .i64 0))] [(0, (.tmp 51))]), none⟩,
              ⟨(some 53), (.append 1 1 8 (.tmp 48) (.tmp 52)), none⟩,
              ⟨(some 11), (.mv (.tmp 53)), none⟩] []) (
            .skip))))) (
         .region false [⟨(some 54), (.bin .add (.tmp 34) (.cst (.d (.int .i64 1)))), none⟩, ⟨(some 34), (.mv (.tmp 54)), none⟩] []))))))) (
      .seq (
       .region false [⟨(some 55), (.mv (.tmp 10)), none⟩,
         ⟨(some 56), (.call 0 true (.cst (.d (.fn n_slices_Clone_int))) [(.tmp 55)]), none⟩,
         ⟨(some 14), (.mv (.tmp 56)), none⟩] []) (
      .seq (
       .region false [⟨(some 57), (.mv (.tmp 14)), none⟩, ⟨(some 58), (.call 0 false (.cst (.d (.fn n_slices_Sort_int))) [(.tmp 57)]), none⟩] []) (
      .seq (
       .seq (
        .region false [⟨(some 59), (.mv (.tmp 14)), none⟩,
          ⟨(some 60), (.mv (.tmp 11)), none⟩,
          ⟨(some 61), (.call 0 false (.cst (.d (.fn n_slices_Equal_int))) [(.tmp 59), (.tmp 60)]), none⟩,
          ⟨(some 62), (.un .not (.tmp 61)), none⟩] []) (
       .cond (.tmp 62) (
        .seq (
         .region false [⟨(some 6), (.mv (.cst (.d (.list [] true)))), none⟩, ⟨(some 7), (.mv (.cst (.d (.bool false)))), none⟩] []) (
        .ret)) (
        .skip))) (
      .seq (
       .region false [⟨(some 63), (.mv (.tmp 10)), none⟩,
         ⟨(some 64), (.len (.tmp 63)), none⟩,
         ⟨(some 65), (.mv (.cst (.d (.int .i64 0)))), none⟩] []) (
      .block 4 (
       .loop (
        .seq (
         .region false [⟨(some 66), (.bin .lss (.tmp 65) (.tmp 64)), none⟩] []) (
        .seq (
         .cond (.tmp 66) (
          .skip) (
          (.exit 4))) (
        .seq (
         .block 5 (
          .seq (
           .region false [⟨(some 67), (.mv (.tmp 65)), none⟩,
             ⟨(some 68), (.idxAddr 1 (.tmp 63) (.tmp 65)), none⟩,
             ⟨(some 69), (.load false 1 (.tmp 68)), none⟩,
             ⟨(some 15), (.mv (.tmp 67)), none⟩,
             ⟨(some 16), (.mv (.tmp 69)), none⟩] []) (
          .seq (
           .region false [⟨(some 70), (.mv (.tmp 9)), none⟩,
             ⟨(some 71), (.mv (.tmp 16)), none⟩,
             ⟨(some 72), (.call 0 false (.cst (.d (.fn n_cand_pairs_add))) [(.tmp 8), (.tmp 70), (.tmp 71)]), none⟩] []) (
          .seq (
           .region false [⟨(some 73), (.mv (.tmp 10)), none⟩,
             ⟨(some 74), (.mv (.tmp 15)), none⟩,
             ⟨(some 75), (.slice 1 (.tmp 73) none (some (.tmp 74)) none), none⟩,
             ⟨(some 76), (.len (.tmp 75)), none⟩,
             ⟨(some 77), (.mv (.cst (.d (.int .i64 0)))), none⟩] []) (
          .block 6 (
           .loop (
            .seq (
             .region false [⟨(some 78), (.bin .lss (.tmp 77) (.tmp 76)), none⟩] []) (
            .seq (
             .cond (.tmp 78) (
              .skip) (
              (.exit 6))) (
            .seq (
             .block 7 (
              .seq (
               .region false [⟨(some 79), (.idxAddr 1 (.tmp 75) (.tmp 77)), none⟩,
                 ⟨(some 80), (.load false 1 (.tmp 79)), none⟩,
                 ⟨(some 18), (.mv (.tmp 80)), none⟩] []) (
              .region false [⟨(some 81), (.mv (.tmp 18)), none⟩,
                ⟨(some 82), (.mv (.tmp 16)), none⟩,
                ⟨(some 83), (.call 0 false (.cst (.d (.fn n_cand_pairs_add))) [(.tmp 8), (.tmp 81), (.tmp 82)]), none⟩] []))) (
            .region false [⟨(some 84), (.bin .add (.tmp 77) (.cst (.d (.int .i64 1)))), none⟩, ⟨(some 77), (.mv (.tmp 84)), none⟩] [])))))))))) (
        .region false [⟨(some 85), (.bin .add (.tmp 65) (.cst (.d (.int .i64 1)))), none⟩, ⟨(some 65), (.mv (.tmp 85)), none⟩] [])))))))))))))) (
    .region false [⟨(some 86), (.bin .add (.tmp 25) (.cst (.d (.int .i64 1)))), none⟩, ⟨(some 25), (.mv (.tmp 86)), none⟩] []))))))) (
 .seq (
  .region false [⟨(some 87), (.load false 1 (.tmp 8)), none⟩,
    ⟨(some 6), (.mv (.tmp 87)), none⟩,
    ⟨(some 7), (.mv (.cst (.d (.bool true)))), none⟩] []) (
 .ret)))))
def R_cand_follows : List LRes := [(.tmp 6), (.tmp 7)]
def V_cand_follows : List Nat := [2, 1, 22, 25, 24, 26, 23, 0, 34, 33, 35, 32, 13, 9, 47, 11, 12, 10, 14, 62, 65, 64, 66, 63, 16, 8, 15, 77, 76, 78, 75, 18, 6, 7]

def L_cand_pairs_rel (n_rel_Of : Nat) : LCode :=
 .seq (
  .region false [⟨(some 4), (.mv (.cst (.d (.list [] true)))), none⟩] []) (
 .seq (
  .region false [⟨(some 8), (.mv (.tmp 1)), none⟩,
    ⟨(some 9), (.mv (.tmp 0)), none⟩,
    ⟨(some 10), (.call 0 false (.cst (.d (.fn n_rel_Of))) [(.tmp 8), (.tmp 9)]), none⟩,
    ⟨(some 7), (.mv (.tmp 10)), none⟩,
    ⟨(some 11), (.extract 0 (.tmp 7)), none⟩,
    ⟨(some 12), (.extract 1 (.tmp 7)), none⟩,
    ⟨(some 5), (.mv (.tmp 11)), none⟩,
    ⟨(some 6), (.mv (.tmp 12)), none⟩] []) (
 .seq (
  .region false [⟨(some 13), (.mv (.tmp 5)), none⟩, ⟨(some 4), (.mv (.tmp 13)), none⟩] []) (
 .ret)))
def R_cand_pairs_rel : List LRes := [(.tmp 4)]
def V_cand_pairs_rel : List Nat := [1, 0, 5, 4]

def L_cand_within_y (n_cand_pairs_add : Nat) : LCode :=
 .seq (
                  .region false [⟨(some 113), (.bin .lss (.tmp 112) (.tmp 111)), none⟩] []) (
                 .seq (
                  .cond (.tmp 113) (
                   .skip) (
                   (.exit 7))) (
                 .seq (
                  .block 8 (
                   .seq (
                    .region false [⟨(some 114), (.idxAddr 2 (.tmp 110) (.tmp 112)), none⟩,
                      ⟨(some 115), (.load true 2 (.tmp 114)), none⟩,
                      ⟨(some 27), (.alloc 0 2 [(.d (.int .u64 0)), (.d .nilp)]), none⟩,
                      ⟨none, (.store 2 (.tmp 27) (.tmp 115)), none⟩] []) (
                   .seq (
                    .region false [⟨(some 116), (.fieldAddr 0 (.tmp 27)), none⟩,
                      ⟨(some 117), (.load false 1 (.tmp 116)), none⟩,
                      ⟨(some 118), (.mv (.tmp 25)), none⟩,
                      ⟨(some 119), (.bin .and (.tmp 117) (.tmp 118)), none⟩,
                      ⟨(some 120), (.bin .neq (.tmp 119) (.cst (.d (.int .u64 0)))), none⟩] []) (
                   .cond (.tmp 120) (
                    .region false [⟨(some 121), (.fieldAddr 1 (.tmp 27)), none⟩,
                      ⟨(some 122), (.load false 1 (.tmp 121)), none⟩,
                      ⟨(some 123), (.mv (.tmp 24)), none⟩,
                      ⟨(some 124), (.mv (.tmp 15)), none⟩,
                      ⟨(some 125), (.call 0 false (.cst (.d (.fn n_cand_pairs_add))) [(.tmp 122), (.tmp 123), (.tmp 124)]), none⟩] []) (
                    .skip))))) (
                 .region false [⟨(some 126), (.bin .add (.tmp 112) (.cst (.d (.int .i64 1)))), none⟩, ⟨(some 112), (.mv (.tmp 126)), none⟩] [])))
def L_cand_within_e (n_cand_pairs_add : Nat) : LCode :=
              .seq (
               .region false [⟨(some 127), (.fieldAddr 0 (.tmp 22)), none⟩,
                 ⟨(some 128), (.load false 1 (.tmp 127)), none⟩,
                 ⟨(some 129), (.bin .eql (.tmp 128) (.cst (.d (.int .i64 2)))), none⟩,
                 ⟨(some 130), (.mv (.tmp 129)), none⟩,
                 ⟨(some 131), (.fieldAddr 3 (.tmp 22)), (some (130, true))⟩,
                 ⟨(some 132), (.load false 1 (.tmp 131)), (some (130, true))⟩,
                 ⟨(some 133), (.mv (.tmp 23)), (some (130, true))⟩,
                 ⟨(some 134), (.bin .add (.tmp 133) (.cst (.d (.int .i64 1)))), (some (130, true))⟩,
                 ⟨(some 135), (.bin .eql (.tmp 132) (.tmp 134)), (some (130, true))⟩,
                 ⟨(some 136), (.pick (.tmp 130) (.tmp 135) (.cst (.d (.bool false)))), none⟩] []) (
              .cond (.tmp 136) (
               .region false [⟨(some 137), (.mv (.tmp 24)), none⟩,
                 ⟨(some 138), (.mv (.tmp 15)), none⟩,
                 ⟨(some 139), (.call 0 false (.cst (.d (.fn n_cand_pairs_add))) [(.tmp 14), (.tmp 137), (.tmp 138)]), none⟩] []) (
               .skip))
def L_cand_within_m (n_cand_pairs_add : Nat) : LCode :=
 .seq (
              (.mnext 62 (.tmp 61) 63)) (
             .seq (
              .cond (.tmp 63) (
               .skip) (
               (.exit 5))) (
             .block 6 (
              .seq (
               .region false [⟨(some 64), (.mapEntry (.tmp 61)), none⟩,
                 ⟨(some 65), (.extract 0 (.tmp 64)), none⟩,
                 ⟨(some 66), (.extract 1 (.tmp 64)), none⟩,
                 ⟨(some 23), (.mv (.tmp 65)), none⟩,
                 ⟨(some 24), (.mv (.tmp 66)), none⟩] []) (
              .seq (
               .region false [⟨(some 67), (.mv (.tmp 24)), none⟩,
                 ⟨(some 68), (.mv (.tmp 15)), none⟩,
                 ⟨(some 69), (.call 0 false (.cst (.d (.fn n_cand_pairs_add))) [(.tmp 7), (.tmp 67), (.tmp 68)]), none⟩] []) (
              .seq (
               .seq (
                .region false [⟨(some 70), (.mv (.tmp 24)), none⟩,
                  ⟨(some 71), (.mv (.tmp 19)), none⟩,
                  ⟨(some 72), (.bin .lss (.tmp 70) (.tmp 71)), none⟩] []) (
               .cond (.tmp 72) (
                .region false [⟨(some 73), (.mv (.tmp 24)), none⟩,
                  ⟨(some 74), (.mv (.tmp 15)), none⟩,
                  ⟨(some 75), (.call 0 false (.cst (.d (.fn n_cand_pairs_add))) [(.tmp 12), (.tmp 73), (.tmp 74)]), none⟩] []) (
                .skip))) (
              .seq (
               .seq (
                .region false [⟨(some 76), (.mv (.tmp 24)), none⟩,
                  ⟨(some 77), (.mv (.tmp 20)), none⟩,
                  ⟨(some 78), (.bin .lss (.tmp 76) (.tmp 77)), none⟩] []) (
               .cond (.tmp 78) (
                .region false [⟨(some 79), (.mv (.tmp 24)), none⟩,
                  ⟨(some 80), (.mv (.tmp 15)), none⟩,
                  ⟨(some 81), (.call 0 false (.cst (.d (.fn n_cand_pairs_add))) [(.tmp 13), (.tmp 79), (.tmp 80)]), none⟩] []) (
                .skip))) (
              .seq (
               .seq (
                .region false [⟨(some 82), (.mv (.tmp 0)), none⟩,
                  ⟨(some 83), (.nilchk (.tmp 82)), none⟩,
                  ⟨(some 84), (.fieldAddr 0 (.tmp 83)), none⟩,
                  ⟨(some 85), (.load false 1 (.tmp 84)), none⟩,
                  ⟨(some 86), (.mv (.tmp 24)), none⟩,
                  ⟨(some 87), (.idxAddr 4 (.tmp 85) (.tmp 86)), none⟩,
                  ⟨(some 88), (.fieldAddr 1 (.tmp 87)), none⟩,
                  ⟨(some 89), (.load false 1 (.tmp 88)), none⟩,
                  ⟨(some 90), (.bin .neq (.tmp 89) (.cst (.d (.int .i64 1)))), none⟩,
                  ⟨(some 91), (.mv (.tmp 90)), none⟩,
                  ⟨(some 92), (.mv (.tmp 23)), (some (91, false))⟩,
                  ⟨(some 93), (.bin .geq (.tmp 92) (.cst (.d (.int .i64 64)))), (some (91, false))⟩,
                  ⟨(some 94), (.pick (.tmp 91) (.cst (.d (.bool true))) (.tmp 93)), none⟩] []) (
               .cond (.tmp 94) (
                (.exit 6)) (
                .skip))) (
              .seq (
               .region false [⟨(some 95), (.mv (.tmp 23)), none⟩,
                 ⟨(some 96), (.conv .u64 (.tmp 95)), none⟩,
                 ⟨(some 97), (.bin .shl (.cst (.d (.int .u64 1))) (.tmp 96)), none⟩,
                 ⟨(some 25), (.mv (.tmp 97)), none⟩] []) (
              .seq (
               .seq (
                .region false [⟨(some 98), (.fieldAddr 4 (.tmp 22)), none⟩,
                  ⟨(some 99), (.load false 1 (.tmp 98)), none⟩,
                  ⟨(some 100), (.build [(.d (.int .u64 0)), (.d .nilp)] [(0, (1, (.tmp 99))), (1, (1, (.tmp 8)))]), none⟩,
                  ⟨(some 101), (.fieldAddr 5 (.tmp 22)), none⟩,
                  ⟨(some 102), (.load false 1 (.tmp 101)), none⟩,
                  ⟨(some 103), (.build [(.d (.int .u64 0)), (.d .nilp)] [(0, (1, (.tmp 102))), (1, (1, (.tmp 9)))]), none⟩,
                  ⟨(some 104), (.fieldAddr 6 (.tmp 22)), none⟩,
                  ⟨(some 105), (.load false 1 (.tmp 104)), none⟩,
                  ⟨(some 106), (.build [(.d (.int .u64 0)), (.d .nilp)] [(0, (1, (.tmp 105))), (1, (1, (.tmp 10)))]), none⟩,
                  ⟨(some 107), (.fieldAddr 7 (.tmp 22)), none⟩,
                  ⟨(some 108), (.load false 1 (.tmp 107)), none⟩,
                  ⟨(some 109), (.build [(.d (.int .u64 0)), (.d .nilp)] [(0, (1, (.tmp 108))), (1, (1, (.tmp 11)))]), none⟩,
                  ⟨(some 110), (.bslice 0 2 4 [(.d (.int .u64 0)), (.d .nilp)] [(0, (.tmp 100)), (1, (.tmp 103)), (2, (.tmp 106)), (3, (.tmp 109))]), none⟩,
                  ⟨(some 111), (.len (.tmp 110)), none⟩,
                  ⟨(some 112), (.mv (.cst (.d (.int .i64 0)))), none⟩] []) (
               .block 7 (
                .loop (L_cand_within_y n_cand_pairs_add)))) (
              (L_cand_within_e n_cand_pairs_add)))))))))))
def L_cand_within_v (n_cand_memory : Nat) (n_cand_pairs_add : Nat) : LCode :=
        .seq (
         .region false [⟨(some 45), (.bin .lss (.tmp 44) (.tmp 43)), none⟩] []) (
        .seq (
         .cond (.tmp 45) (
          .skip) (
          (.exit 2))) (
        .seq (
         .block 3 (
          .seq (
           .region false [⟨(some 46), (.mv (.tmp 44)), none⟩,
             ⟨(some 47), (.idxAddr 8 (.tmp 42) (.tmp 44)), none⟩,
             ⟨(some 48), (.load true 8 (.tmp 47)), none⟩,
             ⟨(some 22), (.alloc 0 8 [(.d (.int .i64 0)), (.d (.int .i64 0)), (.d (.int .i64 0)), (.d (.int .i64 0)), (.d (.int .u64 0)), (.d (.int .u64 0)), (.d (.int .u64 0)), (.d (.int .u64 0))]), none⟩,
             ⟨(some 21), (.mv (.tmp 46)), none⟩,
             ⟨none, (.store 8 (.tmp 22) (.tmp 48)), none⟩] []) (
          .seq (
           .seq (
            .region false [⟨(some 49), (.fieldAddr 0 (.tmp 22)), none⟩, ⟨(some 50), (.load false 1 (.tmp 49)), none⟩] []) (
           .block 4 (
            .seq (
             .region false [⟨(some 52), (.bin .eql (.tmp 50) (.cst (.d (.int .i64 3)))), none⟩, ⟨(some 51), (.mv (.tmp 52)), none⟩] []) (
            .cond (.tmp 51) (
             .region false [⟨(some 53), (.mv (.tmp 15)), none⟩, ⟨(some 19), (.mv (.tmp 53)), none⟩] []) (
             .seq (
              .region false [⟨(some 55), (.bin .eql (.tmp 50) (.cst (.d (.int .i64 4)))), none⟩, ⟨(some 54), (.mv (.tmp 55)), none⟩] []) (
             .cond (.tmp 54) (
              .region false [⟨(some 56), (.mv (.tmp 15)), none⟩, ⟨(some 20), (.mv (.tmp 56)), none⟩] []) (
              .skip))))))) (
          .seq (
           .seq (
            .region false [⟨(some 57), (.load true 8 (.tmp 22)), none⟩,
              ⟨(some 58), (.call 0 false (.cst (.d (.fn n_cand_memory))) [(.tmp 57)]), none⟩,
              ⟨(some 59), (.un .not (.tmp 58)), none⟩] []) (
           .cond (.tmp 59) (
            (.exit 3)) (
            .skip))) (
          .seq (
           .seq (
            .region false [⟨(some 60), (.mv (.tmp 18)), none⟩, ⟨(some 61), (.mapRange 0 (.tmp 60)), none⟩] []) (
           .block 5 (
            .loop (L_cand_within_m n_cand_pairs_add)))) (
          .seq (
           .region false [⟨(some 140), (.mv (.tmp 18)), none⟩,
             ⟨(some 141), (.mv (.tmp 21)), none⟩,
             ⟨(some 142), (.mv (.tmp 15)), none⟩,
             ⟨none, (.mapSet (.tmp 140) (.tmp 141) (.tmp 142)), none⟩] []) (
          .region false [⟨(some 143), (.mv (.tmp 15)), none⟩,
            ⟨(some 144), (.bin .add (.tmp 143) (.cst (.d (.int .i64 1)))), none⟩,
            ⟨(some 15), (.mv (.tmp 144)), none⟩] []))))))) (
        .region false [⟨(some 145), (.bin .add (.tmp 44) (.cst (.d (.int .i64 1)))), none⟩, ⟨(some 44), (.mv (.tmp 145)), none⟩] [])))
def L_cand_within (n_cand_memory : Nat) (n_cand_pairs_rel : Nat) (n_cand_pairs_add : Nat) : LCode :=
 .seq (
  .region false [⟨(some 28), (.mv (.tmp 0)), none⟩,
    ⟨(some 29), (.nilchk (.tmp 28)), none⟩,
    ⟨(some 30), (.fieldAddr 0 (.tmp 29)), none⟩,
    ⟨(some 31), (.load false 1 (.tmp 30)), none⟩,
    ⟨(some 32), (.len (.tmp 31)), none⟩,
    ⟨(some 6), (.mv (.tmp 32)), none⟩] []) (
 .seq (
  .region false [⟨(some 7), (.alloc 0 1 [(.d (.list [] true))]), none⟩,
    ⟨(some 8), (.alloc 1 1 [(.d (.list [] true))]), none⟩,
    ⟨(some 9), (.alloc 2 1 [(.d (.list [] true))]), none⟩,
    ⟨(some 10), (.alloc 3 1 [(.d (.list [] true))]), none⟩,
    ⟨(some 11), (.alloc 4 1 [(.d (.list [] true))]), none⟩,
    ⟨(some 12), (.alloc 5 1 [(.d (.list [] true))]), none⟩,
    ⟨(some 13), (.alloc 6 1 [(.d (.list [] true))]), none⟩,
    ⟨(some 14), (.alloc 7 1 [(.d (.list [] true))]), none⟩] []) (
 .seq (
  .region false [⟨(some 33), (.mv (.tmp 1)), none⟩, ⟨(some 15), (.mv (.tmp 33)), none⟩] []) (
 .seq (
  .seq (
   .region false [⟨(some 34), (.mv (.tmp 2)), none⟩,
     ⟨(some 35), (.len (.tmp 34)), none⟩,
     ⟨(some 36), (.mv (.cst (.d (.int .i64 0)))), none⟩] []) (
  .block 0 (
   .loop (
    .seq (
     .region false [⟨(some 37), (.bin .lss (.tmp 36) (.tmp 35)), none⟩] []) (
    .seq (
     .cond (.tmp 37) (
      .skip) (
      (.exit 0))) (
    .seq (
     .block 1 (
      .seq (
       .region false [⟨(some 38), (.idxAddr 2 (.tmp 34) (.tmp 36)), none⟩,
         ⟨(some 39), (.load true 2 (.tmp 38)), none⟩,
         ⟨(some 17), (.alloc 0 2 [(.d (.list [] true)), (.d (.int .i64 0))]), none⟩,
         ⟨none, (.store 2 (.tmp 17) (.tmp 39)), none⟩] []) (
      .seq (
       .region false [⟨(some 40), (.mapNew 0), none⟩, ⟨(some 18), (.mv (.tmp 40)), none⟩] []) (
      .seq (
       .region false [⟨(some 19), (.mv (.cst (.d (.int .i64 (-1))))), none⟩, ⟨(some 20), (.mv (.cst (.d (.int .i64 (-1))))), none⟩] []) (
      .seq (
       .region false [⟨(some 41), (.fieldAddr 0 (.tmp 17)), none⟩,
         ⟨(some 42), (.load false 1 (.tmp 41)), none⟩,
         ⟨(some 43), (.len (.tmp 42)), none⟩,
         ⟨(some 44), (.mv (.cst (.d (.int .i64 0)))), none⟩] []) (
      .block 2 (
       .loop (
        (L_cand_within_v n_cand_memory n_cand_pairs_add))))))))) (
    .region false [⟨(some 146), (.bin .add (.tmp 36) (.cst (.d (.int .i64 1)))), none⟩, ⟨(some 36), (.mv (.tmp 146)), none⟩] []))))))) (
 .seq (
  .region true [⟨(some 147), (.mv (.tmp 0)), none⟩,
    ⟨(some 148), (.mv (.tmp 0)), none⟩,
    ⟨(some 149), (.mv (.tmp 0)), none⟩,
    ⟨(some 150), (.mv (.tmp 0)), none⟩,
    ⟨(some 151), (.mv (.tmp 0)), none⟩,
    ⟨(some 152), (.load false 1 (.tmp 7)), none⟩,
    ⟨(some 153), (.mv (.tmp 6)), none⟩,
    ⟨(some 154), (.call 0 true (.cst (.d (.fn n_cand_pairs_rel))) [(.tmp 152), (.tmp 153)]), none⟩,
    ⟨(some 155), (.load false 1 (.tmp 8)), none⟩,
    ⟨(some 156), (.mv (.tmp 6)), none⟩,
    ⟨(some 157), (.call 1 true (.cst (.d (.fn n_cand_pairs_rel))) [(.tmp 155), (.tmp 156)]), none⟩,
    ⟨(some 158), (.load false 1 (.tmp 9)), none⟩,
    ⟨(some 159), (.mv (.tmp 6)), none⟩,
    ⟨(some 160), (.call 2 true (.cst (.d (.fn n_cand_pairs_rel))) [(.tmp 158), (.tmp 159)]), none⟩,
    ⟨(some 161), (.load false 1 (.tmp 10)), none⟩,
    ⟨(some 162), (.mv (.tmp 6)), none⟩,
    ⟨(some 163), (.call 3 true (.cst (.d (.fn n_cand_pairs_rel))) [(.tmp 161), (.tmp 162)]), none⟩,
    ⟨(some 164), (.load false 1 (.tmp 11)), none⟩,
    ⟨(some 165), (.mv (.tmp 6)), none⟩,
    ⟨(some 166), (.call 4 true (.cst (.d (.fn n_cand_pairs_rel))) [(.tmp 164), (.tmp 165)]), none⟩,
    ⟨(some 167), (.nilchk (.tmp 147)), none⟩,
    ⟨(some 168), (.fieldAddr 1 (.tmp 167)), none⟩,
    ⟨none, (.store 1 (.tmp 168) (.tmp 154)), none⟩,
    ⟨(some 169), (.nilchk (.tmp 148)), none⟩,
    ⟨(some 170), (.fieldAddr 5 (.tmp 169)), none⟩,
    ⟨none, (.store 1 (.tmp 170) (.tmp 157)), none⟩,
    ⟨(some 171), (.nilchk (.tmp 149)), none⟩,
    ⟨(some 172), (.fieldAddr 6 (.tmp 171)), none⟩,
    ⟨none, (.store 1 (.tmp 172) (.tmp 160)), none⟩,
    ⟨(some 173), (.nilchk (.tmp 150)), none⟩,
    ⟨(some 174), (.fieldAddr 7 (.tmp 173)), none⟩,
    ⟨none, (.store 1 (.tmp 174) (.tmp 163)), none⟩,
    ⟨(some 175), (.nilchk (.tmp 151)), none⟩,
    ⟨(some 176), (.fieldAddr 8 (.tmp 175)), none⟩,
    ⟨none, (.store 1 (.tmp 176) (.tmp 166)), none⟩] [(7, 8), (10, 11), (7, 11), (13, 14), (10, 14), (7, 14), (16, 17), (13, 17), (10, 17), (7, 17)]) (
 .region true [⟨(some 177), (.mv (.tmp 0)), none⟩,
   ⟨(some 178), (.mv (.tmp 0)), none⟩,
   ⟨(some 179), (.mv (.tmp 0)), none⟩,
   ⟨(some 180), (.load false 1 (.tmp 12)), none⟩,
   ⟨(some 181), (.mv (.tmp 6)), none⟩,
   ⟨(some 182), (.call 0 true (.cst (.d (.fn n_cand_pairs_rel))) [(.tmp 180), (.tmp 181)]), none⟩,
   ⟨(some 183), (.load false 1 (.tmp 13)), none⟩,
   ⟨(some 184), (.mv (.tmp 6)), none⟩,
   ⟨(some 185), (.call 1 true (.cst (.d (.fn n_cand_pairs_rel))) [(.tmp 183), (.tmp 184)]), none⟩,
   ⟨(some 186), (.load false 1 (.tmp 14)), none⟩,
   ⟨(some 187), (.mv (.tmp 6)), none⟩,
   ⟨(some 188), (.call 2 true (.cst (.d (.fn n_cand_pairs_rel))) [(.tmp 186), (.tmp 187)]), none⟩,
   ⟨(some 189), (.nilchk (.tmp 177)), none⟩,
   ⟨(some 190), (.fieldAddr 9 (.tmp 189)), none⟩,
   ⟨none, (.store 1 (.tmp 190) (.tmp 182)), none⟩,
   ⟨(some 191), (.nilchk (.tmp 178)), none⟩,
   ⟨(some 192), (.fieldAddr 10 (.tmp 191)), none⟩,
   ⟨none, (.store 1 (.tmp 192) (.tmp 185)), none⟩,
   ⟨(some 193), (.nilchk (.tmp 179)), none⟩,
   ⟨(some 194), (.fieldAddr 11 (.tmp 193)), none⟩,
   ⟨none, (.store 1 (.tmp 194) (.tmp 188)), none⟩] [(5, 6), (8, 9), (5, 9)])))))
def R_cand_within : List LRes := []
def Z32 : List Nat := [0, 1, 2, 36, 35, 37, 34, 17, 44, 43, 45, 42, 22, 50, 51, 15, 54, 59, 18, 61, 63, 24, 7, 19, 72, 12, 20, 78, 13, 23, 94, 8, 9, 10, 11, 112, 111, 113, 110, 27, 25, 120, 136, 14, 21, 6]

def L_cand_pairs_add : LCode :=
 .region false [⟨(some 6), (.mv (.tmp 0)), none⟩,
   ⟨(some 7), (.mv (.tmp 0)), none⟩,
   ⟨(some 8), (.nilchk (.tmp 7)), none⟩,
   ⟨(some 9), (.load false 1 (.tmp 8)), none⟩,
   ⟨(some 10), (.mv (.tmp 1)), none⟩,
   ⟨(some 11), (.mv (.tmp 2)), none⟩,
   ⟨(some 12), (.build [(.d (.int .i64 0)), (.d (.int .i64 0))] [(0, (1, (.tmp 10))), (1, (1, (.tmp 11)))]), none⟩,
   ⟨(some 13), (.bslice 0 2 1 [(.d (.int .i64 0)), (.d (.int .i64 0))] [(0, (.tmp 12))]), none⟩,
   ⟨(some 14), (.append 1 2 16 (.tmp 9) (.tmp 13)), none⟩,
   ⟨(some 15), (.nilchk (.tmp 6)), none⟩,
   ⟨none, (.store 1 (.tmp 15) (.tmp 14)), none⟩] []
def R_cand_pairs_add : List LRes := []
def V_cand_pairs_add : List Nat := [0, 1, 2]

end Go.Ago

/- Lowered functions of a package, callees by their numbers. Printed by a program of this session. Conditions: none. -/
set_option maxRecDepth 100000
set_option linter.unusedVariables false
namespace Go.Ago
end Go.Ago

/- Lowered functions of a package, callees by their numbers. Printed by a program of this session. Conditions: none. -/
set_option maxRecDepth 100000
set_option linter.unusedVariables false
namespace Go.Ago
def L_cr_rf (n_rel_Has : Nat) : LCode :=
 .seq (
             .region false [⟨(some 62), (.fieldAddr 2 (.tmp 9)), none⟩,
               ⟨(some 63), (.load false 1 (.tmp 62)), none⟩,
               ⟨(some 64), (.mv (.tmp 14)), none⟩,
               ⟨(some 65), (.mv (.tmp 12)), none⟩,
               ⟨(some 66), (.call 0 false (.cst (.d (.fn n_rel_Has))) [(.tmp 63), (.tmp 64), (.tmp 65)]), none⟩] []) (
            .cond (.tmp 66) (
             .seq (
              .region false [⟨(some 67), (.mv (.tmp 13)), none⟩,
                ⟨(some 68), (.bin .add (.tmp 67) (.cst (.d (.int .i64 1)))), none⟩,
                ⟨(some 13), (.mv (.tmp 68)), none⟩] []) (
             .seq (
              .region false [⟨(some 69), (.fieldAddr 1 (.tmp 16)), none⟩,
                ⟨(some 70), (.load false 1 (.tmp 69)), none⟩,
                ⟨(some 71), (.bin .neq (.tmp 70) (.cst (.d (.int .i64 2)))), none⟩,
                ⟨(some 72), (.mv (.tmp 71)), none⟩,
                ⟨(some 73), (.fieldAddr 2 (.tmp 16)), (some (72, false))⟩,
                ⟨(some 74), (.load false 1 (.tmp 73)), (some (72, false))⟩,
                ⟨(some 75), (.fieldAddr 2 (.tmp 15)), (some (72, false))⟩,
                ⟨(some 76), (.load false 1 (.tmp 75)), (some (72, false))⟩,
                ⟨(some 77), (.bin .neq (.tmp 74) (.tmp 76)), (some (72, false))⟩,
                ⟨(some 78), (.pick (.tmp 72) (.cst (.d (.bool true))) (.tmp 77)), none⟩,
                ⟨(some 79), (.mv (.tmp 78)), none⟩,
                ⟨(some 80), (.fieldAddr 3 (.tmp 16)), (some (79, false))⟩,
                ⟨(some 81), (.load false 1 (.tmp 80)), (some (79, false))⟩,
                ⟨(some 82), (.fieldAddr 3 (.tmp 15)), (some (79, false))⟩,
                ⟨(some 83), (.load false 1 (.tmp 82)), (some (79, false))⟩,
                ⟨(some 84), (.bin .neq (.tmp 81) (.tmp 83)), (some (79, false))⟩,
                ⟨(some 85), (.pick (.tmp 79) (.cst (.d (.bool true))) (.tmp 84)), none⟩] []) (
             .cond (.tmp 85) (
              .seq (
               .region false [⟨(some 8), (.mv (.cst (.d (.bool false)))), none⟩] []) (
              .ret)) (
              .skip)))) (
             .skip))
def L_cr_co (n_rel_Has : Nat) : LCode :=
 .region false [⟨(some 86), (.fieldAddr 3 (.tmp 9)), none⟩,
              ⟨(some 87), (.load false 1 (.tmp 86)), none⟩,
              ⟨(some 88), (.mv (.tmp 12)), none⟩,
              ⟨(some 89), (.mv (.tmp 14)), none⟩,
              ⟨(some 90), (.call 0 false (.cst (.d (.fn n_rel_Has))) [(.tmp 87), (.tmp 88), (.tmp 89)]), none⟩,
              ⟨(some 91), (.mv (.tmp 90)), none⟩,
              ⟨(some 92), (.fieldAddr 3 (.tmp 9)), (some (91, false))⟩,
              ⟨(some 93), (.load false 1 (.tmp 92)), (some (91, false))⟩,
              ⟨(some 94), (.mv (.tmp 14)), (some (91, false))⟩,
              ⟨(some 95), (.mv (.tmp 12)), (some (91, false))⟩,
              ⟨(some 96), (.call 0 false (.cst (.d (.fn n_rel_Has))) [(.tmp 93), (.tmp 94), (.tmp 95)]), (some (91, false))⟩,
              ⟨(some 97), (.pick (.tmp 91) (.cst (.d (.bool true))) (.tmp 96)), none⟩,
              ⟨(some 17), (.mv (.tmp 97)), none⟩] []
def L_cr_cc (n_rel_Has : Nat) : LCode :=
 .seq (
             .region false [⟨(some 98), (.mv (.tmp 17)), none⟩,
               ⟨(some 99), (.mv (.tmp 12)), none⟩,
               ⟨(some 100), (.mv (.tmp 14)), none⟩,
               ⟨(some 101), (.bin .neq (.tmp 99) (.tmp 100)), none⟩,
               ⟨(some 102), (.mv (.tmp 101)), none⟩,
               ⟨(some 103), (.fieldAddr 1 (.tmp 15)), (some (102, true))⟩,
               ⟨(some 104), (.load false 1 (.tmp 103)), (some (102, true))⟩,
               ⟨(some 105), (.bin .eql (.tmp 104) (.cst (.d (.int .i64 2)))), (some (102, true))⟩,
               ⟨(some 106), (.pick (.tmp 102) (.tmp 105) (.cst (.d (.bool false)))), none⟩,
               ⟨(some 107), (.mv (.tmp 106)), none⟩,
               ⟨(some 108), (.fieldAddr 1 (.tmp 16)), (some (107, true))⟩,
               ⟨(some 109), (.load false 1 (.tmp 108)), (some (107, true))⟩,
               ⟨(some 110), (.bin .eql (.tmp 109) (.cst (.d (.int .i64 2)))), (some (107, true))⟩,
               ⟨(some 111), (.pick (.tmp 107) (.tmp 110) (.cst (.d (.bool false)))), none⟩,
               ⟨(some 112), (.mv (.tmp 111)), none⟩,
               ⟨(some 113), (.fieldAddr 2 (.tmp 15)), (some (112, true))⟩,
               ⟨(some 114), (.load false 1 (.tmp 113)), (some (112, true))⟩,
               ⟨(some 115), (.fieldAddr 2 (.tmp 16)), (some (112, true))⟩,
               ⟨(some 116), (.load false 1 (.tmp 115)), (some (112, true))⟩,
               ⟨(some 117), (.bin .eql (.tmp 114) (.tmp 116)), (some (112, true))⟩,
               ⟨(some 118), (.pick (.tmp 112) (.tmp 117) (.cst (.d (.bool false)))), none⟩,
               ⟨(some 119), (.eq true .bool (.tmp 98) (.tmp 118)), none⟩] []) (
            .cond (.tmp 119) (
             .seq (
              .region false [⟨(some 8), (.mv (.cst (.d (.bool false)))), none⟩] []) (
             .ret)) (
             .skip))
def L_cr_fr (n_rel_Has : Nat) : LCode :=
 .seq (
             .region false [⟨(some 120), (.fieldAddr 4 (.tmp 9)), none⟩,
               ⟨(some 121), (.load false 1 (.tmp 120)), none⟩,
               ⟨(some 122), (.mv (.tmp 12)), none⟩,
               ⟨(some 123), (.mv (.tmp 14)), none⟩,
               ⟨(some 124), (.call 0 false (.cst (.d (.fn n_rel_Has))) [(.tmp 121), (.tmp 122), (.tmp 123)]), none⟩,
               ⟨(some 125), (.mv (.tmp 124)), none⟩,
               ⟨(some 126), (.fieldAddr 1 (.tmp 15)), (some (125, true))⟩,
               ⟨(some 127), (.load false 1 (.tmp 126)), (some (125, true))⟩,
               ⟨(some 128), (.bin .neq (.tmp 127) (.cst (.d (.int .i64 1)))), (some (125, true))⟩,
               ⟨(some 129), (.mv (.tmp 128)), (some (125, true))⟩,
               ⟨(some 130), (.fieldAddr 1 (.tmp 16)), (some (129, false))⟩,
               ⟨(some 131), (.load false 1 (.tmp 130)), (some (129, false))⟩,
               ⟨(some 132), (.bin .neq (.tmp 131) (.cst (.d (.int .i64 2)))), (some (129, false))⟩,
               ⟨(some 133), (.pick (.tmp 129) (.cst (.d (.bool true))) (.tmp 132)), (some (125, true))⟩,
               ⟨(some 134), (.mv (.tmp 133)), (some (125, true))⟩,
               ⟨(some 135), (.fieldAddr 2 (.tmp 15)), (some (134, false))⟩,
               ⟨(some 136), (.load false 1 (.tmp 135)), (some (134, false))⟩,
               ⟨(some 137), (.fieldAddr 2 (.tmp 16)), (some (134, false))⟩,
               ⟨(some 138), (.load false 1 (.tmp 137)), (some (134, false))⟩,
               ⟨(some 139), (.bin .neq (.tmp 136) (.tmp 138)), (some (134, false))⟩,
               ⟨(some 140), (.pick (.tmp 134) (.cst (.d (.bool true))) (.tmp 139)), (some (125, true))⟩,
               ⟨(some 141), (.pick (.tmp 125) (.tmp 140) (.cst (.d (.bool false)))), none⟩] []) (
            .cond (.tmp 141) (
             .seq (
              .region false [⟨(some 8), (.mv (.cst (.d (.bool false)))), none⟩] []) (
             .ret)) (
             .skip))
def L_cr_h (n_rel_Has : Nat) : LCode :=
 .region false [⟨(some 142), (.fieldAddr 5 (.tmp 9)), none⟩,
              ⟨(some 143), (.load false 1 (.tmp 142)), none⟩,
              ⟨(some 144), (.mv (.tmp 12)), none⟩,
              ⟨(some 145), (.mv (.tmp 14)), none⟩,
              ⟨(some 146), (.call 0 false (.cst (.d (.fn n_rel_Has))) [(.tmp 143), (.tmp 144), (.tmp 145)]), none⟩,
              ⟨(some 147), (.mv (.tmp 146)), none⟩,
              ⟨(some 148), (.fieldAddr 6 (.tmp 9)), (some (147, false))⟩,
              ⟨(some 149), (.load false 1 (.tmp 148)), (some (147, false))⟩,
              ⟨(some 150), (.mv (.tmp 12)), (some (147, false))⟩,
              ⟨(some 151), (.mv (.tmp 14)), (some (147, false))⟩,
              ⟨(some 152), (.call 0 false (.cst (.d (.fn n_rel_Has))) [(.tmp 149), (.tmp 150), (.tmp 151)]), (some (147, false))⟩,
              ⟨(some 153), (.pick (.tmp 147) (.cst (.d (.bool true))) (.tmp 152)), none⟩,
              ⟨(some 154), (.mv (.tmp 153)), none⟩,
              ⟨(some 155), (.fieldAddr 7 (.tmp 9)), (some (154, false))⟩,
              ⟨(some 156), (.load false 1 (.tmp 155)), (some (154, false))⟩,
              ⟨(some 157), (.mv (.tmp 12)), (some (154, false))⟩,
              ⟨(some 158), (.mv (.tmp 14)), (some (154, false))⟩,
              ⟨(some 159), (.call 0 false (.cst (.d (.fn n_rel_Has))) [(.tmp 156), (.tmp 157), (.tmp 158)]), (some (154, false))⟩,
              ⟨(some 160), (.pick (.tmp 154) (.cst (.d (.bool true))) (.tmp 159)), none⟩,
              ⟨(some 161), (.mv (.tmp 160)), none⟩,
              ⟨(some 162), (.fieldAddr 8 (.tmp 9)), (some (161, false))⟩,
              ⟨(some 163), (.load false 1 (.tmp 162)), (some (161, false))⟩,
              ⟨(some 164), (.mv (.tmp 12)), (some (161, false))⟩,
              ⟨(some 165), (.mv (.tmp 14)), (some (161, false))⟩,
              ⟨(some 166), (.call 0 false (.cst (.d (.fn n_rel_Has))) [(.tmp 163), (.tmp 164), (.tmp 165)]), (some (161, false))⟩,
              ⟨(some 167), (.pick (.tmp 161) (.cst (.d (.bool true))) (.tmp 166)), none⟩,
              ⟨(some 168), (.mv (.tmp 167)), none⟩,
              ⟨(some 169), (.fieldAddr 9 (.tmp 9)), (some (168, false))⟩,
              ⟨(some 170), (.load false 1 (.tmp 169)), (some (168, false))⟩,
              ⟨(some 171), (.mv (.tmp 12)), (some (168, false))⟩,
              ⟨(some 172), (.mv (.tmp 14)), (some (168, false))⟩,
              ⟨(some 173), (.call 0 false (.cst (.d (.fn n_rel_Has))) [(.tmp 170), (.tmp 171), (.tmp 172)]), (some (168, false))⟩,
              ⟨(some 174), (.pick (.tmp 168) (.cst (.d (.bool true))) (.tmp 173)), none⟩,
              ⟨(some 175), (.mv (.tmp 174)), none⟩,
              ⟨(some 176), (.fieldAddr 10 (.tmp 9)), (some (175, false))⟩,
              ⟨(some 177), (.load false 1 (.tmp 176)), (some (175, false))⟩,
              ⟨(some 178), (.mv (.tmp 12)), (some (175, false))⟩,
              ⟨(some 179), (.mv (.tmp 14)), (some (175, false))⟩,
              ⟨(some 180), (.call 0 false (.cst (.d (.fn n_rel_Has))) [(.tmp 177), (.tmp 178), (.tmp 179)]), (some (175, false))⟩,
              ⟨(some 181), (.pick (.tmp 175) (.cst (.d (.bool true))) (.tmp 180)), none⟩,
              ⟨(some 182), (.mv (.tmp 181)), none⟩,
              ⟨(some 183), (.fieldAddr 11 (.tmp 9)), (some (182, false))⟩,
              ⟨(some 184), (.load false 1 (.tmp 183)), (some (182, false))⟩,
              ⟨(some 185), (.mv (.tmp 12)), (some (182, false))⟩,
              ⟨(some 186), (.mv (.tmp 14)), (some (182, false))⟩,
              ⟨(some 187), (.call 0 false (.cst (.d (.fn n_rel_Has))) [(.tmp 184), (.tmp 185), (.tmp 186)]), (some (182, false))⟩,
              ⟨(some 188), (.pick (.tmp 182) (.cst (.d (.bool true))) (.tmp 187)), none⟩,
              ⟨(some 18), (.mv (.tmp 188)), none⟩] []
def L_law18_CandRels (n_law18_awake : Nat) (n_law18_small : Nat) (n_cand_Build : Nat) (n_rel_Has : Nat) (n_rel_Ring : Nat) (n_ref02_Same : Nat) (n_rel_Plus : Nat) : LCode :=
 .seq (
  .region false [⟨(some 8), (.mv (.cst (.d (.bool false)))), none⟩] []) (
 .seq (
  .seq (
   .region false [⟨(some 19), (.call 0 false (.cst (.d (.fn n_law18_awake))) []), none⟩, ⟨(some 20), (.un .not (.tmp 19)), none⟩] []) (
  .cond (.tmp 20) (
   .seq (
    .region false [⟨(some 8), (.mv (.cst (.d (.bool false)))), none⟩] []) (
   .ret)) (
   .skip))) (
 .seq (
  .seq (
   .region false [⟨(some 21), (.mv (.tmp 0)), none⟩,
     ⟨(some 22), (.mv (.tmp 1)), none⟩,
     ⟨(some 23), (.call 0 false (.cst (.d (.fn n_law18_small))) [(.tmp 21), (.tmp 22)]), none⟩,
     ⟨(some 24), (.un .not (.tmp 23)), none⟩] []) (
  .cond (.tmp 24) (
   .seq (
    .region false [⟨(some 8), (.mv (.cst (.d (.bool true)))), none⟩] []) (
   .ret)) (
   .skip))) (
 .seq (
  .region false [⟨(some 26), (.mv (.tmp 0)), none⟩,
    ⟨(some 27), (.mv (.tmp 1)), none⟩,
    ⟨(some 28), (.mv (.tmp 2)), none⟩,
    ⟨(some 29), (.mv (.tmp 3)), none⟩,
    ⟨(some 30), (.call 0 false (.cst (.d (.fn n_cand_Build))) [(.tmp 26), (.tmp 27), (.tmp 28), (.tmp 29)]), none⟩,
    ⟨(some 25), (.mv (.tmp 30)), none⟩,
    ⟨(some 31), (.extract 0 (.tmp 25)), none⟩,
    ⟨(some 32), (.extract 1 (.tmp 25)), none⟩,
    ⟨(some 9), (.alloc 0 12 [(.d (.list [] true)), (.d (.list [] true)), (.d (.list [] true)), (.d (.list [] true)), (.d (.list [] true)), (.d (.list [] true)), (.d (.list [] true)), (.d (.list [] true)), (.d (.list [] true)), (.d (.list [] true)), (.d (.list [] true)), (.d (.list [] true))]), none⟩,
    ⟨none, (.store 12 (.tmp 9) (.tmp 31)), none⟩,
    ⟨(some 10), (.mv (.tmp 32)), none⟩] []) (
 .seq (
  .seq (
   .region false [⟨(some 33), (.mv (.tmp 10)), none⟩, ⟨(some 34), (.bin .neq (.tmp 33) (.cst (.d (.int .i64 0)))), none⟩] []) (
  .cond (.tmp 34) (
   .seq (
    .region false [⟨(some 35), (.fieldAddr 0 (.tmp 9)), none⟩,
      ⟨(some 36), (.load false 1 (.tmp 35)), none⟩,
      ⟨(some 37), (.len (.tmp 36)), none⟩,
      ⟨(some 38), (.bin .eql (.tmp 37) (.cst (.d (.int .i64 0)))), none⟩,
      ⟨(some 8), (.mv (.tmp 38)), none⟩] []) (
   .ret)) (
   .skip))) (
 .seq (
  .region false [⟨(some 39), (.fieldAddr 0 (.tmp 9)), none⟩,
    ⟨(some 40), (.load false 1 (.tmp 39)), none⟩,
    ⟨(some 41), (.len (.tmp 40)), none⟩,
    ⟨(some 11), (.mv (.tmp 41)), none⟩] []) (
 .seq (
  .seq (
   .region false [⟨(some 12), (.mv (.cst (.d (.int .i64 0)))), none⟩] []) (
  .block 0 (
   .loop (
    .seq (
     .seq (
      .region false [⟨(some 42), (.mv (.tmp 12)), none⟩,
        ⟨(some 43), (.mv (.tmp 11)), none⟩,
        ⟨(some 44), (.bin .lss (.tmp 42) (.tmp 43)), none⟩] []) (
     .cond (.tmp 44) (
      .skip) (
      (.exit 0)))) (
    .seq (
     .block 1 (
      .seq (
       .region false [⟨(some 13), (.mv (.cst (.d (.int .i64 0)))), none⟩] []) (
      .seq (
       .seq (
        .region false [⟨(some 14), (.mv (.cst (.d (.int .i64 0)))), none⟩] []) (
       .block 2 (
        .loop (
         .seq (
          .seq (
           .region false [⟨(some 47), (.mv (.tmp 14)), none⟩,
             ⟨(some 48), (.mv (.tmp 11)), none⟩,
             ⟨(some 49), (.bin .lss (.tmp 47) (.tmp 48)), none⟩] []) (
          .cond (.tmp 49) (
           .skip) (
           (.exit 2)))) (
         .seq (
          .block 3 (
           .seq (
            .region true [⟨(some 52), (.fieldAddr 0 (.tmp 9)), none⟩,
              ⟨(some 53), (.load false 1 (.tmp 52)), none⟩,
              ⟨(some 54), (.mv (.tmp 12)), none⟩,
              ⟨(some 55), (.idxAddr 4 (.tmp 53) (.tmp 54)), none⟩,
              ⟨(some 56), (.load true 4 (.tmp 55)), none⟩,
              ⟨(some 57), (.fieldAddr 0 (.tmp 9)), none⟩,
              ⟨(some 58), (.load false 1 (.tmp 57)), none⟩,
              ⟨(some 59), (.mv (.tmp 14)), none⟩,
              ⟨(some 60), (.idxAddr 4 (.tmp 58) (.tmp 59)), none⟩,
              ⟨(some 61), (.load true 4 (.tmp 60)), none⟩,
              ⟨(some 15), (.alloc 0 4 [(.d (.int .i64 0)), (.d (.int .i64 0)), (.d (.int .i64 0)), (.d (.int .i64 0))]), none⟩,
              ⟨(some 16), (.alloc 1 4 [(.d (.int .i64 0)), (.d (.int .i64 0)), (.d (.int .i64 0)), (.d (.int .i64 0))]), none⟩,
              ⟨none, (.store 4 (.tmp 15) (.tmp 56)), none⟩,
              ⟨none, (.store 4 (.tmp 16) (.tmp 61)), none⟩] [(9, 10), (6, 10), (4, 10), (1, 10), (10, 11), (9, 11), (6, 11), (4, 11), (1, 11), (9, 12), (6, 12)]) (
           .seq (
            (L_cr_rf n_rel_Has)) (
           .seq (
            (L_cr_co n_rel_Has)) (
           .seq (
            (L_cr_cc n_rel_Has)) (
           .seq (
            (L_cr_fr n_rel_Has)) (
           .seq (
            (L_cr_h n_rel_Has)) (
           .seq (
            .region false [⟨(some 189), (.mv (.tmp 18)), none⟩,
              ⟨(some 190), (.mv (.tmp 189)), none⟩,
              ⟨(some 191), (.fieldAddr 1 (.tmp 9)), (some (190, true))⟩,
              ⟨(some 192), (.load false 1 (.tmp 191)), (some (190, true))⟩,
              ⟨(some 193), (.mv (.tmp 12)), (some (190, true))⟩,
              ⟨(some 194), (.mv (.tmp 14)), (some (190, true))⟩,
              ⟨(some 195), (.call 0 false (.cst (.d (.fn n_rel_Has))) [(.tmp 192), (.tmp 193), (.tmp 194)]), (some (190, true))⟩,
              ⟨(some 196), (.un .not (.tmp 195)), (some (190, true))⟩,
              ⟨(some 197), (.pick (.tmp 190) (.tmp 196) (.cst (.d (.bool false)))), none⟩] []) (
           .cond (.tmp 197) (
            .seq (
             .region false [⟨(some 8), (.mv (.cst (.d (.bool false)))), none⟩] []) (
            .ret)) (
            .skip)))))))))) (
         .region false [⟨(some 50), (.mv (.tmp 14)), none⟩,
           ⟨(some 51), (.bin .add (.tmp 50) (.cst (.d (.int .i64 1)))), none⟩,
           ⟨(some 14), (.mv (.tmp 51)), none⟩] [])))))) (
      .seq (
       .region false [⟨(some 198), (.fieldAddr 0 (.tmp 9)), none⟩,
         ⟨(some 199), (.load false 1 (.tmp 198)), none⟩,
         ⟨(some 200), (.mv (.tmp 12)), none⟩,
         ⟨(some 201), (.idxAddr 4 (.tmp 199) (.tmp 200)), none⟩,
         ⟨(some 202), (.fieldAddr 1 (.tmp 201)), none⟩,
         ⟨(some 203), (.load false 1 (.tmp 202)), none⟩,
         ⟨(some 204), (.bin .eql (.tmp 203) (.cst (.d (.int .i64 1)))), none⟩,
         ⟨(some 205), (.mv (.tmp 13)), none⟩,
         ⟨(some 206), (.bin .eql (.tmp 205) (.cst (.d (.int .i64 1)))), none⟩,
         ⟨(some 207), (.eq true .bool (.tmp 204) (.tmp 206)), none⟩] []) (
      .cond (.tmp 207) (
       .seq (
        .region false [⟨(some 8), (.mv (.cst (.d (.bool false)))), none⟩] []) (
       .ret)) (
       .skip)))))) (
    .region false [⟨(some 45), (.mv (.tmp 12)), none⟩,
      ⟨(some 46), (.bin .add (.tmp 45) (.cst (.d (.int .i64 1)))), none⟩,
      ⟨(some 12), (.mv (.tmp 46)), none⟩] [])))))) (
 .seq (
  .region true [⟨(some 208), (.fieldAddr 3 (.tmp 9)), none⟩,
    ⟨(some 209), (.load false 1 (.tmp 208)), none⟩,
    ⟨(some 210), (.call 0 false (.cst (.d (.fn n_rel_Ring))) [(.tmp 209)]), none⟩,
    ⟨(some 211), (.un .not (.tmp 210)), none⟩,
    ⟨(some 212), (.mv (.tmp 211)), none⟩,
    ⟨(some 213), (.fieldAddr 1 (.tmp 9)), (some (212, true))⟩,
    ⟨(some 214), (.load false 1 (.tmp 213)), (some (212, true))⟩,
    ⟨(some 215), (.call 0 false (.cst (.d (.fn n_rel_Ring))) [(.tmp 214)]), (some (212, true))⟩,
    ⟨(some 216), (.un .not (.tmp 215)), (some (212, true))⟩,
    ⟨(some 217), (.pick (.tmp 212) (.tmp 216) (.cst (.d (.bool false)))), none⟩,
    ⟨(some 218), (.mv (.tmp 217)), none⟩,
    ⟨(some 219), (.fieldAddr 3 (.tmp 9)), (some (218, true))⟩,
    ⟨(some 220), (.load false 1 (.tmp 219)), (some (218, true))⟩,
    ⟨(some 221), (.call 0 true (.cst (.d (.fn n_rel_Plus))) [(.tmp 220)]), (some (218, true))⟩,
    ⟨(some 222), (.fieldAddr 3 (.tmp 9)), (some (218, true))⟩,
    ⟨(some 223), (.load false 1 (.tmp 222)), (some (218, true))⟩,
    ⟨(some 224), (.call 1 false (.cst (.d (.fn n_ref02_Same))) [(.tmp 221), (.tmp 223)]), (some (218, true))⟩,
    ⟨(some 225), (.pick (.tmp 218) (.tmp 224) (.cst (.d (.bool false)))), none⟩,
    ⟨(some 8), (.mv (.tmp 225)), none⟩] [(13, 15)]) (
 .ret))))))))
def R_law18_CandRels : List LRes := [(.tmp 8)]
def V_law18_CandRels : List Nat := [20, 0, 1, 24, 2, 3, 10, 34, 9, 12, 11, 44, 14, 49, 66, 13, 16, 15, 85, 17, 119, 141, 18, 197, 207, 8]

def L_law18_awake (n_cand_Build : Nat) (n_rel_Has : Nat) : LCode :=
 .seq (
  .region false [⟨(some 0), (.mv (.cst (.d (.bool false)))), none⟩] []) (
 .seq (
  .region false [⟨(some 4), (.build [(.d (.int .i64 0)), (.d (.int .i64 0)), (.d (.int .i64 0)), (.d (.int .i64 0)), (.d (.int .u64 0)), (.d (.int .u64 0)), (.d (.int .u64 0)), (.d (.int .u64 0))] [(0, (1, (.cst (.d (.int .i64 2))))), (2, (1, (.cst (.d (.int .i64 1)))))]), none⟩,
    ⟨(some 5), (.build [(.d (.int .i64 0)), (.d (.int .i64 0)), (.d (.int .i64 0)), (.d (.int .i64 0)), (.d (.int .u64 0)), (.d (.int .u64 0)), (.d (.int .u64 0)), (.d (.int .u64 0))] [(0, (1, (.cst (.d (.int .i64 1))))), (2, (1, (.cst (.d (.int .i64 1)))))]), none⟩,
    ⟨(some 6), (.bslice 0 8 2 [(.d (.int .i64 0)), (.d (.int .i64 0)), (.d (.int .i64 0)), (.d (.int .i64 0)), (.d (.int .u64 0)), (.d (.int .u64 0)), (.d (.int .u64 0)), (.d (.int .u64 0))] [(0, (.tmp 4)), (1, (.tmp 5))]), none⟩,
    ⟨(some 7), (.build [(.d (.list [] true)), (.d (.int .i64 0))] [(0, (1, (.tmp 6)))]), none⟩,
    ⟨(some 8), (.bslice 1 2 1 [(.d (.list [] true)), (.d (.int .i64 0))] [(0, (.tmp 7))]), none⟩,
    ⟨(some 1), (.mv (.tmp 8)), none⟩] []) (
 .seq (
  .region false [⟨(some 10), (.mkslice 0 2 16 [(.d (.bool false)), (.d (.int .i64 0))] (.cst (.d (.int .i64 1))) (.cst (.d (.int .i64 1)))), none⟩,
    ⟨(some 11), (.mv (.tmp 1)), none⟩,
    ⟨(some 12), (.bslice 1 1 1 [(.d (.int .i64 0))] [(0, (.cst (.d (.int .i64 1))))]), none⟩,
    ⟨(some 13), (.bslice 2 1 1 [(.d (.int .i64 0))] [(0, (.cst (.d (.int .i64 1))))]), none⟩,
    ⟨(some 14), (.bslice 3 1 1 [(.d (.list [] true))] [(0, (.tmp 13))]), none⟩,
    ⟨(some 15), (.call 4 false (.cst (.d (.fn n_cand_Build))) [(.tmp 10), (.tmp 11), (.tmp 12), (.tmp 14)]), none⟩,
    ⟨(some 9), (.mv (.tmp 15)), none⟩,
    ⟨(some 16), (.extract 0 (.tmp 9)), none⟩,
    ⟨(some 17), (.extract 1 (.tmp 9)), none⟩,
    ⟨(some 2), (.alloc 4 12 [(.d (.list [] true)), (.d (.list [] true)), (.d (.list [] true)), (.d (.list [] true)), (.d (.list [] true)), (.d (.list [] true)), (.d (.list [] true)), (.d (.list [] true)), (.d (.list [] true)), (.d (.list [] true)), (.d (.list [] true)), (.d (.list [] true))]), none⟩,
    ⟨none, (.store 12 (.tmp 2) (.tmp 16)), none⟩,
    ⟨(some 3), (.mv (.tmp 17)), none⟩] []) (
 .seq (
  .region false [⟨(some 18), (.mv (.tmp 3)), none⟩,
    ⟨(some 19), (.bin .eql (.tmp 18) (.cst (.d (.int .i64 0)))), none⟩,
    ⟨(some 20), (.mv (.tmp 19)), none⟩,
    ⟨(some 21), (.fieldAddr 0 (.tmp 2)), (some (20, true))⟩,
    ⟨(some 22), (.load false 1 (.tmp 21)), (some (20, true))⟩,
    ⟨(some 23), (.len (.tmp 22)), (some (20, true))⟩,
    ⟨(some 24), (.bin .eql (.tmp 23) (.cst (.d (.int .i64 3)))), (some (20, true))⟩,
    ⟨(some 25), (.pick (.tmp 20) (.tmp 24) (.cst (.d (.bool false)))), none⟩,
    ⟨(some 26), (.mv (.tmp 25)), none⟩,
    ⟨(some 27), (.fieldAddr 3 (.tmp 2)), (some (26, true))⟩,
    ⟨(some 28), (.load false 1 (.tmp 27)), (some (26, true))⟩,
    ⟨(some 29), (.call 0 false (.cst (.d (.fn n_rel_Has))) [(.tmp 28), (.cst (.d (.int .i64 0))), (.cst (.d (.int .i64 1)))]), (some (26, true))⟩,
    ⟨(some 30), (.pick (.tmp 26) (.tmp 29) (.cst (.d (.bool false)))), none⟩,
    ⟨(some 31), (.mv (.tmp 30)), none⟩,
    ⟨(some 32), (.fieldAddr 2 (.tmp 2)), (some (31, true))⟩,
    ⟨(some 33), (.load false 1 (.tmp 32)), (some (31, true))⟩,
    ⟨(some 34), (.call 0 false (.cst (.d (.fn n_rel_Has))) [(.tmp 33), (.cst (.d (.int .i64 1))), (.cst (.d (.int .i64 2)))]), (some (31, true))⟩,
    ⟨(some 35), (.pick (.tmp 31) (.tmp 34) (.cst (.d (.bool false)))), none⟩,
    ⟨(some 36), (.mv (.tmp 35)), none⟩,
    ⟨(some 37), (.fieldAddr 1 (.tmp 2)), (some (36, true))⟩,
    ⟨(some 38), (.load false 1 (.tmp 37)), (some (36, true))⟩,
    ⟨(some 39), (.call 0 false (.cst (.d (.fn n_rel_Has))) [(.tmp 38), (.cst (.d (.int .i64 1))), (.cst (.d (.int .i64 2)))]), (some (36, true))⟩,
    ⟨(some 40), (.pick (.tmp 36) (.tmp 39) (.cst (.d (.bool false)))), none⟩,
    ⟨(some 0), (.mv (.tmp 40)), none⟩] []) (
 .ret))))
def R_law18_awake : List LRes := [(.tmp 0)]
def V_law18_awake : List Nat := [1, 3, 2, 0]

def L_law18_small : LCode :=
 .seq (
  .region false [⟨(some 4), (.mv (.cst (.d (.bool false)))), none⟩] []) (
 .seq (
  .seq (
   .region false [⟨(some 6), (.mv (.tmp 0)), none⟩,
     ⟨(some 7), (.len (.tmp 6)), none⟩,
     ⟨(some 8), (.bin .gtr (.tmp 7) (.cst (.d (.int .i64 20)))), none⟩,
     ⟨(some 9), (.mv (.tmp 8)), none⟩,
     ⟨(some 10), (.mv (.tmp 1)), (some (9, false))⟩,
     ⟨(some 11), (.len (.tmp 10)), (some (9, false))⟩,
     ⟨(some 12), (.bin .gtr (.tmp 11) (.cst (.d (.int .i64 5)))), (some (9, false))⟩,
     ⟨(some 13), (.pick (.tmp 9) (.cst (.d (.bool true))) (.tmp 12)), none⟩] []) (
  .cond (.tmp 13) (
   .seq (
    .region false [⟨(some 4), (.mv (.cst (.d (.bool false)))), none⟩] []) (
   .ret)) (
   .skip))) (
 .seq (
  .seq (
   .region false [⟨(some 5), (.mv (.cst (.d (.int .i64 0)))), none⟩] []) (
  .block 0 (
   .loop (
    .seq (
     .seq (
      .region false [⟨(some 14), (.mv (.tmp 5)), none⟩,
        ⟨(some 15), (.mv (.tmp 1)), none⟩,
        ⟨(some 16), (.len (.tmp 15)), none⟩,
        ⟨(some 17), (.bin .lss (.tmp 14) (.tmp 16)), none⟩] []) (
     .cond (.tmp 17) (
      .skip) (
      (.exit 0)))) (
    .seq (
     .block 1 (
      .seq (
       .region false [⟨(some 20), (.mv (.tmp 1)), none⟩,
         ⟨(some 21), (.mv (.tmp 5)), none⟩,
         ⟨(some 22), (.idxAddr 2 (.tmp 20) (.tmp 21)), none⟩,
         ⟨(some 23), (.fieldAddr 0 (.tmp 22)), none⟩,
         ⟨(some 24), (.load false 1 (.tmp 23)), none⟩,
         ⟨(some 25), (.len (.tmp 24)), none⟩,
         ⟨(some 26), (.bin .gtr (.tmp 25) (.cst (.d (.int .i64 70)))), none⟩] []) (
      .cond (.tmp 26) (
       .seq (
        .region false [⟨(some 4), (.mv (.cst (.d (.bool false)))), none⟩] []) (
       .ret)) (
       .skip)))) (
    .region false [⟨(some 18), (.mv (.tmp 5)), none⟩,
      ⟨(some 19), (.bin .add (.tmp 18) (.cst (.d (.int .i64 1)))), none⟩,
      ⟨(some 5), (.mv (.tmp 19)), none⟩] [])))))) (
 .seq (
  .region false [⟨(some 4), (.mv (.cst (.d (.bool true)))), none⟩] []) (
 .ret))))
def R_law18_small : List LRes := [(.tmp 4)]
def V_law18_small : List Nat := [0, 1, 13, 5, 17, 26, 4]

end Go.Ago

/- Lowered functions of a package, callees by their numbers. Printed by a program of this session. Conditions: none. -/
set_option maxRecDepth 100000
set_option linter.unusedVariables false
namespace Go.Ago
def L_ref02_Same : LCode :=
 .seq (
  .region false [⟨(some 4), (.mv (.cst (.d (.bool false)))), none⟩] []) (
 .seq (
  .seq (
   .region false [⟨(some 6), (.mv (.tmp 0)), none⟩,
     ⟨(some 7), (.len (.tmp 6)), none⟩,
     ⟨(some 8), (.mv (.tmp 1)), none⟩,
     ⟨(some 9), (.len (.tmp 8)), none⟩,
     ⟨(some 10), (.bin .neq (.tmp 7) (.tmp 9)), none⟩] []) (
  .cond (.tmp 10) (
   .seq (
    .region false [⟨(some 4), (.mv (.cst (.d (.bool false)))), none⟩] []) (
   .ret)) (
   .skip))) (
 .seq (
  .seq (
   .region false [⟨(some 5), (.mv (.cst (.d (.int .i64 0)))), none⟩] []) (
  .block 0 (
   .loop (
    .seq (
     .seq (
      .region false [⟨(some 11), (.mv (.tmp 5)), none⟩,
        ⟨(some 12), (.mv (.tmp 0)), none⟩,
        ⟨(some 13), (.len (.tmp 12)), none⟩,
        ⟨(some 14), (.bin .lss (.tmp 11) (.tmp 13)), none⟩] []) (
     .cond (.tmp 14) (
      .skip) (
      (.exit 0)))) (
    .seq (
     .block 1 (
      .seq (
       .region true [⟨(some 17), (.mv (.tmp 0)), none⟩,
         ⟨(some 18), (.mv (.tmp 5)), none⟩,
         ⟨(some 19), (.idxAddr 1 (.tmp 17) (.tmp 18)), none⟩,
         ⟨(some 20), (.load false 1 (.tmp 19)), none⟩,
         ⟨(some 21), (.mv (.tmp 1)), none⟩,
         ⟨(some 22), (.mv (.tmp 5)), none⟩,
         ⟨(some 23), (.idxAddr 1 (.tmp 21) (.tmp 22)), none⟩,
         ⟨(some 24), (.load false 1 (.tmp 23)), none⟩,
         ⟨(some 25), (.bin .neq (.tmp 20) (.tmp 24)), none⟩] []) (
      .cond (.tmp 25) (
       .seq (
        .region false [⟨(some 4), (.mv (.cst (.d (.bool false)))), none⟩] []) (
       .ret)) (
       .skip)))) (
    .region false [⟨(some 15), (.mv (.tmp 5)), none⟩,
      ⟨(some 16), (.bin .add (.tmp 15) (.cst (.d (.int .i64 1)))), none⟩,
      ⟨(some 5), (.mv (.tmp 16)), none⟩] [])))))) (
 .seq (
  .region false [⟨(some 4), (.mv (.cst (.d (.bool true)))), none⟩] []) (
 .ret))))
def R_ref02_Same : List LRes := [(.tmp 4)]
def V_ref02_Same : List Nat := [0, 1, 10, 5, 14, 25, 4]

end Go.Ago
