/- Lowered functions of a package, callees by their numbers. Printed by a program of this session. Conditions: none. -/
import Derived.Test.YtlecedmhdhmonaaAgo27
set_option maxRecDepth 100000
set_option linter.unusedVariables false
namespace Go.Ago
def L_seq_Run (n_seq_Do : Nat) : LCode :=
 .seq (
  .region false [⟨(some 4), (.mv (.cst (.d (.list [] true)))), none⟩,
    ⟨(some 5), (.mv (.cst (.d (.int .i64 0)))), none⟩,
    ⟨(some 6), (.mv (.cst (.d (.int .i64 0)))), none⟩] []) (
 .seq (
  .region false [⟨(some 14), (.mv (.tmp 0)), none⟩,
    ⟨(some 15), (.len (.tmp 14)), none⟩,
    ⟨(some 16), (.mkslice 0 1 8 [(.d (.int .i64 0))] (.tmp 15) (.tmp 15)), none⟩,
    ⟨(some 7), (.mv (.tmp 16)), none⟩] []) (
 .seq (
  .seq (
   .region false [⟨(some 17), (.mv (.tmp 0)), none⟩,
     ⟨(some 18), (.len (.tmp 17)), none⟩,
     ⟨(some 19), (.mv (.cst (.d (.int .i64 0)))), none⟩] []) (
  .block 0 (
   .loop (
    .seq (
     .region false [⟨(some 20), (.bin .lss (.tmp 19) (.tmp 18)), none⟩] []) (
    .seq (
     .cond (.tmp 20) (
      .skip) (
      (.exit 0))) (
    .seq (
     .block 1 (
      .seq (
       .region false [⟨(some 21), (.mv (.tmp 19)), none⟩,
         ⟨(some 22), (.idxAddr 2 (.tmp 17) (.tmp 19)), none⟩,
         ⟨(some 23), (.load true 2 (.tmp 22)), none⟩,
         ⟨(some 9), (.alloc 0 2 [(.d (.bool false)), (.d (.int .i64 0))]), none⟩,
         ⟨(some 8), (.mv (.tmp 21)), none⟩,
         ⟨none, (.store 2 (.tmp 9) (.tmp 23)), none⟩] []) (
      .region false [⟨(some 24), (.mv (.tmp 7)), none⟩,
        ⟨(some 25), (.mv (.tmp 8)), none⟩,
        ⟨(some 26), (.fieldAddr 1 (.tmp 9)), none⟩,
        ⟨(some 27), (.load false 1 (.tmp 26)), none⟩,
        ⟨(some 28), (.idxAddr 1 (.tmp 24) (.tmp 25)), none⟩,
        ⟨none, (.store 1 (.tmp 28) (.tmp 27)), none⟩] []))) (
    .region false [⟨(some 29), (.bin .add (.tmp 19) (.cst (.d (.int .i64 1)))), none⟩, ⟨(some 19), (.mv (.tmp 29)), none⟩] []))))))) (
 .seq (
  .seq (
   .region false [⟨(some 30), (.mv (.tmp 1)), none⟩,
     ⟨(some 31), (.len (.tmp 30)), none⟩,
     ⟨(some 32), (.mv (.cst (.d (.int .i64 0)))), none⟩] []) (
  .block 2 (
   .loop (
    .seq (
     .region false [⟨(some 33), (.bin .lss (.tmp 32) (.tmp 31)), none⟩] []) (
    .seq (
     .cond (.tmp 33) (
      .skip) (
      (.exit 2))) (
    .seq (
     .block 3 (
      .seq (
       .region false [⟨(some 34), (.mv (.tmp 32)), none⟩,
         ⟨(some 35), (.idxAddr 4 (.tmp 30) (.tmp 32)), none⟩,
         ⟨(some 36), (.load true 4 (.tmp 35)), none⟩,
         ⟨(some 11), (.alloc 0 4 [(.d (.int .i64 0)), (.d (.int .i64 0)), (.d (.int .i64 0)), (.d (.int .i64 0))]), none⟩,
         ⟨(some 10), (.mv (.tmp 34)), none⟩,
         ⟨none, (.store 4 (.tmp 11) (.tmp 36)), none⟩] []) (
      .seq (
       .region false [⟨(some 38), (.mv (.tmp 0)), none⟩,
         ⟨(some 39), (.mv (.tmp 7)), none⟩,
         ⟨(some 40), (.load true 4 (.tmp 11)), none⟩,
         ⟨(some 41), (.call 0 false (.cst (.d (.fn n_seq_Do))) [(.tmp 38), (.tmp 39), (.tmp 40)]), none⟩,
         ⟨(some 37), (.mv (.tmp 41)), none⟩,
         ⟨(some 42), (.extract 0 (.tmp 37)), none⟩,
         ⟨(some 43), (.extract 1 (.tmp 37)), none⟩,
         ⟨(some 12), (.mv (.tmp 42)), none⟩,
         ⟨(some 13), (.mv (.tmp 43)), none⟩] []) (
      .seq (
       .seq (
        .region false [⟨(some 44), (.mv (.tmp 13)), none⟩, ⟨(some 45), (.bin .neq (.tmp 44) (.cst (.d (.int .i64 0)))), none⟩] []) (
       .cond (.tmp 45) (
        .seq (
         .region false [⟨(some 46), (.mv (.tmp 10)), none⟩,
           ⟨(some 47), (.mv (.tmp 13)), none⟩,
           ⟨(some 4), (.mv (.cst (.d (.list [] true)))), none⟩,
           ⟨(some 5), (.mv (.tmp 46)), none⟩,
           ⟨(some 6), (.mv (.tmp 47)), none⟩] []) (
        .ret)) (
        .skip))) (
      .region false [⟨(some 48), (.mv (.tmp 12)), none⟩, ⟨(some 7), (.mv (.tmp 48)), none⟩] []))))) (
    .region false [⟨(some 49), (.bin .add (.tmp 32) (.cst (.d (.int .i64 1)))), none⟩, ⟨(some 32), (.mv (.tmp 49)), none⟩] []))))))) (
 .seq (
  .region false [⟨(some 50), (.mv (.tmp 7)), none⟩,
    ⟨(some 51), (.mv (.tmp 1)), none⟩,
    ⟨(some 52), (.len (.tmp 51)), none⟩,
    ⟨(some 4), (.mv (.tmp 50)), none⟩,
    ⟨(some 5), (.mv (.tmp 52)), none⟩,
    ⟨(some 6), (.mv (.cst (.d (.int .i64 0)))), none⟩] []) (
 .ret)))))
def R_seq_Run : List LRes := [(.tmp 4), (.tmp 5), (.tmp 6)]
def V_seq_Run : List Nat := [0, 19, 18, 20, 17, 7, 8, 9, 1, 32, 31, 33, 30, 11, 13, 45, 10, 12, 4, 5, 6]

def L_seq_Do (n_act_Right : Nat) (n_slices_Clone_int64 : Nat) : LCode :=
 .seq (
  .region false [⟨(some 5), (.box 0 (.tmp 2)), none⟩,
    ⟨(some 6), (.mv (.cst (.d (.list [] true)))), none⟩,
    ⟨(some 7), (.mv (.cst (.d (.int .i64 0)))), none⟩] []) (
 .seq (
  .seq (
   .region false [⟨(some 9), (.mv (.tmp 1)), none⟩,
     ⟨(some 10), (.len (.tmp 9)), none⟩,
     ⟨(some 11), (.mv (.tmp 0)), none⟩,
     ⟨(some 12), (.len (.tmp 11)), none⟩,
     ⟨(some 13), (.bin .neq (.tmp 10) (.tmp 12)), none⟩,
     ⟨(some 14), (.mv (.tmp 13)), none⟩,
     ⟨(some 15), (.load true 4 (.tmp 5)), (some (14, false))⟩,
     ⟨(some 16), (.mv (.tmp 0)), (some (14, false))⟩,
     ⟨(some 17), (.call 0 false (.cst (.d (.fn n_act_Right))) [(.tmp 15), (.tmp 16)]), (some (14, false))⟩,
     ⟨(some 18), (.un .not (.tmp 17)), (some (14, false))⟩,
     ⟨(some 19), (.pick (.tmp 14) (.cst (.d (.bool true))) (.tmp 18)), none⟩] []) (
  .cond (.tmp 19) (
   .seq (
    .region false [⟨(some 6), (.mv (.cst (.d (.list [] true)))), none⟩, ⟨(some 7), (.mv (.cst (.d (.int .i64 1)))), none⟩] []) (
   .ret)) (
   .skip))) (
 .seq (
  .region false [⟨(some 20), (.mv (.tmp 1)), none⟩,
    ⟨(some 21), (.call 0 true (.cst (.d (.fn n_slices_Clone_int64))) [(.tmp 20)]), none⟩,
    ⟨(some 8), (.mv (.tmp 21)), none⟩] []) (
 .seq (
  .seq (
   .region false [⟨(some 22), (.fieldAddr 0 (.tmp 5)), none⟩, ⟨(some 23), (.load false 1 (.tmp 22)), none⟩] []) (
  .block 0 (
   .seq (
    .seq (
     .region false [⟨(some 25), (.bin .eql (.tmp 23) (.cst (.d (.int .i64 1)))), none⟩, ⟨(some 24), (.mv (.tmp 25)), none⟩] []) (
    .cond (.tmp 24) (
     .skip) (
     .seq (
      .region false [⟨(some 26), (.bin .eql (.tmp 23) (.cst (.d (.int .i64 3)))), none⟩, ⟨(some 24), (.mv (.tmp 26)), none⟩] []) (
     .cond (.tmp 24) (
      .skip) (
      .region false [⟨(some 27), (.bin .eql (.tmp 23) (.cst (.d (.int .i64 5)))), none⟩, ⟨(some 24), (.mv (.tmp 27)), none⟩] []))))) (
   .cond (.tmp 24) (
    .seq (
     .region true [⟨(some 28), (.mv (.tmp 1)), none⟩,
       ⟨(some 29), (.fieldAddr 1 (.tmp 5)), none⟩,
       ⟨(some 30), (.load false 1 (.tmp 29)), none⟩,
       ⟨(some 31), (.idxAddr 1 (.tmp 28) (.tmp 30)), none⟩,
       ⟨(some 32), (.load false 1 (.tmp 31)), none⟩,
       ⟨(some 33), (.fieldAddr 2 (.tmp 5)), none⟩,
       ⟨(some 34), (.load false 1 (.tmp 33)), none⟩,
       ⟨(some 35), (.bin .neq (.tmp 32) (.tmp 34)), none⟩] []) (
    .cond (.tmp 35) (
     .seq (
      .region false [⟨(some 6), (.mv (.cst (.d (.list [] true)))), none⟩, ⟨(some 7), (.mv (.cst (.d (.int .i64 3)))), none⟩] []) (
     .ret)) (
     .skip))) (
    .skip))))) (
 .seq (
  .seq (
   .region false [⟨(some 36), (.fieldAddr 0 (.tmp 5)), none⟩, ⟨(some 37), (.load false 1 (.tmp 36)), none⟩] []) (
  .block 1 (
   .seq (
    .seq (
     .region false [⟨(some 39), (.bin .eql (.tmp 37) (.cst (.d (.int .i64 2)))), none⟩, ⟨(some 38), (.mv (.tmp 39)), none⟩] []) (
    .cond (.tmp 38) (
     .skip) (
     .seq (
      .region false [⟨(some 40), (.bin .eql (.tmp 37) (.cst (.d (.int .i64 4)))), none⟩, ⟨(some 38), (.mv (.tmp 40)), none⟩] []) (
     .cond (.tmp 38) (
      .skip) (
      .region false [⟨(some 41), (.bin .eql (.tmp 37) (.cst (.d (.int .i64 5)))), none⟩, ⟨(some 38), (.mv (.tmp 41)), none⟩] []))))) (
   .cond (.tmp 38) (
    .region false [⟨(some 42), (.mv (.tmp 8)), none⟩,
      ⟨(some 43), (.fieldAddr 1 (.tmp 5)), none⟩,
      ⟨(some 44), (.load false 1 (.tmp 43)), none⟩,
      ⟨(some 45), (.fieldAddr 3 (.tmp 5)), none⟩,
      ⟨(some 46), (.load false 1 (.tmp 45)), none⟩,
      ⟨(some 47), (.idxAddr 1 (.tmp 42) (.tmp 44)), none⟩,
      ⟨none, (.store 1 (.tmp 47) (.tmp 46)), none⟩] []) (
    .skip))))) (
 .seq (
  .region false [⟨(some 48), (.mv (.tmp 8)), none⟩,
    ⟨(some 6), (.mv (.tmp 48)), none⟩,
    ⟨(some 7), (.mv (.cst (.d (.int .i64 0)))), none⟩] []) (
 .ret))))))
def R_seq_Do : List LRes := [(.tmp 6), (.tmp 7)]
def V_seq_Do : List Nat := [2, 1, 0, 5, 19, 23, 24, 35, 37, 38, 8, 6, 7]

def L_seq_Lift (n_seq_Run : Nat) (n_rat_After : Nat) : LCode :=
 .seq (
  .region false [⟨(some 4), (.mv (.cst (.d (.list [] true)))), none⟩, ⟨(some 5), (.mv (.cst (.d (.int .i64 0)))), none⟩] []) (
 .seq (
  .region false [⟨(some 6), (.mv (.cst (.d (.list [] true)))), none⟩] []) (
 .seq (
  .seq (
   .region false [⟨(some 19), (.mv (.tmp 1)), none⟩,
     ⟨(some 20), (.len (.tmp 19)), none⟩,
     ⟨(some 21), (.mv (.cst (.d (.int .i64 0)))), none⟩] []) (
  .block 0 (
   .loop (
    .seq (
     .region false [⟨(some 22), (.bin .lss (.tmp 21) (.tmp 20)), none⟩] []) (
    .seq (
     .cond (.tmp 22) (
      .skip) (
      (.exit 0))) (
    .seq (
     .block 1 (
      .seq (
       .region false [⟨(some 23), (.idxAddr 7 (.tmp 19) (.tmp 21)), none⟩,
         ⟨(some 24), (.load true 7 (.tmp 23)), none⟩,
         ⟨(some 8), (.alloc 0 7 [(.d (.int .i64 0)), (.d (.int .i64 0)), (.d (.int .i64 0)), (.d (.int .i64 0)), (.d (.int .i64 0)), (.d (.int .i64 0)), (.d (.int .i64 0))]), none⟩,
         ⟨none, (.store 7 (.tmp 8) (.tmp 24)), none⟩] []) (
      .region false [⟨(some 25), (.mv (.tmp 6)), none⟩,
        ⟨(some 26), (.fieldAddr 1 (.tmp 8)), none⟩,
        ⟨(some 27), (.load true 4 (.tmp 26)), none⟩,
        ⟨(some 28), (.bslice 0 4 1 [(.d (.int .i64 0)), (.d (.int .i64 0)), (.d (.int .i64 0)), (.d (.int .i64 0))] [(0, (.tmp 27))]), none⟩,
        ⟨(some 29), (.append 1 4 32 (.tmp 25) (.tmp 28)), none⟩,
        ⟨(some 6), (.mv (.tmp 29)), none⟩] []))) (
    .region false [⟨(some 30), (.bin .add (.tmp 21) (.cst (.d (.int .i64 1)))), none⟩, ⟨(some 21), (.mv (.tmp 30)), none⟩] []))))))) (
 .seq (
  .seq (
   .region false [⟨(some 32), (.mv (.tmp 0)), none⟩,
     ⟨(some 33), (.mv (.tmp 6)), none⟩,
     ⟨(some 34), (.call 0 false (.cst (.d (.fn n_seq_Run))) [(.tmp 32), (.tmp 33)]), none⟩,
     ⟨(some 31), (.mv (.tmp 34)), none⟩,
     ⟨(some 35), (.extract 0 (.tmp 31)), none⟩,
     ⟨(some 36), (.extract 1 (.tmp 31)), none⟩,
     ⟨(some 37), (.extract 2 (.tmp 31)), none⟩,
     ⟨(some 9), (.mv (.tmp 35)), none⟩,
     ⟨(some 10), (.mv (.tmp 36)), none⟩,
     ⟨(some 11), (.mv (.tmp 37)), none⟩] []) (
  .seq (
   .region false [⟨(some 38), (.mv (.tmp 11)), none⟩, ⟨(some 39), (.bin .neq (.tmp 38) (.cst (.d (.int .i64 0)))), none⟩] []) (
  .cond (.tmp 39) (
   .seq (
    .region false [⟨(some 40), (.mv (.tmp 11)), none⟩,
      ⟨(some 4), (.mv (.cst (.d (.list [] true)))), none⟩,
      ⟨(some 5), (.mv (.tmp 40)), none⟩] []) (
   .ret)) (
   .skip)))) (
 .seq (
  .region false [⟨(some 41), (.mv (.tmp 0)), none⟩,
    ⟨(some 42), (.len (.tmp 41)), none⟩,
    ⟨(some 43), (.mkslice 0 2 16 [(.d (.int .i64 0)), (.d (.int .i64 0))] (.tmp 42) (.tmp 42)), none⟩,
    ⟨(some 12), (.mv (.tmp 43)), none⟩] []) (
 .seq (
  .seq (
   .region false [⟨(some 44), (.mv (.tmp 12)), none⟩,
     ⟨(some 45), (.len (.tmp 44)), none⟩,
     ⟨(some 46), (.mv (.cst (.d (.int .i64 0)))), none⟩] []) (
  .block 2 (
   .loop (
    .seq (
     .region false [⟨(some 47), (.bin .lss (.tmp 46) (.tmp 45)), none⟩] []) (
    .seq (
     .cond (.tmp 47) (
      .skip) (
      (.exit 2))) (
    .seq (
     .block 3 (
      .seq (
       .region false [⟨(some 48), (.mv (.tmp 46)), none⟩, ⟨(some 13), (.mv (.tmp 48)), none⟩] []) (
      .region false [⟨(some 49), (.mv (.tmp 12)), none⟩,
        ⟨(some 50), (.mv (.tmp 13)), none⟩,
        ⟨(some 51), (.idxAddr 2 (.tmp 49) (.tmp 50)), none⟩,
        ⟨(some 52), (.fieldAddr 1 (.tmp 51)), none⟩,
        ⟨none, (.store 1 (.tmp 52) (.cst (.d (.int .i64 1)))), none⟩] []))) (
    .region false [⟨(some 53), (.bin .add (.tmp 46) (.cst (.d (.int .i64 1)))), none⟩, ⟨(some 46), (.mv (.tmp 53)), none⟩] []))))))) (
 .seq (
  .region false [⟨(some 14), (.mv (.cst (.d (.list [] true)))), none⟩] []) (
 .seq (
  .seq (
   .region false [⟨(some 54), (.mv (.tmp 1)), none⟩,
     ⟨(some 55), (.len (.tmp 54)), none⟩,
     ⟨(some 56), (.mv (.cst (.d (.int .i64 0)))), none⟩] []) (
  .block 4 (
   .loop (
    .seq (
     .region false [⟨(some 57), (.bin .lss (.tmp 56) (.tmp 55)), none⟩] []) (
    .seq (
     .cond (.tmp 57) (
      .skip) (
      (.exit 4))) (
    .seq (
     .block 5 (
      .seq (
       .region false [⟨(some 58), (.idxAddr 7 (.tmp 54) (.tmp 56)), none⟩,
         ⟨(some 59), (.load true 7 (.tmp 58)), none⟩,
         ⟨(some 16), (.alloc 0 7 [(.d (.int .i64 0)), (.d (.int .i64 0)), (.d (.int .i64 0)), (.d (.int .i64 0)), (.d (.int .i64 0)), (.d (.int .i64 0)), (.d (.int .i64 0))]), none⟩,
         ⟨none, (.store 7 (.tmp 16) (.tmp 59)), none⟩] []) (
      .seq (
       .region false [⟨(some 60), (.build [(.d (.int .i64 0)), (.d (.int .i64 0))] []), none⟩,
         ⟨(some 61), (.fieldAddr 5 (.tmp 16)), none⟩,
         ⟨none, (.store 2 (.tmp 61) (.tmp 60)), none⟩] []) (
      .seq (
       .seq (
        .region false [⟨(some 62), (.fieldAddr 1 (.tmp 16)), none⟩,
          ⟨(some 63), (.fieldAddr 0 (.tmp 62)), none⟩,
          ⟨(some 64), (.load false 1 (.tmp 63)), none⟩] []) (
       .block 6 (
        .seq (
         .region false [⟨(some 66), (.bin .eql (.tmp 64) (.cst (.d (.int .i64 2)))), none⟩, ⟨(some 65), (.mv (.tmp 66)), none⟩] []) (
        .cond (.tmp 65) (
         .seq (
          .region false [⟨(some 68), (.mv (.tmp 12)), none⟩,
            ⟨(some 69), (.fieldAddr 1 (.tmp 16)), none⟩,
            ⟨(some 70), (.fieldAddr 1 (.tmp 69)), none⟩,
            ⟨(some 71), (.load false 1 (.tmp 70)), none⟩,
            ⟨(some 72), (.idxAddr 2 (.tmp 68) (.tmp 71)), none⟩,
            ⟨(some 73), (.load true 2 (.tmp 72)), none⟩,
            ⟨(some 74), (.call 0 false (.cst (.d (.fn n_rat_After))) [(.tmp 73)]), none⟩,
            ⟨(some 67), (.mv (.tmp 74)), none⟩,
            ⟨(some 75), (.extract 0 (.tmp 67)), none⟩,
            ⟨(some 76), (.extract 1 (.tmp 67)), none⟩,
            ⟨(some 17), (.alloc 0 2 [(.d (.int .i64 0)), (.d (.int .i64 0))]), none⟩,
            ⟨none, (.store 2 (.tmp 17) (.tmp 75)), none⟩,
            ⟨(some 18), (.mv (.tmp 76)), none⟩] []) (
         .seq (
          .seq (
           .region false [⟨(some 77), (.mv (.tmp 18)), none⟩, ⟨(some 78), (.un .not (.tmp 77)), none⟩] []) (
          .cond (.tmp 78) (
           .seq (
            .region false [⟨(some 4), (.mv (.cst (.d (.list [] true)))), none⟩, ⟨(some 5), (.mv (.cst (.d (.int .i64 15)))), none⟩] []) (
           .ret)) (
           .skip))) (
         .seq (
          .region false [⟨(some 79), (.mv (.tmp 12)), none⟩,
            ⟨(some 80), (.fieldAddr 1 (.tmp 16)), none⟩,
            ⟨(some 81), (.fieldAddr 1 (.tmp 80)), none⟩,
            ⟨(some 82), (.load false 1 (.tmp 81)), none⟩,
            ⟨(some 83), (.load true 2 (.tmp 17)), none⟩,
            ⟨(some 84), (.idxAddr 2 (.tmp 79) (.tmp 82)), none⟩,
            ⟨none, (.store 2 (.tmp 84) (.tmp 83)), none⟩] []) (
         .region false [⟨(some 85), (.load true 2 (.tmp 17)), none⟩,
           ⟨(some 86), (.fieldAddr 5 (.tmp 16)), none⟩,
           ⟨none, (.store 2 (.tmp 86) (.tmp 85)), none⟩] [])))) (
         .seq (
          .region false [⟨(some 88), (.bin .eql (.tmp 64) (.cst (.d (.int .i64 1)))), none⟩, ⟨(some 87), (.mv (.tmp 88)), none⟩] []) (
         .cond (.tmp 87) (
          .region false [⟨(some 89), (.mv (.tmp 12)), none⟩,
            ⟨(some 90), (.fieldAddr 1 (.tmp 16)), none⟩,
            ⟨(some 91), (.fieldAddr 1 (.tmp 90)), none⟩,
            ⟨(some 92), (.load false 1 (.tmp 91)), none⟩,
            ⟨(some 93), (.idxAddr 2 (.tmp 89) (.tmp 92)), none⟩,
            ⟨(some 94), (.load true 2 (.tmp 93)), none⟩,
            ⟨(some 95), (.fieldAddr 5 (.tmp 16)), none⟩,
            ⟨none, (.store 2 (.tmp 95) (.tmp 94)), none⟩] []) (
          .skip))))))) (
      .region false [⟨(some 96), (.mv (.tmp 14)), none⟩,
        ⟨(some 97), (.load true 7 (.tmp 16)), none⟩,
        ⟨(some 98), (.bslice 0 7 1 [(.d (.int .i64 0)), (.d (.int .i64 0)), (.d (.int .i64 0)), (.d (.int .i64 0)), (.d (.int .i64 0)), (.d (.int .i64 0)), (.d (.int .i64 0))] [(0, (.tmp 97))]), none⟩,
        ⟨(some 99), (.append 1 7 56 (.tmp 96) (.tmp 98)), none⟩,
        ⟨(some 14), (.mv (.tmp 99)), none⟩] []))))) (
    .region false [⟨(some 100), (.bin .add (.tmp 56) (.cst (.d (.int .i64 1)))), none⟩, ⟨(some 56), (.mv (.tmp 100)), none⟩] []))))))) (
 .seq (
  .region false [⟨(some 101), (.mv (.tmp 14)), none⟩,
    ⟨(some 4), (.mv (.tmp 101)), none⟩,
    ⟨(some 5), (.mv (.cst (.d (.int .i64 0)))), none⟩] []) (
 .ret)))))))))
def R_seq_Lift : List LRes := [(.tmp 4), (.tmp 5)]
def V_seq_Lift : List Nat := [1, 21, 20, 22, 19, 6, 8, 0, 11, 39, 12, 46, 45, 47, 13, 56, 55, 57, 54, 16, 64, 65, 18, 78, 17, 87, 14, 4, 5]

end Go.Ago
