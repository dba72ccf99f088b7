/- Lowered functions of a package, callees by their numbers. Printed by a program of this session. Conditions: none. -/
import Derived.Test.YtlphhmgfjdecjaaAgo27
set_option maxRecDepth 100000
set_option linter.unusedVariables false
namespace Go.Ago
def L_ref03_Rank (n_ref03_NaN : Nat) : LCode :=
 .seq (
  .region false [⟨(some 2), (.mv (.cst (.d (.int .u64 0)))), none⟩] []) (
 .seq (
  .seq (
   .region false [⟨(some 4), (.mv (.tmp 0)), none⟩, ⟨(some 5), (.call 0 false (.cst (.d (.fn n_ref03_NaN))) [(.tmp 4)]), none⟩] []) (
  .cond (.tmp 5) (
   .seq (
    .region false [⟨(some 2), (.mv (.cst (.d (.int .u64 0)))), none⟩] []) (
   .ret)) (
   .skip))) (
 .seq (
  .region false [⟨(some 6), (.mv (.tmp 0)), none⟩,
    ⟨(some 7), (.fl .bits (.tmp 6) (.tmp 6)), none⟩,
    ⟨(some 3), (.mv (.tmp 7)), none⟩] []) (
 .seq (
  .seq (
   .region false [⟨(some 8), (.mv (.tmp 3)), none⟩,
     ⟨(some 9), (.bin .shr (.tmp 8) (.cst (.d (.int .u64 63)))), none⟩,
     ⟨(some 10), (.bin .eql (.tmp 9) (.cst (.d (.int .u64 1)))), none⟩] []) (
  .cond (.tmp 10) (
   .seq (
    .region false [⟨(some 11), (.mv (.tmp 3)), none⟩,
      ⟨(some 12), (.un .xor (.tmp 11)), none⟩,
      ⟨(some 2), (.mv (.tmp 12)), none⟩] []) (
   .ret)) (
   .skip))) (
 .seq (
  .region false [⟨(some 13), (.mv (.tmp 3)), none⟩,
    ⟨(some 14), (.bin .or (.tmp 13) (.cst (.d (.int .u64 9223372036854775808)))), none⟩,
    ⟨(some 2), (.mv (.tmp 14)), none⟩] []) (
 .ret)))))
def R_ref03_Rank : List LRes := [(.tmp 2)]
def V_ref03_Rank : List Nat := [0, 5, 3, 10, 2]

def L_ref03_Least (n_ref03_Rank : Nat) : LCode :=
 .seq (
  .region false [⟨(some 2), (.mv (.cst (.d (.int .i64 0)))), none⟩] []) (
 .seq (
  .region false [⟨(some 3), (.mv (.cst (.d (.int .i64 (-1))))), none⟩] []) (
 .seq (
  .seq (
   .region false [⟨(some 5), (.mv (.tmp 0)), none⟩,
     ⟨(some 6), (.len (.tmp 5)), none⟩,
     ⟨(some 7), (.bin .sub (.tmp 6) (.cst (.d (.int .i64 1)))), none⟩,
     ⟨(some 4), (.mv (.tmp 7)), none⟩] []) (
  .block 0 (
   .loop (
    .seq (
     .seq (
      .region false [⟨(some 8), (.mv (.tmp 4)), none⟩, ⟨(some 9), (.bin .geq (.tmp 8) (.cst (.d (.int .i64 0)))), none⟩] []) (
     .cond (.tmp 9) (
      .skip) (
      (.exit 0)))) (
    .seq (
     .block 1 (
      .seq (
       .region true [⟨(some 12), (.mv (.tmp 3)), none⟩,
         ⟨(some 13), (.bin .lss (.tmp 12) (.cst (.d (.int .i64 0)))), none⟩,
         ⟨(some 14), (.mv (.tmp 13)), none⟩,
         ⟨(some 15), (.mv (.tmp 0)), (some (14, false))⟩,
         ⟨(some 16), (.mv (.tmp 4)), (some (14, false))⟩,
         ⟨(some 17), (.idxAddr 1 (.tmp 15) (.tmp 16)), (some (14, false))⟩,
         ⟨(some 18), (.load false 1 (.tmp 17)), (some (14, false))⟩,
         ⟨(some 19), (.call 0 false (.cst (.d (.fn n_ref03_Rank))) [(.tmp 18)]), (some (14, false))⟩,
         ⟨(some 20), (.mv (.tmp 0)), (some (14, false))⟩,
         ⟨(some 21), (.mv (.tmp 3)), (some (14, false))⟩,
         ⟨(some 22), (.idxAddr 1 (.tmp 20) (.tmp 21)), (some (14, false))⟩,
         ⟨(some 23), (.load false 1 (.tmp 22)), (some (14, false))⟩,
         ⟨(some 24), (.call 0 false (.cst (.d (.fn n_ref03_Rank))) [(.tmp 23)]), (some (14, false))⟩,
         ⟨(some 25), (.bin .leq (.tmp 19) (.tmp 24)), (some (14, false))⟩,
         ⟨(some 26), (.pick (.tmp 14) (.cst (.d (.bool true))) (.tmp 25)), none⟩] [(7, 11)]) (
      .cond (.tmp 26) (
       .region false [⟨(some 27), (.mv (.tmp 4)), none⟩, ⟨(some 3), (.mv (.tmp 27)), none⟩] []) (
       .skip)))) (
    .region false [⟨(some 10), (.mv (.tmp 4)), none⟩,
      ⟨(some 11), (.bin .sub (.tmp 10) (.cst (.d (.int .i64 1)))), none⟩,
      ⟨(some 4), (.mv (.tmp 11)), none⟩] [])))))) (
 .seq (
  .region false [⟨(some 28), (.mv (.tmp 3)), none⟩, ⟨(some 2), (.mv (.tmp 28)), none⟩] []) (
 .ret))))
def R_ref03_Least : List LRes := [(.tmp 2)]
def V_ref03_Least : List Nat := [0, 4, 9, 3, 26, 2]

def L_ref03_Alike (n_ref03_Rank : Nat) : LCode :=
 .seq (
  .region false [⟨(some 4), (.mv (.cst (.d (.bool false)))), none⟩] []) (
 .seq (
  .region false [⟨(some 5), (.mv (.tmp 0)), none⟩,
    ⟨(some 6), (.call 0 false (.cst (.d (.fn n_ref03_Rank))) [(.tmp 5)]), none⟩,
    ⟨(some 7), (.mv (.tmp 1)), none⟩,
    ⟨(some 8), (.call 0 false (.cst (.d (.fn n_ref03_Rank))) [(.tmp 7)]), none⟩,
    ⟨(some 9), (.bin .eql (.tmp 6) (.tmp 8)), none⟩,
    ⟨(some 4), (.mv (.tmp 9)), none⟩] []) (
 .ret))
def R_ref03_Alike : List LRes := [(.tmp 4)]
def V_ref03_Alike : List Nat := [0, 1, 4]

def L_ref03_NaN : LCode :=
 .seq (
  .region false [⟨(some 2), (.mv (.cst (.d (.bool false)))), none⟩] []) (
 .seq (
  .region false [⟨(some 4), (.mv (.tmp 0)), none⟩,
    ⟨(some 5), (.fl .bits (.tmp 4) (.tmp 4)), none⟩,
    ⟨(some 3), (.mv (.tmp 5)), none⟩] []) (
 .seq (
  .region false [⟨(some 6), (.mv (.tmp 3)), none⟩,
    ⟨(some 7), (.bin .shl (.tmp 6) (.cst (.d (.int .u64 1)))), none⟩,
    ⟨(some 8), (.bin .shr (.tmp 7) (.cst (.d (.int .u64 53)))), none⟩,
    ⟨(some 9), (.bin .eql (.tmp 8) (.cst (.d (.int .u64 2047)))), none⟩,
    ⟨(some 10), (.mv (.tmp 9)), none⟩,
    ⟨(some 11), (.mv (.tmp 3)), (some (10, true))⟩,
    ⟨(some 12), (.bin .shl (.tmp 11) (.cst (.d (.int .u64 12)))), (some (10, true))⟩,
    ⟨(some 13), (.bin .neq (.tmp 12) (.cst (.d (.int .u64 0)))), (some (10, true))⟩,
    ⟨(some 14), (.pick (.tmp 10) (.tmp 13) (.cst (.d (.bool false)))), none⟩,
    ⟨(some 2), (.mv (.tmp 14)), none⟩] []) (
 .ret)))
def R_ref03_NaN : List LRes := [(.tmp 2)]
def V_ref03_NaN : List Nat := [0, 3, 2]

end Go.Ago
