/- Lowered functions of a package, callees by their numbers. Printed by a program of this session. Conditions: none. -/
import Derived.Test.YtlphhmgfjdecjaaAgo27
set_option maxRecDepth 100000
set_option linter.unusedVariables false
namespace Go.Ago
def L_cmp_Less_float64 (n_cmp_isNaN_float64 : Nat) : LCode :=
 .seq (
  .region false [⟨(some 4), (.mv (.cst (.d (.bool false)))), none⟩] []) (
 .seq (
  .region false [⟨(some 5), (.mv (.tmp 0)), none⟩,
    ⟨(some 6), (.call 0 false (.cst (.d (.fn n_cmp_isNaN_float64))) [(.tmp 5)]), none⟩,
    ⟨(some 7), (.mv (.tmp 6)), none⟩,
    ⟨(some 8), (.mv (.tmp 1)), (some (7, true))⟩,
    ⟨(some 9), (.call 0 false (.cst (.d (.fn n_cmp_isNaN_float64))) [(.tmp 8)]), (some (7, true))⟩,
    ⟨(some 10), (.un .not (.tmp 9)), (some (7, true))⟩,
    ⟨(some 11), (.pick (.tmp 7) (.tmp 10) (.cst (.d (.bool false)))), none⟩,
    ⟨(some 12), (.mv (.tmp 11)), none⟩,
    ⟨(some 13), (.mv (.tmp 0)), (some (12, false))⟩,
    ⟨(some 14), (.mv (.tmp 1)), (some (12, false))⟩,
    ⟨(some 15), (.fl (.bin .lss) (.tmp 13) (.tmp 14)), (some (12, false))⟩,
    ⟨(some 16), (.pick (.tmp 12) (.cst (.d (.bool true))) (.tmp 15)), none⟩,
    ⟨(some 4), (.mv (.tmp 16)), none⟩] []) (
 .ret))
def R_cmp_Less_float64 : List LRes := [(.tmp 4)]
def V_cmp_Less_float64 : List Nat := [0, 1, 4]

def L_cmp_isNaN_float64 : LCode :=
 .seq (
  .region false [⟨(some 2), (.mv (.cst (.d (.bool false)))), none⟩] []) (
 .seq (
  .region false [⟨(some 3), (.mv (.tmp 0)), none⟩,
    ⟨(some 4), (.mv (.tmp 0)), none⟩,
    ⟨(some 5), (.fl (.bin .neq) (.tmp 3) (.tmp 4)), none⟩,
    ⟨(some 2), (.mv (.tmp 5)), none⟩] []) (
 .ret))
def R_cmp_isNaN_float64 : List LRes := [(.tmp 2)]
def V_cmp_isNaN_float64 : List Nat := [0, 2]

end Go.Ago
