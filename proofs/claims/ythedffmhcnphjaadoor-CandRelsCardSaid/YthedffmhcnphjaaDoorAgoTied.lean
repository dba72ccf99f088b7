/- The table out of a row that lists it. Conditions: none. -/
import Derived.Test.YthedffmhcnphjaaDoorAgoP3
import Derived.LaidMore
import Derived.OpenShut
import Derived.Stop.Joined
set_option linter.unusedSimpArgs false
set_option linter.unusedVariables false
namespace Go.Ago
open Go.ChangeShapes Go.WideShapes Go.ChangeAt Go.WideMaps Go.WideElems Go.RowKit

def tabD {H : Type} : DataW H := .agg ((List.range 64).map fun i => .lit (.int .u8 (tabNum i)))

theorem tab_of_laid {P : Program} {W : World} {g tA tE : Nat} {d : DataW Unit} (hd : d = tabD) (hg : P.globalNamed "math/bits.deBruijn64tab" = some g) (ht : (P.globals[g]?).map (·.type) = some tA)
    (hA : P.underlying tA = some (.array 64 tE)) (hE : P.underlying tE = some (.int .u8)) (hc : P.cellsOf tE = 1) (hu : ((List.range P.globals.size).all fun b => !tabOf P b || b == g) = true)
    (h : laidMet P [("math/bits.deBruijn64tab", d)] W) : ∀ b, tabOf P b = true → TableAt W b := by
  intro b hb
  have hbg : b = g := by
    have hlt : b < P.globals.size := by
      unfold tabOf at hb
      split at hb
      · rename_i x hx
        rcases Nat.lt_or_ge b P.globals.size with h | h
        · exact h
        · rw [Array.getElem?_eq_none h] at hx; cases hx
      · cases hb
    have := List.all_eq_true.1 hu b (by simpa using hlt)
    rw [hb] at this
    simpa using this
  subst hbg
  obtain ⟨ps, ⟨g0, t0, cs0, f0, p0, q0, hg0, ht0, hv0, hd0, _, _⟩, _, _⟩ := h
  obtain rfl := Option.some.inj (hg.symm.trans hg0)
  obtain rfl := Option.some.inj (ht.symm.trans ht0)
  obtain ⟨xs, m1, rfl, hx1, hlen, hn3, hel⟩ := DataW.trod_array hA hd0
  simp only [Prod.mk.injEq] at hx1
  have hxs : xs.map (·.1) = (List.range 64).map fun i => DataW.lit (.int .u8 (tabNum i)) := by
    have := hx1.1
    rw [hd] at this
    unfold tabD at this
    simp only [DataW.agg.injEq] at this
    exact this.symm
  intro i hi
  have h0 := hel i hi
  rw [hc, Nat.mul_one] at h0
  have hi' : i < xs.length := by omega
  rw [List.getElem?_eq_getElem hi'] at h0
  obtain ⟨k, e1, e2, _⟩ := DataW.trod_int hE h0
  have e3 : xs[i].1 = .lit (.int .u8 (tabNum i)) := by
    have := congrArg (fun l => l[i]?) hxs
    simp only [List.getElem?_map, List.getElem?_eq_getElem hi', Option.map_some, List.getElem?_range hi, Option.some.injEq] at this
    exact this
  rw [e2] at e3
  have hk : k = tabNum i := by simpa using e3
  subst hk
  have hcell := World.var?_cell hg0 hv0 i
  rw [hcell]
  have e4 : (cs0.toList.drop i)[0]? = some (Value.int .u8 (tabNum i)) := by
    have := congrArg (fun l => l[0]?) e1
    simpa using this
  simpa using e4
end Go.Ago
