/- That the table reads as listed gives its cells; and a start where it does. -/
import Derived.Test.YtmlldfkmmmncgaaDoorRows
import Derived.Test.YtmlldfkmmmncgaaDoorGeo
import Derived.ProofKit
import Derived.LaidMore
import Derived.OpenShut
import Derived.Stop.Joined
import Derived.Lib.LaidTab
set_option linter.unusedVariables false
set_option linter.unusedSimpArgs false
namespace Go.Proofs.YtmlldfkmmmncgaaDoor.Given
open Go.ChangeShapes Go.WideShapes Go.ChangeAt Go.RowKit

abbrev laidRows : List (String × DataW Unit) := [("keepsake/geo.rows", Rows.laid_keepsake_geo_rows)]
theorem gRows : Tryd.prog.globalNamed "keepsake/geo.rows" = some 1 := by kernel_rfl
theorem tRows : (Tryd.prog.globals[1]?).map (·.type) = some 72 := by kernel_rfl
theorem door_met (os : Os) (args : Array Value) : laidMetH Tryd.prog laidRows ((World.doorLaid Tryd.prog 25 os).forCall (fun _ _ => 0) ⟨#[], args, []⟩).memory :=
  laidMetH_of_parts3 (fuel := 8) (laidMet_of_run' 8 (by kernel_rfl) (by kernel_rfl)) (by kernel_rfl) (by kernel_rfl)
def four {H : Type} (i : Nat) : DataW H := Lib.tabData .i64 ((tab.drop (i * 4)).take 4)
theorem laid_four {H : Type} : (Rows.laid_keepsake_geo_rows : DataW H) = .agg ((List.range 11).map four) := by rfl
theorem of_laid {W : World} (h : laidMetH Tryd.prog laidRows W) : Laid W := by
  rw [MakeChecks.laidMetH_plain _ _ _ (by kernel_rfl)] at h
  obtain ⟨ps, ⟨g0, t0, cs0, f0, p0, q0, hg0, ht0, hv0, hd0, _, _⟩, _⟩ := h
  obtain rfl := Option.some.inj (gRows.symm.trans hg0)
  obtain rfl := Option.some.inj (tRows.symm.trans ht0)
  have c4 : Tryd.prog.cellsOf 69 = 4 := by kernel_rfl
  have c44 : Tryd.prog.cellsOf 72 = 44 := by kernel_rfl
  have c1 : Tryd.prog.cellsOf 3 = 1 := by kernel_rfl
  obtain ⟨xs, m, rfl, hx, hlen, hn, hel⟩ := DataW.trod_array Tryd.underlying72 hd0
  rw [laid_four] at hx
  simp only [Prod.mk.injEq, DataW.agg.injEq] at hx
  rw [c4] at hel
  rw [c44] at hlen
  have key : ∀ i, i < 11 → (cs0.toList.drop (i * 4)).take 4 = ((tab.drop (i * 4)).take 4).map fun z => Value.int .i64 z := by
    intro i hi
    have hi' : i < xs.length := by omega
    have e1 : xs[i].1 = four i := by
      have h2 := congrArg (fun l => l[i]?) hx.1
      simpa [hi, hi'] using h2.symm
    have h3 := hel i hi
    rw [List.getElem?_eq_getElem hi'] at h3
    have e2 : xs[i] = (four i, xs[i].2) := by rw [← e1]
    rw [e2] at h3
    exact Lib.cells_of_tab Tryd.underlying69 Tryd.underlying3 c1 c4 h3
  have cells : ∀ j, j < 44 → W.cell? ⟨1, j, none⟩ = some (.int .i64 (tab.getD j 0)) := by
    intro j hj
    rw [World.var?_cell hg0 hv0 j]
    have h4 := congrArg (fun l => l[j % 4]?) (key (j / 4) (by omega))
    simp only [List.getElem?_take, List.getElem?_drop, List.getElem?_map] at h4
    rw [if_pos (by omega), if_pos (by omega), show j / 4 * 4 + j % 4 = j from by omega] at h4
    rw [show tab.getD j 0 = tab[j]'(by simpa [tab] using hj) from by rw [List.getD_eq_getElem?_getD, List.getElem?_eq_getElem (by simpa [tab] using hj)]; rfl]
    rw [List.getElem?_eq_getElem (show j < tab.length by simpa [tab] using hj)] at h4
    simpa using h4
  exact ⟨World.block_lt_of_cell? W ⟨1, 0, none⟩ (cells 0 (by omega)), cells⟩
end Go.Proofs.YtmlldfkmmmncgaaDoor.Given
