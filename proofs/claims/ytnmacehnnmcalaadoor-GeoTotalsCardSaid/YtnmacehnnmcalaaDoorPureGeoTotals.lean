/- Whether any chips can be, and how many bytes they have, is as the document says: for every three numbers. -/
import Derived.Test.YtnmacehnnmcalaaDoorAx8
import Derived.Test.YtnmacehnnmcalaaDoorPureGeoTells
set_option linter.unusedVariables false
set_option linter.unusedSimpArgs false
namespace Go.Proofs.YtnmacehnnmcalaaDoor.Pure
open Go.RowKit Go.Proofs.YtnmacehnnmcalaaDoor.All Go.Proofs.YtnmacehnnmcalaaDoor.Given Go.Proofs.YtnmacehnnmcalaaDoorW.PrintWords Go.Proofs.YtnmacehnnmcalaaDoorW.PrintLast

def rightB (a b c : Int) : Bool := decide (0 ≤ a ∧ a ≤ 10 ∧ 0 ≤ b ∧ b ≤ 64 ∧ 0 ≤ c ∧ c ≤ 128)
theorem right_ref (a b c : Int) : keepsakeref03_Right.f a b c = some (rightB a b c) := by
  unfold keepsakeref03_Right.f rightB
  by_cases h1 : a ≥ 0 <;> by_cases h2 : a ≤ 10 <;> by_cases h3 : b ≥ 0 <;> by_cases h4 : b ≤ 64 <;> by_cases h5 : c ≥ 0 <;> simp [h1, h2, h3, h4, h5] <;> omega
theorem right_geo (a b c : Int) : geo_Right.f a b c = some (rightB a b c) := by
  rw [← right_ref]
  unfold geo_Right.f keepsakeref03_Right.f geo_within.f
  by_cases h1 : a ≥ 0 <;> by_cases h2 : a ≤ 10 <;> by_cases h3 : b ≥ 0 <;> by_cases h4 : b ≤ 64 <;> by_cases h5 : c ≥ 0 <;> simp [h1, h2, h3, h4, h5]
theorem total_eq (a b c : Int) : geo_Total.f a b c = keepsakeref03_Total.f a b c := by
  unfold geo_Total.f keepsakeref03_Total.f
  rw [right_geo, right_ref, eeprom_eq, flash_eq, sram_eq]
theorem total_some (a b c : Int) : ∃ r, keepsakeref03_Total.f a b c = some r := by
  unfold keepsakeref03_Total.f
  rw [right_ref, Option.bind_some]
  cases rightB a b c
  · exact ⟨0, by simp⟩
  · obtain ⟨r1, h1⟩ := eeprom_some a
    obtain ⟨r2, h2⟩ := flash_some b
    obtain ⟨r3, h3⟩ := sram_some c
    rw [if_pos rfl, h1, h2, h3]
    exact ⟨_, rfl⟩
theorem GeoTotals : keepsakelaw03_GeoTotals.Pure := by
  intro a b c _ _ _
  obtain ⟨r, h⟩ := total_some a b c
  unfold keepsakelaw03_GeoTotals.f
  rw [awake, right_geo, right_ref, total_eq, h]
  simp

end Go.Proofs.YtnmacehnnmcalaaDoor.Pure
