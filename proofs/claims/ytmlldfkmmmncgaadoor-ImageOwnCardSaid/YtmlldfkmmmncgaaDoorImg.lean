/- What chips have, the chapter's example: plain numbers and lists. -/
import Derived.Test.YtmlldfkmmmncgaaDoorAx3
import Derived.Test.YtmlldfkmmmncgaaDoorSame
set_option linter.unusedVariables false
set_option linter.unusedSimpArgs false
namespace Go.Proofs.YtmlldfkmmmncgaaDoor.Pure
open Go.RowKit Go.Proofs.YtmlldfkmmmncgaaDoor.All Go.Proofs.YtmlldfkmmmncgaaDoor.Given Go.Proofs.YtmlldfkmmmncgaaDoorW.PrintWords Go.Proofs.YtmlldfkmmmncgaaDoorW.PrintLast

theorem w64 (n : Int) (h0 : -9223372036854775808 ≤ n) (h1 : n ≤ 9223372036854775807) : wrap64 n = n := by unfold wrap64; omega
def rightB (a b c : Int) : Bool := decide (0 ≤ a ∧ a ≤ 10 ∧ 0 ≤ b ∧ b ≤ 64 ∧ 0 ≤ c ∧ c ≤ 128)
theorem right_ref (a b c : Int) : keepsakeref03_Right.f a b c = some (rightB a b c) := by
  unfold keepsakeref03_Right.f rightB
  by_cases h1 : a ≥ 0 <;> by_cases h2 : a ≤ 10 <;> by_cases h3 : b ≥ 0 <;> by_cases h4 : b ≤ 64 <;> by_cases h5 : c ≥ 0 <;> simp [h1, h2, h3, h4, h5] <;> omega
theorem right_geo (a b c : Int) : geo_Right.f a b c = some (rightB a b c) := by
  rw [← right_ref]
  unfold geo_Right.f keepsakeref03_Right.f geo_within.f
  by_cases h1 : a ≥ 0 <;> by_cases h2 : a ≤ 10 <;> by_cases h3 : b ≥ 0 <;> by_cases h4 : b ≤ 64 <;> by_cases h5 : c ≥ 0 <;> simp [h1, h2, h3, h4, h5]
theorem pow_bd (a : Int) : 0 ≤ pow a 0 ∧ pow a 0 ≤ 65536 := by
  by_cases h : 1 ≤ a ∧ a ≤ 10
  · rcases ten a h with rfl | rfl | rfl | rfl | rfl | rfl | rfl | rfl | rfl | rfl <;> decide
  · unfold pow; rw [if_neg h]; decide
theorem pow_low (a : Int) (h : a ≤ 6) : pow a 0 ≤ 4096 := by
  by_cases h1 : 1 ≤ a ∧ a ≤ 10
  · rcases ten a h1 with rfl | rfl | rfl | rfl | rfl | rfl | rfl | rfl | rfl | rfl <;> first | decide | omega
  · unfold pow; rw [if_neg h1]; decide
theorem eeprom_geo (a : Int) : geo_Eeprom.f a = some (pow a 0) := by unfold geo_Eeprom.f geo_power.f; rfl
theorem eeprom_ref (a : Int) : keepsakeref03_Eeprom.f a = some (pow a 0) := by
  by_cases h : 1 ≤ a ∧ a ≤ 10
  · rcases ten a h with rfl | rfl | rfl | rfl | rfl | rfl | rfl | rfl | rfl | rfl <;> decide +kernel
  · unfold keepsakeref03_Eeprom.f keepsakeref03_at.f pow
    rw [if_neg h]
    by_cases h1 : a < 1
    · rw [if_pos h1]; rfl
    · rw [if_neg h1, if_pos (by omega)]; rfl
def flashOf (b : Int) : Int := if 0 ≤ b ∧ b ≤ 64 then b * 256 else 0
def sramOf (c : Int) : Int := if 0 ≤ c ∧ c ≤ 128 then c * 64 else 0
theorem flash_bd (b : Int) : 0 ≤ flashOf b ∧ flashOf b ≤ 16384 := by unfold flashOf; split <;> omega
theorem sram_bd (c : Int) : 0 ≤ sramOf c ∧ sramOf c ≤ 8192 := by unfold sramOf; split <;> omega
theorem flash_geo (b : Int) : geo_Flash.f b = some (flashOf b) := by
  unfold geo_Flash.f geo_within.f flashOf
  by_cases h0 : b ≥ 0
  · rw [if_pos h0, Option.bind_some]
    by_cases h1 : b ≤ 64
    · rw [decide_eq_true h1, if_pos rfl, if_pos ⟨h0, h1⟩, w64 _ (by omega) (by omega)]
    · rw [decide_eq_false h1, if_neg (by decide), if_neg (fun h => h1 h.2)]
  · rw [if_neg h0, Option.bind_some, if_neg (by decide), if_neg (fun h => h0 h.1)]
theorem sram_geo (c : Int) : geo_Sram.f c = some (sramOf c) := by
  unfold geo_Sram.f geo_within.f sramOf
  by_cases h0 : c ≥ 0
  · rw [if_pos h0, Option.bind_some]
    by_cases h1 : c ≤ 128
    · rw [decide_eq_true h1, if_pos rfl, if_pos ⟨h0, h1⟩, w64 _ (by omega) (by omega)]
    · rw [decide_eq_false h1, if_neg (by decide), if_neg (fun h => h1 h.2)]
  · rw [if_neg h0, Option.bind_some, if_neg (by decide), if_neg (fun h => h0 h.1)]
theorem flash_ref (b : Int) : keepsakeref03_Flash.f b = some (flashOf b) := by
  unfold keepsakeref03_Flash.f flashOf
  by_cases h0 : b < 0
  · rw [if_pos h0, if_neg (by omega)]
  · rw [if_neg h0]
    by_cases h1 : b > 64
    · rw [if_pos h1, if_neg (by omega)]
    · rw [if_neg h1, if_pos (by omega), w64 _ (by omega) (by omega), Int.mul_comm]
theorem sram_ref (c : Int) : keepsakeref03_Sram.f c = some (sramOf c) := by
  unfold keepsakeref03_Sram.f sramOf
  by_cases h0 : c < 0
  · rw [if_pos h0, if_neg (by omega)]
  · rw [if_neg h0]
    by_cases h1 : c > 128
    · rw [if_pos h1, if_neg (by omega)]
    · rw [if_neg h1, if_pos (by omega), w64 _ (by omega) (by omega), Int.mul_comm]
theorem sizes_f (a b c : Int) : image_sizes.f a b c = some (pow a 0, flashOf b, sramOf c) := by
  unfold image_sizes.f
  rw [eeprom_geo, flash_geo, sram_geo]
  rfl
theorem total_ref (a b c : Int) (h : rightB a b c = true) : keepsakeref03_Total.f a b c = some (pow a 0 + flashOf b + sramOf c) := by
  have h1 := pow_bd a
  have h2 := flash_bd b
  have h3 := sram_bd c
  unfold keepsakeref03_Total.f
  rw [right_ref, h, Option.bind_some, if_pos rfl, eeprom_ref, flash_ref, sram_ref]
  simp only [Option.bind_some]
  rw [w64 (pow a 0 + flashOf b) (by omega) (by omega), w64 _ (by omega) (by omega)]
theorem factory_f (a b c : Int) : image_Factory.f a b c = some (if rightB a b c = true then (ff ((pow a 0).toNat + (flashOf b).toNat) ++ List.replicate (sramOf c).toNat 0, 0) else ([], 9)) := by
  have h1 := pow_bd a
  have h2 := flash_bd b
  have h3 := sram_bd c
  unfold image_Factory.f
  rw [right_geo, Option.bind_some, sizes_f]
  cases h : rightB a b c
  · rfl
  · rw [if_pos rfl, if_pos rfl, Option.bind_some]
    exact if_pos ⟨h1.1, h2.1, h3.1, by show pow a 0 + flashOf b ≤ 1000000; omega, by show sramOf c ≤ 1000000; omega⟩
theorem awake_f (k : Nat) (hk : 3 ≤ k) : keepsakelaw05_awake.f k = some true := by
  obtain ⟨k, rfl⟩ : ∃ m, k = m + 3 := ⟨k - 3, by omega⟩
  have e1 : image_Cut.f [1, 2, 3] 2 = some ([[1, 2], [3, 0]], 0) := rfl
  have e2 : image_Factory.f 0 0 1 = some (List.replicate 64 0, 0) := by rw [factory_f]; rfl
  have e3 : keepsakeref01_Same.f (k + 3) [3, 0] [3, 0] = some true := by rw [Same.same_f _ _ (by simp) _ (by simp)]; simp
  have e4 : image_Sectors.f 3 2 = some 2 := by decide +kernel
  have e5 : rd_L1 [[1, 2], [3, 0]] 1 = [3, 0] := rfl
  unfold keepsakelaw05_awake.f
  rw [e1, e2]
  simp only [Option.bind_some]
  rw [e5, e3, e4]
  simp
end Go.Proofs.YtmlldfkmmmncgaaDoor.Pure
