/- What any kind of EEPROM has, and any number of sectors, or units, is as the document says: for every three numbers. -/
import Derived.Test.YtnmacehnnmcalaaDoorAx3
set_option linter.unusedVariables false
set_option linter.unusedSimpArgs false
namespace Go.Proofs.YtnmacehnnmcalaaDoor.Pure
open Go.RowKit Go.Proofs.YtnmacehnnmcalaaDoor.All Go.Proofs.YtnmacehnnmcalaaDoor.Given Go.Proofs.YtnmacehnnmcalaaDoorW.PrintWords Go.Proofs.YtnmacehnnmcalaaDoorW.PrintLast

theorem w64 (n : Int) (h0 : -9223372036854775808 ≤ n) (h1 : n ≤ 9223372036854775807) : wrap64 n = n := by unfold wrap64; omega
theorem kind_cases (k : Int) (P : Int → Prop) (hin : ∀ n : Fin 11, P ((n.val : Nat) : Int)) (hout : (k < 1 ∨ k > 10) → P k) : P k := by
  by_cases h : k < 1 ∨ k > 10
  · exact hout h
  · have := hin ⟨k.toNat, by omega⟩
    simpa [show ((k.toNat : Nat) : Int) = k from by omega] using this
theorem pow_out (k : Int) (c : Nat) (h : k < 1 ∨ k > 10) : pow k c = 0 := by unfold pow; rw [if_neg (by omega)]
theorem col_out (k : Int) (c : Nat) (h : k < 1 ∨ k > 10) : col k c = 0 := by unfold col; rw [if_neg (by omega)]
theorem at_out (l : List Int) (k : Int) (h : k < 1 ∨ k > 10) : keepsakeref03_at.f l k = some 0 := by
  unfold keepsakeref03_at.f
  by_cases h1 : k < 1
  · rw [if_pos h1]
  · rw [if_neg h1, if_pos (by omega)]
theorem eeprom_eq (k : Int) : geo_Eeprom.f k = keepsakeref03_Eeprom.f k :=
  kind_cases k (fun k => geo_Eeprom.f k = keepsakeref03_Eeprom.f k) (by decide +kernel) fun h => by
    unfold geo_Eeprom.f keepsakeref03_Eeprom.f geo_power.f
    rw [at_out _ k h, if_pos rfl, pow_out k 0 h]
theorem page_eq (k : Int) : geo_Page.f k = keepsakeref03_Page.f k :=
  kind_cases k (fun k => geo_Page.f k = keepsakeref03_Page.f k) (by decide +kernel) fun h => by
    unfold geo_Page.f keepsakeref03_Page.f geo_power.f
    rw [at_out _ k h, if_neg (by decide), if_pos rfl, pow_out k 1 h]
theorem wide_eq (k : Int) : geo_Wide.f k = keepsakeref03_Wide.f k :=
  kind_cases k (fun k => geo_Wide.f k = keepsakeref03_Wide.f k) (by decide +kernel) fun h => by
    unfold geo_Wide.f keepsakeref03_Wide.f
    rw [at_out _ k h, col_out k 2 h]
    rfl
theorem blocks_eq (k : Int) : geo_Blocks.f k = keepsakeref03_Blocks.f k :=
  kind_cases k (fun k => geo_Blocks.f k = keepsakeref03_Blocks.f k) (by decide +kernel) fun h => by
    unfold geo_Blocks.f keepsakeref03_Blocks.f
    rw [at_out _ k h, col_out k 3 h]
    rfl
theorem flash_eq (n : Int) : geo_Flash.f n = keepsakeref03_Flash.f n := by
  unfold geo_Flash.f keepsakeref03_Flash.f geo_within.f
  by_cases h0 : n < 0
  · rw [if_neg (by omega), if_pos h0]; rfl
  · rw [if_pos (by omega), if_neg h0, Option.bind_some]
    by_cases h1 : n > 64
    · rw [if_pos h1, if_neg (by simp; omega)]
    · rw [if_neg h1, if_pos (by simp; omega), Int.mul_comm]
theorem sram_eq (n : Int) : geo_Sram.f n = keepsakeref03_Sram.f n := by
  unfold geo_Sram.f keepsakeref03_Sram.f geo_within.f
  by_cases h0 : n < 0
  · rw [if_neg (by omega), if_pos h0]; rfl
  · rw [if_pos (by omega), if_neg h0, Option.bind_some]
    by_cases h1 : n > 128
    · rw [if_pos h1, if_neg (by simp; omega)]
    · rw [if_neg h1, if_pos (by simp; omega), Int.mul_comm]
theorem eeprom_some (k : Int) : ∃ r, keepsakeref03_Eeprom.f k = some r := by rw [← eeprom_eq]; exact ⟨pow k 0, rfl⟩
theorem page_some (k : Int) : ∃ r, keepsakeref03_Page.f k = some r := by rw [← page_eq]; exact ⟨pow k 1, rfl⟩
theorem wide_some (k : Int) : ∃ r, keepsakeref03_Wide.f k = some r := by rw [← wide_eq]; exact ⟨_, rfl⟩
theorem blocks_some (k : Int) : ∃ r, keepsakeref03_Blocks.f k = some r := by rw [← blocks_eq]; exact ⟨_, rfl⟩
theorem flash_some (n : Int) : ∃ r, keepsakeref03_Flash.f n = some r := by
  unfold keepsakeref03_Flash.f
  by_cases h0 : n < 0
  · exact ⟨0, if_pos h0⟩
  · rw [if_neg h0]
    by_cases h1 : n > 64
    · exact ⟨0, if_pos h1⟩
    · exact ⟨_, if_neg h1⟩
theorem sram_some (n : Int) : ∃ r, keepsakeref03_Sram.f n = some r := by
  unfold keepsakeref03_Sram.f
  by_cases h0 : n < 0
  · exact ⟨0, if_pos h0⟩
  · rw [if_neg h0]
    by_cases h1 : n > 128
    · exact ⟨0, if_pos h1⟩
    · exact ⟨_, if_neg h1⟩
theorem awake : keepsakelaw03_awake.f = some true := by decide +kernel
theorem GeoTells : keepsakelaw03_GeoTells.Pure := by
  intro k n m _ _ _
  obtain ⟨r1, h1⟩ := eeprom_some k
  obtain ⟨r2, h2⟩ := page_some k
  obtain ⟨r3, h3⟩ := wide_some k
  obtain ⟨r4, h4⟩ := blocks_some k
  obtain ⟨r5, h5⟩ := flash_some n
  obtain ⟨r6, h6⟩ := sram_some m
  unfold keepsakelaw03_GeoTells.f
  rw [awake, eeprom_eq, page_eq, wide_eq, blocks_eq, flash_eq, sram_eq, h1, h2, h3, h4, h5, h6]
  simp

end Go.Proofs.YtnmacehnnmcalaaDoor.Pure
