/- Whether chips can be, and how many bytes they have: the program's answer and the document's. -/
import Derived.Test.YtlinaijndlcfjaaDoorAx3
import Derived.Test.YtlinaijndlcfjaaDoorAx6
import Derived.Test.YtlinaijndlcfjaaDoorGeo
set_option linter.unusedVariables false
set_option linter.unusedSimpArgs false
namespace Go.Proofs.YtlinaijndlcfjaaDoor.Chips
open Go.RowKit Go.Proofs.YtlinaijndlcfjaaDoor.All Go.Proofs.YtlinaijndlcfjaaDoor.Given Go.Proofs.YtlinaijndlcfjaaDoorW.PrintWords Go.Proofs.YtlinaijndlcfjaaDoorW.PrintLast

theorem w64 (n : Int) (h0 : -9223372036854775808 ≤ n) (h1 : n ≤ 9223372036854775807) : wrap64 n = n := by unfold wrap64; omega
theorem kind_cases (k : Int) (P : Int → Prop) (hin : ∀ n : Fin 11, P ((n.val : Nat) : Int)) (hout : (k < 1 ∨ k > 10) → P k) : P k := by
  by_cases h : k < 1 ∨ k > 10
  · exact hout h
  · have := hin ⟨k.toNat, by omega⟩
    simpa [show ((k.toNat : Nat) : Int) = k from by omega] using this
theorem pow_out (k : Int) (c : Nat) (h : k < 1 ∨ k > 10) : pow k c = 0 := by unfold pow; rw [if_neg (by omega)]
theorem at_out (l : List Int) (k : Int) (h : k < 1 ∨ k > 10) : keepsakeref03_at.f l k = some 0 := by
  unfold keepsakeref03_at.f
  by_cases h1 : k < 1
  · rw [if_pos h1]
  · rw [if_neg h1, if_pos (by omega)]
theorem eeprom_eq (k : Int) : geo_Eeprom.f k = keepsakeref03_Eeprom.f k :=
  kind_cases k (fun k => geo_Eeprom.f k = keepsakeref03_Eeprom.f k) (by decide +kernel) fun h => by
    unfold geo_Eeprom.f keepsakeref03_Eeprom.f geo_power.f
    rw [at_out _ k h, if_pos rfl, pow_out k 0 h]
theorem flash_eq (n : Int) : geo_Flash.f n = keepsakeref03_Flash.f n := by
  unfold geo_Flash.f keepsakeref03_Flash.f geo_within.f
  by_cases h0 : n < 0
  · rw [if_neg (by omega), if_pos h0]; rfl
  · rw [if_pos (by omega), if_neg h0, Option.bind_some]
    by_cases h1 : n > 64
    · rw [if_pos h1, if_neg (by simp; omega)]
    · rw [if_neg h1, if_pos (by simp; omega), Int.mul_comm]
theorem sram_eq (n : Int) : geo_Sram.f n = keepsakeref03_Sram.f n := by
  unfold geo_Sram.f keepsakeref03_Sram.f geo_within.f
  by_cases h0 : n < 0
  · rw [if_neg (by omega), if_pos h0]; rfl
  · rw [if_pos (by omega), if_neg h0, Option.bind_some]
    by_cases h1 : n > 128
    · rw [if_pos h1, if_neg (by simp; omega)]
    · rw [if_neg h1, if_pos (by simp; omega), Int.mul_comm]
theorem eeprom_some (k : Int) : ∃ r, keepsakeref03_Eeprom.f k = some r := by rw [← eeprom_eq]; exact ⟨pow k 0, rfl⟩
theorem flash_some (n : Int) : ∃ r, keepsakeref03_Flash.f n = some r := by
  unfold keepsakeref03_Flash.f
  by_cases h0 : n < 0
  · exact ⟨0, if_pos h0⟩
  · rw [if_neg h0]
    by_cases h1 : n > 64
    · exact ⟨0, if_pos h1⟩
    · exact ⟨_, if_neg h1⟩
theorem sram_some (n : Int) : ∃ r, keepsakeref03_Sram.f n = some r := by
  unfold keepsakeref03_Sram.f
  by_cases h0 : n < 0
  · exact ⟨0, if_pos h0⟩
  · rw [if_neg h0]
    by_cases h1 : n > 128
    · exact ⟨0, if_pos h1⟩
    · exact ⟨_, if_neg h1⟩
def rightB (a b c : Int) : Bool := decide (0 ≤ a ∧ a ≤ 10 ∧ 0 ≤ b ∧ b ≤ 64 ∧ 0 ≤ c ∧ c ≤ 128)
theorem right_ref (a b c : Int) : keepsakeref03_Right.f a b c = some (rightB a b c) := by
  unfold keepsakeref03_Right.f rightB
  by_cases h1 : a ≥ 0 <;> by_cases h2 : a ≤ 10 <;> by_cases h3 : b ≥ 0 <;> by_cases h4 : b ≤ 64 <;> by_cases h5 : c ≥ 0 <;> simp [h1, h2, h3, h4, h5] <;> omega
theorem right_geo (a b c : Int) : geo_Right.f a b c = some (rightB a b c) := by
  rw [← right_ref]
  unfold geo_Right.f keepsakeref03_Right.f geo_within.f
  by_cases h1 : a ≥ 0 <;> by_cases h2 : a ≤ 10 <;> by_cases h3 : b ≥ 0 <;> by_cases h4 : b ≤ 64 <;> by_cases h5 : c ≥ 0 <;> simp [h1, h2, h3, h4, h5]
theorem total_eq (a b c : Int) : geo_Total.f a b c = keepsakeref03_Total.f a b c := by
  unfold geo_Total.f keepsakeref03_Total.f
  rw [right_geo, right_ref, eeprom_eq, flash_eq, sram_eq]
theorem total_some (a b c : Int) : ∃ r, keepsakeref03_Total.f a b c = some r := by
  unfold keepsakeref03_Total.f
  rw [right_ref, Option.bind_some]
  cases rightB a b c
  · exact ⟨0, by simp⟩
  · obtain ⟨r1, h1⟩ := eeprom_some a
    obtain ⟨r2, h2⟩ := flash_some b
    obtain ⟨r3, h3⟩ := sram_some c
    rw [if_pos rfl, h1, h2, h3]
    exact ⟨_, rfl⟩
theorem can_eq (a b c n s m : Int) : head_right.f a b c n s m = keepsakeref04_can.f a b c n s m := by
  unfold head_right.f keepsakeref04_can.f
  rw [right_geo, right_ref, total_eq]
/-- How many bytes all chips have. -/
def tot (a b c : Int) : Int := (geo_Total.f a b c).getD 0
theorem tot_f (a b c : Int) : geo_Total.f a b c = some (tot a b c) := by
  obtain ⟨r, h⟩ := total_some a b c
  unfold tot
  rw [total_eq, h]
  rfl
def canB (a b c n : Int) : Bool := rightB a b c && n == tot a b c
theorem can_f (a b c n s m : Int) : head_right.f a b c n s m = some (canB a b c n) := by
  unfold head_right.f canB
  rw [right_geo, tot_f, Option.bind_some]
  cases rightB a b c <;> simp
theorem pow_bd (k : Int) : 0 ≤ pow k 0 ∧ pow k 0 ≤ 65536 :=
  kind_cases k (fun k => 0 ≤ pow k 0 ∧ pow k 0 ≤ 65536) (by decide +kernel) fun h => by rw [pow_out k 0 h]; decide
theorem tot_bd (a b c : Int) : 0 ≤ tot a b c ∧ tot a b c ≤ 100000 := by
  unfold tot geo_Total.f
  rw [right_geo, Option.bind_some]
  cases hr : rightB a b c
  · rw [if_neg (by decide)]; decide
  · rw [if_pos rfl]
    have h := of_decide_eq_true hr
    obtain ⟨a0, a1, b0, b1, c0, c1⟩ := h
    have e1 : geo_Eeprom.f a = some (pow a 0) := rfl
    have e2 : geo_Flash.f b = some (b * 256) := by
      unfold geo_Flash.f geo_within.f
      rw [if_pos (by omega), Option.bind_some, if_pos (by simp; omega), w64 _ (by omega) (by omega)]
    have e3 : geo_Sram.f c = some (c * 64) := by
      unfold geo_Sram.f geo_within.f
      rw [if_pos (by omega), Option.bind_some, if_pos (by simp; omega), w64 _ (by omega) (by omega)]
    obtain ⟨p0, p1⟩ := pow_bd a
    rw [e1, e2, e3, Option.bind_some, Option.bind_some, Option.bind_some, w64 (pow a 0 + b * 256) (by omega) (by omega), w64 _ (by omega) (by omega)]
    show 0 ≤ pow a 0 + b * 256 + c * 64 ∧ pow a 0 + b * 256 + c * 64 ≤ 100000
    omega
theorem can_bd {a b c n : Int} (h : canB a b c n = true) : 0 ≤ a ∧ a ≤ 10 ∧ 0 ≤ b ∧ b ≤ 64 ∧ 0 ≤ c ∧ c ≤ 128 ∧ n = tot a b c ∧ 0 ≤ n ∧ n ≤ 100000 := by
  unfold canB at h
  rw [Bool.and_eq_true] at h
  obtain ⟨hr, hn⟩ := h
  have hn : n = tot a b c := by simpa using hn
  have h := of_decide_eq_true hr
  have := tot_bd a b c
  omega

end Go.Proofs.YtlinaijndlcfjaaDoor.Chips
