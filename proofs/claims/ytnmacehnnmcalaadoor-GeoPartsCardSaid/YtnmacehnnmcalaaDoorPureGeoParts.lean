/- The bytes of all chips are those of each, together; with one more of any there are no fewer: for any chips that can be. -/
import Derived.Test.YtnmacehnnmcalaaDoorAx9
import Derived.Test.YtnmacehnnmcalaaDoorPureGeoTotals
set_option linter.unusedVariables false
set_option linter.unusedSimpArgs false
namespace Go.Proofs.YtnmacehnnmcalaaDoor.Pure
open Go.RowKit Go.Proofs.YtnmacehnnmcalaaDoor.All Go.Proofs.YtnmacehnnmcalaaDoor.Given Go.Proofs.YtnmacehnnmcalaaDoorW.PrintWords Go.Proofs.YtnmacehnnmcalaaDoorW.PrintLast Go.Proofs.YtnmacehnnmcalaaDoorW.PrintMore

theorem pow_bd (k : Int) : 0 ≤ pow k 0 ∧ pow k 0 ≤ 65536 :=
  kind_cases k (fun k => 0 ≤ pow k 0 ∧ pow k 0 ≤ 65536) (by decide +kernel) fun h => by rw [pow_out k 0 h]; omega
theorem total_is (a b c : Int) (ha : 0 ≤ a ∧ a ≤ 10) (hb : 0 ≤ b ∧ b ≤ 64) (hc : 0 ≤ c ∧ c ≤ 128) : geo_Total.f a b c = some (pow a 0 + 256 * b + 64 * c) := by
  have hr : rightB a b c = true := by unfold rightB; rw [decide_eq_true_eq]; omega
  have hp := pow_bd a
  have hE : geo_Eeprom.f a = some (pow a 0) := rfl
  have hF : geo_Flash.f b = some (256 * b) := by
    unfold geo_Flash.f geo_within.f
    rw [if_pos (by omega), Option.bind_some, if_pos (by simp; omega), w64 _ (by omega) (by omega), Int.mul_comm]
  have hS : geo_Sram.f c = some (64 * c) := by
    unfold geo_Sram.f geo_within.f
    rw [if_pos (by omega), Option.bind_some, if_pos (by simp; omega), w64 _ (by omega) (by omega), Int.mul_comm]
  unfold geo_Total.f
  rw [right_geo, hr, Option.bind_some, if_pos rfl, hE, Option.bind_some, hF, Option.bind_some, hS, Option.bind_some, w64 (pow a 0 + 256 * b) (by omega) (by omega), w64 _ (by omega) (by omega)]
theorem u8_bd {a : Int} (h : (Lit.int .u8 a).wf = true) : 0 ≤ a ∧ a ≤ 255 := by
  simp [Lit.wf, IntKind.min, IntKind.max, IntKind.signed, IntKind.bits] at h
  omega
theorem GeoParts : keepsakelaw03_GeoParts.Pure := by
  intro a b c ha hb hc
  obtain ⟨a0, a1⟩ := u8_bd ha
  obtain ⟨b0, b1⟩ := u8_bd hb
  obtain ⟨c0, c1⟩ := u8_bd hc
  unfold keepsakelaw03_GeoParts.f
  rw [Int.tmod_eq_emod_of_nonneg a0, Int.tmod_eq_emod_of_nonneg b0, Int.tmod_eq_emod_of_nonneg c0, w64 (a % 11) (by omega) (by omega), w64 (b % 65) (by omega) (by omega), w64 (c % 129) (by omega) (by omega)]
  have ha' : 0 ≤ a % 11 ∧ a % 11 ≤ 10 := by omega
  have hb' : 0 ≤ b % 65 ∧ b % 65 ≤ 64 := by omega
  have hc' : 0 ≤ c % 129 ∧ c % 129 ≤ 128 := by omega
  generalize a % 11 = x at ha' ⊢
  generalize b % 65 = y at hb' ⊢
  generalize c % 129 = z at hc' ⊢
  have hp := pow_bd x
  have p0 : pow 0 0 = 0 := rfl
  have hr : rightB x y z = true := by unfold rightB; rw [decide_eq_true_eq]; omega
  have hm : mn 64 (wrap64 (y + 1)) ≥ y ∧ mn 64 (wrap64 (y + 1)) ≤ 64 := by
    rw [w64 _ (by omega) (by omega)]
    unfold mn
    split <;> omega
  generalize mn 64 (wrap64 (y + 1)) = y2 at hm ⊢
  rw [awake, Option.bind_some, total_is x y z ha' hb' hc', Option.bind_some, total_is x 0 0 ha' (by omega) (by omega), Option.bind_some, total_is 0 y 0 (by omega) hb' (by omega), Option.bind_some,
    total_is 0 0 z (by omega) (by omega) hc', Option.bind_some, if_pos rfl, right_geo, hr, Option.bind_some, if_pos rfl, p0, w64 (pow x 0 + 256 * 0 + 64 * 0 + (0 + 256 * y + 64 * 0)) (by omega) (by omega), w64 _ (by omega) (by omega), if_pos (by omega),
    total_is x y2 z ha' (by omega) hc', Option.bind_some, if_pos (by omega)]
  rw [decide_eq_true (by omega)]

end Go.Proofs.YtnmacehnnmcalaaDoor.Pure
