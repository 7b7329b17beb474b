/- What is packed is unpacked; what is unpacked, packed, is as it was: for every three numbers, and list. -/
import Derived.Test.YtmlldfkmmmncgaaDoorAx10
import Derived.Test.YtmlldfkmmmncgaaDoorPureImagePacks
set_option linter.unusedVariables false
set_option linter.unusedSimpArgs false
namespace Go.Proofs.YtmlldfkmmmncgaaDoor.Pure
open Go.RowKit Go.Proofs.YtmlldfkmmmncgaaDoor.All Go.Proofs.YtmlldfkmmmncgaaDoor.Given Go.Proofs.YtmlldfkmmmncgaaDoorW.PrintWords Go.Proofs.YtmlldfkmmmncgaaDoorW.PrintLast

theorem total_geo (a b c : Int) (h : rightB a b c = true) : geo_Total.f a b c = some (pow a 0 + flashOf b + sramOf c) := by
  have h1 := pow_bd a
  have h2 := flash_bd b
  have h3 := sram_bd c
  unfold geo_Total.f
  rw [right_geo, h, Option.bind_some, if_pos rfl, eeprom_geo, flash_geo, sram_geo]
  simp only [Option.bind_some]
  rw [w64 (pow a 0 + flashOf b) (by omega) (by omega), w64 _ (by omega) (by omega)]
theorem unpack_f (a b c : Int) (l : List Int) (hl : l.length ≤ 100000) : image_Unpack.f a b c l = some (
    if rightB a b c = true then if (l.length : Int) = pow a 0 + flashOf b + sramOf c then (l.take (pow a 0).toNat, (l.drop (pow a 0).toNat).take (flashOf b).toNat, l.drop ((pow a 0).toNat + (flashOf b).toNat), 0) else ([], [], [], 1) else ([], [], [], 9)) := by
  have h1 := pow_bd a
  have h2 := flash_bd b
  have h3 := sram_bd c
  unfold image_Unpack.f
  rw [right_geo, Option.bind_some]
  cases h : rightB a b c
  · rfl
  · rw [if_pos rfl, if_pos rfl, total_geo a b c h, Option.bind_some]
    by_cases hn : (l.length : Int) = pow a 0 + flashOf b + sramOf c
    · rw [if_pos hn, if_pos hn, sizes_f, Option.bind_some]
      exact if_pos ⟨h1.1, h2.1, h3.1, hn.symm, by omega⟩
    · rw [if_neg hn, if_neg hn]
theorem parts3 (l : List Int) (x y : Nat) : l.take x ++ (l.drop x).take y ++ l.drop (x + y) = l := by
  rw [List.append_assoc, ← List.drop_drop, List.take_append_drop, List.take_append_drop]
theorem ImageBack : keepsakelaw05_ImageBack.Pure := by
  intro a b c l _ _ _ _ _ _
  refine ⟨200001, ?_⟩
  have h1 := pow_bd a
  have h2 := flash_bd b
  have h3 := sram_bd c
  unfold keepsakelaw05_ImageBack.f
  rw [awake_f _ (by omega), Option.bind_some]
  by_cases hl : (l.length : Int) > 2000
  · rw [if_pos hl]
  · rw [if_neg hl, unpack_f a b c l (by omega), Option.bind_some, right_ref, Option.bind_some]
    cases h : rightB a b c
    · simp
      decide +kernel
    · rw [if_pos rfl, if_pos rfl, total_ref a b c h, Option.bind_some]
      by_cases hn : (l.length : Int) = pow a 0 + flashOf b + sramOf c
      · rw [if_pos hn, if_pos hn]
        have hp : packOf a b c (l.take (pow a 0).toNat) ((l.drop (pow a 0).toNat).take (flashOf b).toNat) (l.drop ((pow a 0).toNat + (flashOf b).toNat)) = (l, 0) := by
          unfold packOf
          rw [if_pos h, if_pos ⟨by rw [List.length_take]; omega, by rw [List.length_take, List.length_drop]; omega, by rw [List.length_drop]; omega⟩, parts3]
        simp only
        rw [pack_f, hp, Option.bind_some]
        simp only
        rw [unpack_f a b c l (by omega), h, if_pos rfl, if_pos hn, Option.bind_some]
        simp only [if_true]
        rw [same_self l (by omega) _ (by omega)]
        simp only [Option.bind_some, if_true]
        rw [same_self _ (by rw [List.length_take]; omega) _ (by rw [List.length_take]; omega)]
        simp only [Option.bind_some, if_true]
        rw [same_self _ (by rw [List.length_take, List.length_drop]; omega) _ (by rw [List.length_take, List.length_drop]; omega)]
        simp only [Option.bind_some, if_true]
        rw [same_self _ (by rw [List.length_drop]; omega) _ (by rw [List.length_drop]; omega)]
        simp only [Option.bind_some, if_true]
        rw [eeprom_ref, Option.bind_some, if_pos (by rw [List.length_take]; omega), sram_ref, Option.bind_some]
        have e : ((l.drop ((pow a 0).toNat + (flashOf b).toNat)).length : Int) = sramOf c := by rw [List.length_drop]; omega
        rw [e]
        simp
      · rw [if_neg hn, if_neg hn]
        simp
        decide +kernel
end Go.Proofs.YtmlldfkmmmncgaaDoor.Pure
