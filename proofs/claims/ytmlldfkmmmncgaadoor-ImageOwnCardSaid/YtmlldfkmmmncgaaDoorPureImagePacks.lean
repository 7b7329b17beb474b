/- All chips as one, or what is wrong, is as the document says: for every three numbers and lists. -/
import Derived.Test.YtmlldfkmmmncgaaDoorAx8
import Derived.Test.YtmlldfkmmmncgaaDoorPureImageFactory
set_option linter.unusedVariables false
set_option linter.unusedSimpArgs false
namespace Go.Proofs.YtmlldfkmmmncgaaDoor.Pure
open Go.RowKit Go.Proofs.YtmlldfkmmmncgaaDoor.All Go.Proofs.YtmlldfkmmmncgaaDoor.Given Go.Proofs.YtmlldfkmmmncgaaDoorW.PrintWords Go.Proofs.YtmlldfkmmmncgaaDoorW.PrintLast

def packOf (a b c : Int) (x y z : List Int) : List Int × Int :=
  if rightB a b c = true then if (x.length : Int) = pow a 0 ∧ (y.length : Int) = flashOf b ∧ (z.length : Int) = sramOf c then (x ++ y ++ z, 0) else ([], 1) else ([], 9)
theorem pack_f (a b c : Int) (x y z : List Int) : image_Pack.f a b c x y z = some (packOf a b c x y z) := by
  have h1 := pow_bd a
  have h2 := flash_bd b
  have h3 := sram_bd c
  unfold image_Pack.f packOf
  rw [sizes_f, Option.bind_some, right_geo, Option.bind_some]
  cases h : rightB a b c
  · rfl
  · rw [if_pos rfl, if_pos rfl]
    simp only
    by_cases hx : (x.length : Int) = pow a 0
    · rw [if_pos hx]
      by_cases hy : (y.length : Int) = flashOf b
      · rw [if_pos hy]
        by_cases hz : (z.length : Int) = sramOf c
        · rw [if_pos hz, if_pos ⟨hx, hy, hz⟩]
          have e : slices_Concat_byte_byte.f [x, y, z] = some (x ++ y ++ z) := by
            unfold slices_Concat_byte_byte.f
            rw [if_pos ⟨by simp, by simp; omega⟩]
            simp
          rw [e]
          rfl
        · rw [if_neg hz, if_neg (fun h => hz h.2.2)]
      · rw [if_neg hy, if_neg (fun h => hy h.2.1)]
    · rw [if_neg hx, if_neg (fun h => hx h.1)]
theorem pack_ref (a b c : Int) (x y z : List Int) : keepsakeref05_Pack.f a b c x y z = some (packOf a b c x y z) := by
  have h1 := pow_bd a
  have h2 := flash_bd b
  have h3 := sram_bd c
  unfold keepsakeref05_Pack.f packOf
  rw [right_ref, Option.bind_some]
  cases h : rightB a b c
  · rfl
  · rw [if_pos rfl, if_pos rfl, eeprom_ref, Option.bind_some]
    by_cases hx : (x.length : Int) = pow a 0
    · rw [if_pos hx, flash_ref, Option.bind_some]
      by_cases hy : (y.length : Int) = flashOf b
      · rw [if_pos hy, sram_ref, Option.bind_some]
        by_cases hz : (z.length : Int) = sramOf c
        · rw [if_pos hz, if_pos ⟨hx, hy, hz⟩]
          simp only [Option.bind_some]
          rw [if_pos (by simp; omega), if_pos (by simp; omega), if_pos (by simp; omega)]
          simp
        · rw [if_neg hz, if_neg (fun h => hz h.2.2)]
      · rw [if_neg hy, if_neg (fun h => hy h.2.1)]
    · rw [if_neg hx, if_neg (fun h => hx h.1)]
theorem pack_len (a b c : Int) (x y z : List Int) : (packOf a b c x y z).1.length ≤ 100000 := by
  have h1 := pow_bd a
  have h2 := flash_bd b
  have h3 := sram_bd c
  unfold packOf
  split
  · split
    · simp; omega
    · simp
  · simp
theorem ImagePacks : keepsakelaw05_ImagePacks.Pure := by
  intro a b c x y z _ _ _ _ _ _ _ _ _ _ _ _
  refine ⟨200001, ?_⟩
  have hl := pack_len a b c x y z
  have key2 : ∀ t, keepsakelaw05_ImagePacks.j0 200001 x y z true t a b c = some true := by
    intro t
    cases t with
    | false =>
      rw [keepsakelaw05_ImagePacks.j0, if_neg (by decide), pack_f, pack_ref]
      simp only [Option.bind_some, if_true]
      rw [same_self _ (by omega) _ (by omega)]
      rfl
    | true => rw [keepsakelaw05_ImagePacks.j0, if_pos rfl]
  unfold keepsakelaw05_ImagePacks.f
  rw [awake_f _ (by omega), Option.bind_some]
  split
  · exact key2 _
  · split <;> exact key2 _
end Go.Proofs.YtmlldfkmmmncgaaDoor.Pure
