/- A new cartridge's image is as the document says: for every three numbers. -/
import Derived.Test.YtmlldfkmmmncgaaDoorAx5
import Derived.Test.YtmlldfkmmmncgaaDoorImg
set_option linter.unusedVariables false
set_option linter.unusedSimpArgs false
namespace Go.Proofs.YtmlldfkmmmncgaaDoor.Pure
open Go.RowKit Go.Proofs.YtmlldfkmmmncgaaDoor.All Go.Proofs.YtmlldfkmmmncgaaDoor.Given Go.Proofs.YtmlldfkmmmncgaaDoorW.PrintWords Go.Proofs.YtmlldfkmmmncgaaDoorW.PrintLast

/-- The image, as far as it has come. -/
def img (m n : Nat) : List Int := List.replicate (min m n) 255 ++ List.replicate (n - m) 0
theorem img_len (m n : Nat) : (img m n).length = n := by simp [img]; omega
theorem img_lo (m n : Nat) (h : n < m) : img m (n + 1) = img m n ++ [255] := by
  unfold img
  rw [Nat.min_eq_right (by omega), Nat.min_eq_right (by omega), show n + 1 - m = 0 by omega, show n - m = 0 by omega, List.replicate_succ']
  simp
theorem img_hi (m n : Nat) (h : m ≤ n) : img m (n + 1) = img m n ++ [0] := by
  unfold img
  rw [Nat.min_eq_left (by omega), Nat.min_eq_left h, show n + 1 - m = (n - m) + 1 by omega, List.replicate_succ']
  simp
theorem fac_l0 (a b c : Int) (m T : Nat) (hr : rightB a b c = true) (hm : pow a 0 + flashOf b = m) (hT : pow a 0 + flashOf b + sramOf c = T) (d : Nat) : ∀ (k n : Nat), n + d = T → d + 1 ≤ k →
    keepsakeref05_Factory.l0 k (img m n) n a b c = some (img m T, 0) := by
  have h1 := pow_bd a
  have h2 := flash_bd b
  have h3 := sram_bd c
  induction d with
  | zero =>
    intro k n hn hk
    obtain ⟨k, rfl⟩ : ∃ j, k = j + 1 := ⟨k - 1, by omega⟩
    rw [keepsakeref05_Factory.l0, total_ref a b c hr, Option.bind_some, hT, if_neg (by omega), show n = T by omega]
  | succ d ih =>
    intro k n hn hk
    obtain ⟨k, rfl⟩ : ∃ j, k = j + 1 := ⟨k - 1, by omega⟩
    rw [keepsakeref05_Factory.l0, total_ref a b c hr, Option.bind_some, hT, if_pos (by omega), eeprom_ref, Option.bind_some, flash_ref, Option.bind_some, w64 _ (by omega) (by omega), hm,
      w64 _ (by omega) (by omega), show (n : Int) + 1 = ((n + 1 : Nat) : Int) by omega]
    by_cases hlt : n < m
    · rw [if_pos (by omega), if_pos (by rw [img_len]; omega), ← img_lo m n hlt]
      exact ih k (n + 1) (by omega) (by omega)
    · rw [if_neg (by omega), if_pos (by rw [img_len]; omega), ← img_hi m n (by omega)]
      exact ih k (n + 1) (by omega) (by omega)
theorem fac_ref (a b c : Int) (k : Nat) (hk : 100000 ≤ k) : keepsakeref05_Factory.f k a b c = image_Factory.f a b c := by
  have h1 := pow_bd a
  have h2 := flash_bd b
  have h3 := sram_bd c
  rw [factory_f]
  unfold keepsakeref05_Factory.f
  rw [right_ref, Option.bind_some]
  cases h : rightB a b c
  · rfl
  · rw [if_pos rfl, if_pos rfl]
    have := fac_l0 a b c ((pow a 0).toNat + (flashOf b).toNat) ((pow a 0).toNat + (flashOf b).toNat + (sramOf c).toNat) h (by omega) (by omega) _ k 0 (Nat.zero_add _) (by omega)
    have e0 : img ((pow a 0).toNat + (flashOf b).toNat) 0 = [] := by simp [img]
    rw [e0, show ((0 : Nat) : Int) = 0 from rfl] at this
    rw [this]
    congr 2
    unfold img
    rw [Nat.min_eq_left (by omega), Nat.add_sub_cancel_left]
theorem same_self (l : List Int) (hl : l.length ≤ 1000000) (k : Nat) (hk : l.length + 1 ≤ k) : keepsakeref01_Same.f k l l = some true := by rw [Same.same_f l l (by omega) k hk]; simp
theorem fac_len (a b c : Int) (r : List Int × Int) (h : image_Factory.f a b c = some r) : r.1.length ≤ 200000 := by
  have h1 := pow_bd a
  have h2 := flash_bd b
  have h3 := sram_bd c
  rw [factory_f] at h
  injection h with h
  subst h
  split
  · simp; omega
  · simp
theorem ImageFactory : keepsakelaw05_ImageFactory.Pure := by
  intro a b c _ _ _
  refine ⟨300001, ?_⟩
  obtain ⟨r, hr⟩ : ∃ r, image_Factory.f a b c = some r := by rw [factory_f]; exact ⟨_, rfl⟩
  have hl := fac_len a b c r hr
  have key : ∀ t, t = false → keepsakelaw05_ImageFactory.j0 300001 true t a b c = some true := by
    intro t ht
    subst ht
    rw [keepsakelaw05_ImageFactory.j0, if_neg (by decide), fac_ref a b c _ (by omega), hr]
    simp only [Option.bind_some, if_true]
    rw [same_self r.1 (by omega) _ (by omega)]
    rfl
  have key2 : ∀ t, keepsakelaw05_ImageFactory.j0 300001 true t a b c = some true := by
    intro t
    cases t with
    | false => exact key _ rfl
    | true => rw [keepsakelaw05_ImageFactory.j0, if_pos rfl]
  unfold keepsakelaw05_ImageFactory.f
  rw [awake_f _ (by omega), Option.bind_some]
  split <;> exact key2 _
end Go.Proofs.YtmlldfkmmmncgaaDoor.Pure
