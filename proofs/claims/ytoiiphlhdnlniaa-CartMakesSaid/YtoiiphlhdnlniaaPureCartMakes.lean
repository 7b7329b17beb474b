/- Any cartridge's bytes, or that it can't be, is as the document says. -/
import Derived.Test.YtoiiphlhdnlniaaAx9
import Derived.Test.YtoiiphlhdnlniaaCart
set_option linter.unusedVariables false
set_option linter.unusedSimpArgs false
namespace Go.Proofs.Ytoiiphlhdnlniaa.Pure
open Go.RowKit Go.Proofs.Ytoiiphlhdnlniaa.All Go.Proofs.Ytoiiphlhdnlniaa.Given Go.Proofs.Ytoiiphlhdnlniaa.Sums Go.Proofs.Ytoiiphlhdnlniaa.Lay Go.Proofs.Ytoiiphlhdnlniaa.Cart Go.Proofs.YtoiiphlhdnlniaaW.PrintWords Go.Proofs.YtoiiphlhdnlniaaW.PrintLast

theorem mk_len (a b c d f : Int) (rom : List Int) : (mk a b c d f rom).1.length ≤ rom.length + 16 := by
  unfold mk
  split
  · rw [List.length_append, List.length_append, show (headL a b c d f).length = 12 from rfl, show (sum4 (Given.iv (crc (headL a b c d f ++ rom)))).length = 4 from rfl]; omega
  · exact Nat.zero_le _
theorem CartMakes (a b c d f : Int) (l : List Int) (hb : Bytes l) (hl : l.length ≤ maxLen) : ∃ k, keepsakelaw21_CartMakes.f k a b c d f l = some true := by
  refine ⟨200003, ?_⟩
  unfold keepsakelaw21_CartMakes.f
  rw [awake, Option.bind_some]
  by_cases h600 : (l.length : Int) > 600
  · rw [if_pos h600]
  have hm := mk_len a b c d f l
  rw [if_neg h600, make_f a b c d f l hb (by omega), Option.bind_some, show (200003 : Nat) = 200002 + 1 from rfl, make_ref a b c d f l hb (by omega) 200002 (by omega), Option.bind_some, if_pos rfl, if_pos rfl, Same.same_f _ _ (by omega) _ (by omega), Option.bind_some]
  simp

end Go.Proofs.Ytoiiphlhdnlniaa.Pure
