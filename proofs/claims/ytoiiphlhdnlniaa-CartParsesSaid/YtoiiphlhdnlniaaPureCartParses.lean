/- The cartridge that any bytes are, or what is wrong, is as the document says. -/
import Derived.Test.YtoiiphlhdnlniaaAx7
import Derived.Test.YtoiiphlhdnlniaaCart
set_option linter.unusedVariables false
set_option linter.unusedSimpArgs false
namespace Go.Proofs.Ytoiiphlhdnlniaa.Pure
open Go.RowKit Go.Proofs.Ytoiiphlhdnlniaa.All Go.Proofs.Ytoiiphlhdnlniaa.Given Go.Proofs.Ytoiiphlhdnlniaa.Sums Go.Proofs.Ytoiiphlhdnlniaa.Lay Go.Proofs.Ytoiiphlhdnlniaa.Cart Go.Proofs.YtoiiphlhdnlniaaW.PrintWords Go.Proofs.YtoiiphlhdnlniaaW.PrintLast

theorem cp_len (l : List Int) : (cp l).2.2.2.2.2.1.length ≤ l.length := by
  unfold cp
  repeat' split
  all_goals first | exact Nat.zero_le _ | (show (l.drop 16).length ≤ _; rw [List.length_drop]; omega)
theorem same_cp (l : List Int) (hl : l.length ≤ 1000) (k : Nat) (hk : 2000 ≤ k) :
    keepsakeref21_Same.f k (cp l).1 (cp l).2.1 (cp l).2.2.1 (cp l).2.2.2.1 (cp l).2.2.2.2.1 (cp l).2.2.2.2.2.1 (cp l).1 (cp l).2.1 (cp l).2.2.1 (cp l).2.2.2.1 (cp l).2.2.2.2.1 (cp l).2.2.2.2.2.1 = some true := by
  have := cp_len l
  rw [same_cart _ _ _ _ _ _ (by omega) k (by omega)]
  simp
theorem CartParses : keepsakelaw21_CartParses.Pure := by
  intro l hl _ hw
  have hb := bytes_of_wf hw
  refine ⟨200003, ?_⟩
  unfold keepsakelaw21_CartParses.f
  rw [awake, Option.bind_some]
  by_cases h600 : (l.length : Int) > 600
  · rw [if_pos h600]
  rw [if_neg h600, parse_f l hb (by omega), Option.bind_some, show (200003 : Nat) = 200001 + 2 from rfl, parse_ref l hb 200001 (by omega) (by omega), Option.bind_some, if_pos rfl, same_cp l (by omega) _ (by omega), Option.bind_some,
    show (200001 + 2 : Nat) = 200002 + 1 from rfl, keepsakelaw21_CartParses.j0, if_neg (by decide)]
  by_cases h16 : (l.length : Int) < 16
  · rw [if_pos h16]
  have l12 : (l.take 12).length = 12 := by rw [List.length_take]; omega
  have l16 : (l.drop 16).length = l.length - 16 := List.length_drop
  have b12 := bytes_take hb 12
  have b16 := bytes_drop hb 16
  rw [if_neg h16, if_pos (by omega), sum_f _ b12 (by omega) _ (by omega), Option.bind_some, if_pos (by omega), more_f _ _ b16 (by omega) _ (by omega), Option.bind_some]
  generalize ~~~ (fold (~~~ (crc (l.take 12))) (l.drop 16)) = s
  have c0 := Given.iv_lo s; have c1 := Given.iv_hi s
  have e4 := bytes_f 200002 4 (Given.iv s) (by omega) (by omega) c0 (by omega)
  rw [show ((4 : Nat) : Int) = 4 from rfl] at e4
  have ls : (le 4 (Given.iv s)).length = 4 := le_len 4 _
  have hB : Bytes (l.take 12 ++ le 4 (Given.iv s) ++ l.drop 16) := bytes_append (bytes_append b12 (le_bytes 4 _)) b16
  have hL : (l.take 12 ++ le 4 (Given.iv s) ++ l.drop 16).length = l.length := by rw [List.length_append, List.length_append, l12, ls, l16]; omega
  rw [Option.bind_some, if_pos (by rw [l12]; decide), Option.bind_some, List.nil_append, show IntKind.u64.wrap (Given.iv s) = Given.iv s by rw [IntKind.wrap_u64]; omega, e4, Option.bind_some, if_pos (by rw [l12, ls]; decide), Option.bind_some,
    if_pos (by rw [List.length_append, l12, ls, l16]; omega), Option.bind_some]
  generalize l.take 12 ++ le 4 (Given.iv s) ++ l.drop 16 = q at hB hL
  rw [parse_f q hB (by omega), Option.bind_some, show (200002 : Nat) = 200000 + 2 from rfl, parse_ref q hB 200000 (by omega) (by omega), Option.bind_some, if_pos rfl, if_pos rfl, same_cp q (by omega) _ (by omega), Option.bind_some]

end Go.Proofs.Ytoiiphlhdnlniaa.Pure
