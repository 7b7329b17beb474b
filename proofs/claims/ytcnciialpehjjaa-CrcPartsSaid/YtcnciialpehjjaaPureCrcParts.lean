/- In whatever parts a text is told, its sum is one: for every text, cut anywhere. -/
import Derived.Test.YtcnciialpehjjaaAx7
import Derived.Test.YtcnciialpehjjaaSums
set_option linter.unusedVariables false
set_option linter.unusedSimpArgs false
namespace Go.Proofs.Ytcnciialpehjjaa.Pure
open Go.RowKit Go.Proofs.Ytcnciialpehjjaa.All Go.Proofs.Ytcnciialpehjjaa.Given Go.Proofs.Ytcnciialpehjjaa.Sums Go.Proofs.Ytcnciialpehjjaa.Math Go.Proofs.YtcnciialpehjjaaW.PrintWords Go.Proofs.YtcnciialpehjjaaW.PrintLast

theorem crc_cut (l m : List Int) : Tn (8 * m.length) (crc l) ^^^ crc m = crc (l ++ m) := by
  unfold crc
  rw [fold_append, fold_zero m (fold (~~~ 0#32) l), fold_zero m (~~~ 0#32)]
  generalize fold (~~~ 0#32) l = x
  generalize fold 0#32 m = y
  generalize 8 * m.length = n
  rw [show (~~~ 0#32 : W) = BitVec.allOnes 32 from by decide]
  simp only [← BitVec.xor_allOnes, Tn_xor]
  generalize Tn n x = u
  generalize Tn n (BitVec.allOnes 32) = v
  rw [show u ^^^ v ^^^ (v ^^^ y ^^^ BitVec.allOnes 32) = (u ^^^ y ^^^ BitVec.allOnes 32) ^^^ (v ^^^ v) from by ac_rfl, BitVec.xor_self, BitVec.xor_zero]
theorem CrcParts : keepsakelaw01_CrcParts.Pure := by
  intro l a hl _ hw ha
  have hb := bytes_of_wf hw
  obtain ⟨a0, a1⟩ := u8_bd ha
  refine ⟨3000, ?_⟩
  unfold keepsakelaw01_CrcParts.f keepsakelaw01_awake.f
  rw [Option.bind_some]
  by_cases h1 : (l.length : Int) > 200
  · rw [if_pos h1]
  · rw [if_neg h1, w64 ((l.length : Int) + 1) (by omega) (by omega), if_neg (by omega), sum_f l hb (by omega) _ (by omega), Option.bind_some, if_pos rfl, w64 a (by omega) (by omega), Int.tmod_eq_emod_of_nonneg a0]
    have m0 : 0 ≤ a % ((l.length : Int) + 1) := Int.emod_nonneg _ (by omega)
    have m1 : a % ((l.length : Int) + 1) ≤ l.length := by have := Int.emod_lt_of_pos a (show (0 : Int) < (l.length : Int) + 1 by omega); omega
    generalize a % ((l.length : Int) + 1) = c at m0 m1 ⊢
    obtain ⟨n, rfl⟩ := Int.eq_ofNat_of_zero_le m0
    have hn : n ≤ l.length := by omega
    have bt : Bytes (l.take n) := fun x hx => hb x (List.mem_of_mem_take hx)
    have bd : Bytes (l.drop n) := fun x hx => hb x (List.mem_of_mem_drop hx)
    have lt : (l.take n).length = n := by rw [List.length_take]; omega
    have ld : (l.drop n).length = l.length - n := List.length_drop ..
    rw [Int.toNat_natCast, if_pos m0, if_pos m1, sum_f _ bt (by omega) _ (by omega), Option.bind_some, more_f _ _ bd (by omega) _ (by omega), Option.bind_some]
    have e1 : ~~~ (fold (~~~ (crc (l.take n))) (l.drop n)) = crc l := by
      unfold crc
      rw [BitVec.not_not, ← fold_append, List.take_append_drop]
    rw [e1, if_pos rfl, Option.bind_some, sum_f _ bd (by omega) _ (by omega), Option.bind_some, w64 ((l.length : Int) - n) (by omega) (by omega),
      join_f _ _ _ (by omega) (by omega), Option.bind_some]
    have e2 : Tn (8 * ((l.length : Int) - n).toNat) (crc (l.take n)) ^^^ crc (l.drop n) = crc l := by
      rw [show ((l.length : Int) - n).toNat = (l.drop n).length from by omega, crc_cut, List.take_append_drop]
    have bn : Bytes ([] : List Int) := fun x hx => by simp at hx
    rw [e2, if_pos rfl, more_f (crc l) [] bn (by simp) _ (by simp), Option.bind_some, fold_nil, BitVec.not_not, if_pos rfl, sum_f [] bn (by simp) _ (by simp), Option.bind_some]
    rfl

end Go.Proofs.Ytcnciialpehjjaa.Pure
