/- What is programmed never turns a bit 0 to 1; all bits 1 are as it was; done twice it is the same. -/
import Derived.Test.YtlmbfnnjhpehiaaAx5
import Derived.Test.YtlmbfnnjhpehiaaAwake
import Derived.Test.YtlmbfnnjhpehiaaProgram
set_option linter.unusedVariables false
set_option linter.unusedSimpArgs false
namespace Go.Proofs.Ytlmbfnnjhpehiaa.Pure
open Go.RowKit Go.Proofs.Ytlmbfnnjhpehiaa.All Go.Proofs.Ytlmbfnnjhpehiaa.Given Go.Proofs.Ytlmbfnnjhpehiaa.Cut Go.Proofs.YtlmbfnnjhpehiaaW.PrintWords Go.Proofs.YtlmbfnnjhpehiaaW.PrintLast Go.Proofs.YtlmbfnnjhpehiaaW.PrintMore

theorem prog_twice {o : List Int} (hb : Bytes o) (a x : Int) (hx : 0 ≤ x ∧ x ≤ 255) : prog (prog o a x) a x = prog o a x :=
  list_eq (by rw [prog_len]) (fun i hi => by
    rw [prog_len, prog_len] at hi
    rw [prog_at _ a x i (by rw [prog_len]; exact hi), prog_at o a x i hi]
    by_cases e : (i : Int) = a
    · rw [if_pos e, if_pos e, and_right (Cut.rd_byte hb i hi) hx]
    · rw [if_neg e, if_neg e])
theorem prog_full {o : List Int} (hb : Bytes o) (a : Int) : prog o a 255 = o :=
  list_eq (by rw [prog_len]) (fun i hi => by
    rw [prog_len] at hi
    rw [prog_at o a 255 i hi]
    by_cases e : (i : Int) = a
    · rw [if_pos e, and_full (Cut.rd_byte hb i hi)]
    · rw [if_neg e])
theorem l0_end (o : List Int) (hb : Bytes o) (a x : Int) (a0 : 0 ≤ a) (a1 : a ≤ 255) (hx : 0 ≤ x ∧ x ≤ 255) (ho : o.length ≤ 200) (d : Nat) : ∀ (k i : Nat), i + d = o.length → 1000 + d + 2 ≤ k → keepsakelaw08_CutBits.l0 k o a x true (prog o a x) i = some true := by
  have hl := prog_len o a x
  induction d with
  | zero =>
    intro k i hi hk
    obtain ⟨k, rfl⟩ : ∃ m, k = m + 1 + 1 := ⟨k - 2, by omega⟩
    rw [keepsakelaw08_CutBits.l0, if_neg (by omega), if_pos rfl, Cut.w64 a (by omega) (by omega), prog_f _ a x (by omega) k, Option.bind_some, prog_twice hb a x hx, Same.same_f _ _ (by omega) _ (by omega), Option.bind_some, if_pos (by simp),
      prog_f o a 255 (by omega) k, Option.bind_some, prog_full hb, Same.same_f _ _ (by omega) _ (by omega), Option.bind_some]
    simp
  | succ d ih =>
    intro k i hi hk
    obtain ⟨k, rfl⟩ : ∃ m, k = m + 1 := ⟨k - 1, by omega⟩
    have hi' : i < o.length := by omega
    have hr := Cut.rd_byte hb i hi'
    rw [keepsakelaw08_CutBits.l0, if_pos (by omega), if_pos (by omega), if_pos (by omega), prog_at o a x i hi', Cut.w64 a (by omega) (by omega), show wrap64 ((i : Int) + 1) = ((i + 1 : Nat) : Int) by rw [Cut.w64 _ (by omega) (by omega)]; omega]
    by_cases e : (i : Int) = a
    · simp only [if_pos e]
      rw [if_pos (and_left hr hx), if_pos (and_right hr hx)]
      exact ih k (i + 1) (by omega) (by omega)
    · simp only [if_neg e]
      rw [if_pos (and_self hr), if_pos trivial]
      exact ih k (i + 1) (by omega) (by omega)
theorem CutBits : keepsakelaw08_CutBits.Pure := by
  intro o a x _ _ hw ha hx
  have hb := bytes_of_wf hw
  obtain ⟨a0, a1⟩ := u8_bd ha
  have hx := u8_bd hx
  refine ⟨2001, ?_⟩
  unfold keepsakelaw08_CutBits.f
  rw [awake_f _ (by decide), Option.bind_some]
  by_cases h0 : (o.length : Int) > 200
  · rw [if_pos h0]
  rw [if_neg h0, Cut.w64 a (by omega) (by omega), prog_f o a x (by omega) 2000, Option.bind_some, if_pos (by rw [prog_len])]
  exact l0_end o hb a x a0 a1 hx (by omega) o.length 2001 0 (Nat.zero_add _) (by omega)

end Go.Proofs.Ytlmbfnnjhpehiaa.Pure
