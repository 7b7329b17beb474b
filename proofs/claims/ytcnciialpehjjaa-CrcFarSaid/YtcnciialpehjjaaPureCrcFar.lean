/- What is joined piece by piece is joined at once, however long the pieces are: for every two sums and every two lengths up to 2^39. -/
import Derived.Test.YtcnciialpehjjaaAx9
import Derived.Test.YtcnciialpehjjaaSums
set_option linter.unusedVariables false
set_option linter.unusedSimpArgs false
namespace Go.Proofs.Ytcnciialpehjjaa.Pure
open Go.RowKit Go.Proofs.Ytcnciialpehjjaa.All Go.Proofs.Ytcnciialpehjjaa.Given Go.Proofs.Ytcnciialpehjjaa.Sums Go.Proofs.Ytcnciialpehjjaa.Math Go.Proofs.YtcnciialpehjjaaW.PrintWords Go.Proofs.YtcnciialpehjjaaW.PrintLast

theorem len_of (a : Int) (h : 0 ≤ a) : wrap64 (Int.tmod a 549755813889) = a % 549755813889 ∧ 0 ≤ a % 549755813889 ∧ a % 549755813889 ≤ 549755813888 := by
  rw [Int.tmod_eq_emod_of_nonneg h]
  exact ⟨w64 _ (by omega) (by omega), by omega, by omega⟩
theorem CrcFar : keepsakelaw01_CrcFar.Pure := by
  intro a0 a1 a2 a3 h0 h1 h2 h3
  obtain ⟨a, rfl⟩ := of_u32 h0
  obtain ⟨b, rfl⟩ := of_u32 h1
  obtain ⟨ex, x0, x1⟩ := len_of a2 (u64_bd h2).1
  obtain ⟨ey, y0, y1⟩ := len_of a3 (u64_bd h3).1
  unfold keepsakelaw01_CrcFar.f keepsakelaw01_awake.f
  rw [ex, ey]
  generalize a2 % 549755813889 = x at x0 x1 ⊢
  generalize a3 % 549755813889 = y at y0 y1 ⊢
  have z : (0 : Int) = iv 0#32 := rfl
  rw [w64 (x + y) (by omega) (by omega), Option.bind_some, join_f a b (x + y) (by omega) (by omega), Option.bind_some, if_pos rfl]
  have jx := join_f a 0#32 x x0 (by omega)
  have jy := join_f a 0#32 y y0 (by omega)
  rw [← z] at jx jy
  rw [jx, Option.bind_some, join_f _ b y y0 (by omega), Option.bind_some]
  have e1 : Tn (8 * y.toNat) (Tn (8 * x.toNat) a ^^^ 0#32) ^^^ b = Tn (8 * (x + y).toNat) a ^^^ b := by
    rw [BitVec.xor_zero, ← Tn_add]; congr 2; omega
  have e2 : Tn (8 * x.toNat) (Tn (8 * y.toNat) a ^^^ 0#32) ^^^ b = Tn (8 * (x + y).toNat) a ^^^ b := by
    rw [BitVec.xor_zero, ← Tn_add]; congr 2; omega
  rw [e1, if_pos rfl, jy, Option.bind_some, join_f _ b x x0 (by omega), Option.bind_some, e2, if_pos rfl, join_f a b x x0 (by omega), Option.bind_some, Option.bind_some, xor_iv, BitVec.xor_zero]
  simp

end Go.Proofs.Ytcnciialpehjjaa.Pure
