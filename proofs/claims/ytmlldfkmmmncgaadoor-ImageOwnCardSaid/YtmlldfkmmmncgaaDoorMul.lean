/- One times a small number, as math/bits reckons it. -/
import Derived.Test.YtmlldfkmmmncgaaDoorAx2
set_option linter.unusedVariables false
set_option linter.unusedSimpArgs false
namespace Go.Proofs.YtmlldfkmmmncgaaDoor.Given
open Go.RowKit Go.Proofs.YtmlldfkmmmncgaaDoor.All Go.Proofs.YtmlldfkmmmncgaaDoorW.PrintWords Go.Proofs.YtmlldfkmmmncgaaDoorW.PrintLast Go.Proofs.YtmlldfkmmmncgaaDoorW.PrintMore

theorem and32 (n : Int) (h0 : 0 ≤ n) (h1 : n < 4294967296) : Go.bits .and .u64 n 4294967295 = n := by
  obtain ⟨m, rfl⟩ := Int.eq_ofNat_of_zero_le h0
  show IntKind.u64.wrap (((BitVec.ofInt 64 (m : Int) &&& BitVec.ofInt 64 4294967295).toNat : Nat) : Int) = _
  rw [IntKind.wrap_u64, BitVec.toNat_and, BitVec.toNat_ofInt, BitVec.toNat_ofInt]
  have e1 : ((m : Int) % ((2 ^ 64 : Nat) : Int)).toNat = m := by omega
  have e2 : ((4294967295 : Int) % ((2 ^ 64 : Nat) : Int)).toNat = 2 ^ 32 - 1 := by decide
  rw [e1, e2, Nat.and_two_pow_sub_one_eq_mod]
  omega
theorem mul_one_f (n : Int) (h0 : 0 ≤ n) (h1 : n < 4294967296) : bits_Mul.f 1 n = some (0, n) := by
  unfold bits_Mul.f bits_Mul64.f
  have e1 : n / 4294967296 = 0 := by omega
  have e2 : (1 : Int) / 4294967296 = 0 := by decide
  have e3 : IntKind.u64.wrap n = n := by rw [IntKind.wrap_u64]; omega
  have e4 : IntKind.u64.wrap 0 = 0 := by decide
  rw [Option.bind_some]
  simp only [e1, e2, and32 n h0 h1, and32 1 (by decide) (by decide), Int.zero_mul, Int.mul_zero, Int.one_mul, Int.mul_one, e3, e4, Int.zero_add, Int.add_zero, and32 0 (by decide) (by decide), show (0 : Int) / 4294967296 = 0 by decide]

end Go.Proofs.YtmlldfkmmmncgaaDoor.Given
