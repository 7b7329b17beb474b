/- Words and whole numbers; one step of the check sum. -/
import Derived.Test.YtoiiphlhdnlniaaAx2
import Derived.Test.YtoiiphlhdnlniaaMath
set_option linter.unusedVariables false
set_option linter.unusedSimpArgs false
namespace Go.Proofs.Ytoiiphlhdnlniaa.Given
open Go.RowKit Go.Proofs.YtoiiphlhdnlniaaW.PrintWords Go.Proofs.Ytoiiphlhdnlniaa.Math

def bv (a : Int) : W := BitVec.ofInt 32 a
def iv (b : W) : Int := (b.toNat : Int)
theorem iv_lo (b : W) : 0 ≤ iv b := by unfold iv; omega
theorem iv_hi (b : W) : iv b < 4294967296 := by unfold iv; have := b.isLt; omega
theorem bv_iv (b : W) : bv (iv b) = b := by
  apply BitVec.eq_of_toNat_eq
  unfold bv iv
  rw [BitVec.toNat_ofInt]
  have := b.isLt
  omega
theorem iv_bv (a : Int) (h0 : 0 ≤ a) (h1 : a < 4294967296) : iv (bv a) = a := by
  unfold bv iv
  rw [BitVec.toNat_ofInt]
  omega
theorem iv_inj (a b : W) (h : iv a = iv b) : a = b := by rw [← bv_iv a, h, bv_iv]
theorem of_iv (a : Int) (h0 : 0 ≤ a) (h1 : a < 4294967296) : ∃ b, a = iv b := ⟨bv a, (iv_bv a h0 h1).symm⟩
theorem wrap_iv (b : W) : IntKind.u32.wrap (b.toNat : Int) = iv b := by
  rw [IntKind.wrap_u32]
  unfold iv
  have := b.isLt
  omega
theorem bits_xor (x y : Int) : Go.bits .xor .u32 x y = iv (bv x ^^^ bv y) := wrap_iv _
theorem bits_and (x y : Int) : Go.bits .and .u32 x y = iv (bv x &&& bv y) := wrap_iv _
theorem xor_iv (x y : W) : Go.bits .xor .u32 (iv x) (iv y) = iv (x ^^^ y) := by rw [bits_xor, bv_iv, bv_iv]
theorem and_iv (x y : W) : Go.bits .and .u32 (iv x) (iv y) = iv (x &&& y) := by rw [bits_and, bv_iv, bv_iv]
theorem half_iv (b : W) : iv b / (2 : Int) = iv (b >>> (1 : Nat)) := by
  unfold iv
  rw [BitVec.toNat_ushiftRight, Nat.shiftRight_eq_div_pow]
  omega
theorem and_one_iv (b : W) : iv (b &&& 1#32) = if b.getLsbD 0 then 1 else 0 := by
  unfold iv
  rw [BitVec.toNat_and, show (1#32).toNat = 2 ^ 1 - 1 from rfl, Nat.and_two_pow_sub_one_eq_mod]
  simp only [BitVec.getLsbD, Nat.testBit_zero]
  split <;> simp_all
theorem times_eq (b : W) : Go.bits .xor .u32 (iv b / 2) (Go.bits .and .u32 3988292384 ((-(Go.bits .and .u32 (iv b) 1)) % 4294967296)) = iv (T b) := by
  have h1 : Go.bits .and .u32 (iv b) 1 = if b.getLsbD 0 then 1 else 0 := by
    rw [show (1 : Int) = iv 1#32 from rfl, and_iv, and_one_iv]; rfl
  rw [h1, half_iv]
  unfold T
  cases b.getLsbD 0
  · rw [show (-(if false = true then 1 else 0 : Int)) % 4294967296 = iv 0#32 from rfl, show (3988292384 : Int) = iv P from rfl, and_iv, xor_iv]
    simp
  · rw [show (-(if true = true then 1 else 0 : Int)) % 4294967296 = iv (BitVec.allOnes 32) from by decide, show (3988292384 : Int) = iv P from rfl, and_iv, xor_iv, BitVec.and_allOnes, if_pos rfl]

theorem times_iv (b : W) : Go.Proofs.Ytoiiphlhdnlniaa.All.crc_times.f (iv b) = some (iv (T b)) := by
  unfold Go.Proofs.Ytoiiphlhdnlniaa.All.crc_times.f
  rw [times_eq]

end Go.Proofs.Ytoiiphlhdnlniaa.Given
