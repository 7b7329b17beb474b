/- What any two sums are joined to, the second one of any few bytes, is as the document says: for every two sums and every number of bytes up to a hundred. -/
import Derived.Test.YtcnciialpehjjaaAx8
import Derived.Test.YtcnciialpehjjaaRefs
set_option linter.unusedVariables false
set_option linter.unusedSimpArgs false
namespace Go.Proofs.Ytcnciialpehjjaa.Pure
open Go.RowKit Go.Proofs.Ytcnciialpehjjaa.All Go.Proofs.Ytcnciialpehjjaa.Given Go.Proofs.Ytcnciialpehjjaa.Sums Go.Proofs.Ytcnciialpehjjaa.Refs Go.Proofs.Ytcnciialpehjjaa.Math Go.Proofs.YtcnciialpehjjaaW.PrintWords Go.Proofs.YtcnciialpehjjaaW.PrintLast

theorem bits_get (n : Nat) : ∀ (x : Nat) i, i < n → (Refs.bits n x).getD i false = x.testBit i := by
  induction n with
  | zero => intro x i h; omega
  | succ n ih =>
    intro x i h
    have h2 : Int.tdiv (x : Int) 2 = ((x / 2 : Nat) : Int) := by rw [Int.tdiv_eq_ediv_of_nonneg (by omega)]; omega
    have h3 : (Int.tmod (x : Int) 2 == 1) = (x % 2 == 1) := by rw [Int.tmod_eq_emod_of_nonneg (by omega), Bool.eq_iff_iff]; simp; omega
    rw [Refs.bits, h2, h3]
    cases i with
    | zero =>
      rw [List.getD_cons_zero, Nat.testBit_zero, Bool.eq_iff_iff]; simp
    | succ i => rw [List.getD_cons_succ, ih _ i (by omega), Nat.testBit_succ]
theorem bits_word (a : W) : ofBits (Refs.bits 32 (iv a)) = a := by
  apply BitVec.eq_of_getLsbD_eq
  intro i hi
  rw [ofBits_get _ i hi]
  exact bits_get 32 a.toNat i hi
theorem shift_l0 (m : Nat) (hm : m ≤ 100) (d : Nat) : ∀ (k : Nat) (x : Nat) (acc : List Bool), acc.length + d = 32 → x < 4294967296 → 17 * (8 * m + 32) + 100 ≤ k →
    keepsakeref01_Shift.l0 (k + d + 1) x m acc ((32 - d : Nat) : Int) = some (iv (Tn (8 * m) (ofBits (acc ++ Refs.bits d x)))) := by
  induction d with
  | zero =>
    intro k x acc ha hx hk
    have hL : (acc ++ List.replicate (8 * m) false).length = 8 * m + 32 := by rw [List.length_append, List.length_replicate]; omega
    obtain ⟨r, h1, h2, h3⟩ := left_f (acc ++ List.replicate (8 * m) false) (by omega) (by omega) k (by omega)
    rw [Nat.add_zero, keepsakeref01_Shift.l0, if_neg (by omega), w64 (8 * (m : Int)) (by omega) (by omega), if_pos (by omega), show (8 * (m : Int)).toNat = 8 * m from by omega, if_pos (by omega), h1, Option.bind_some,
      word_f r (by omega) k (by omega), Option.bind_some, h3, List.drop_left' (by omega), run_zeros, ← ofBits_take, List.take_left' (by omega)]
    simp [Refs.bits]
  | succ d ih =>
    intro k x acc ha hx hk
    have h2 : Int.tdiv (x : Int) 2 = ((x / 2 : Nat) : Int) := by rw [Int.tdiv_eq_ediv_of_nonneg (by omega)]; omega
    rw [show k + (d + 1) + 1 = (k + d + 1) + 1 from by omega, keepsakeref01_Shift.l0, if_pos (by omega), if_pos (by omega), w64 _ (by omega) (by omega), show ((32 - (d + 1) : Nat) : Int) + 1 = ((32 - d : Nat) : Int) from by omega, h2,
      show ((x / 2 : Nat) : Int) % 4294967296 = ((x / 2 : Nat) : Int) from by omega, ih k (x / 2) _ (by simp; omega) (by omega) hk, Refs.bits, List.append_assoc, h2]
    rfl
theorem shift_f (a : W) (m : Nat) (hm : m ≤ 100) (k : Nat) (hk : 20000 ≤ k) : keepsakeref01_Shift.f k (iv a) m = some (iv (Tn (8 * m) a)) := by
  unfold keepsakeref01_Shift.f
  obtain ⟨k', rfl⟩ : ∃ m, k = m + 32 + 1 := ⟨k - 33, by omega⟩
  have hs := shift_l0 m hm 32 k' a.toNat [] (by simp) a.isLt (by omega)
  rw [show ((32 - 32 : Nat) : Int) = 0 from rfl, List.nil_append] at hs
  have hb := bits_word a
  unfold iv at hb
  rw [hb] at hs
  exact hs
theorem CrcJoins : keepsakelaw01_CrcJoins.Pure := by
  intro a0 a1 a2 h0 h1 h2
  obtain ⟨a, rfl⟩ := of_u32 h0
  obtain ⟨b, rfl⟩ := of_u32 h1
  obtain ⟨n0, n1⟩ := u8_bd h2
  refine ⟨20000, ?_⟩
  unfold keepsakelaw01_CrcJoins.f keepsakelaw01_awake.f
  rw [Int.tmod_eq_emod_of_nonneg n0, w64 (a2 % 101) (by omega) (by omega)]
  obtain ⟨m, hm⟩ := Int.eq_ofNat_of_zero_le (show 0 ≤ a2 % 101 by omega)
  rw [hm, Option.bind_some, if_pos rfl, join_f a b m (by omega) (by omega), Option.bind_some, shift_f a m (by omega) _ (by omega), Option.bind_some, xor_iv, Int.toNat_natCast, if_pos rfl,
    join_f a b 0 (by omega) (by omega), Option.bind_some, xor_iv]
  simp [Tn]

end Go.Proofs.Ytcnciialpehjjaa.Pure
