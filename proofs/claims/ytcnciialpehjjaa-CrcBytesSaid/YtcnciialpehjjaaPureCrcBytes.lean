/- With four bytes more any sum is come by, by just one choice of them: for every sum and every two choices. -/
import Derived.Test.YtcnciialpehjjaaAx12
import Derived.Test.YtcnciialpehjjaaSums
set_option linter.unusedVariables false
set_option linter.unusedSimpArgs false
namespace Go.Proofs.Ytcnciialpehjjaa.Pure
open Go.RowKit Go.Proofs.Ytcnciialpehjjaa.All Go.Proofs.Ytcnciialpehjjaa.Given Go.Proofs.Ytcnciialpehjjaa.Sums Go.Proofs.Ytcnciialpehjjaa.Math Go.Proofs.YtcnciialpehjjaaW.PrintWords Go.Proofs.YtcnciialpehjjaaW.PrintLast

theorem T_shl (v : W) (h : v.toNat < 2 ^ 31) : T (v <<< 1) = v := by
  unfold T
  have h0 : (v <<< 1).getLsbD 0 = false := by simp
  rw [h0]
  simp only [Bool.false_eq_true, if_false, BitVec.xor_zero]
  apply BitVec.eq_of_toNat_eq
  rw [BitVec.toNat_ushiftRight, BitVec.toNat_shiftLeft, Nat.shiftLeft_eq, Nat.shiftRight_eq_div_pow]
  omega
theorem Tn_shl (n : Nat) : ∀ (v : W), v.toNat * 2 ^ n < 2 ^ 32 → Tn n (v <<< n) = v := by
  induction n with
  | zero => intro v _; simp [Tn]
  | succ n ih =>
    intro v h
    have h2 : v.toNat * 2 ^ n < 2 ^ 31 := by rw [Nat.pow_succ, ← Nat.mul_assoc] at h; omega
    have e : v <<< (n + 1) = (v <<< n) <<< 1 := by rw [BitVec.shiftLeft_add]
    rw [Tn, e, T_shl, ih v (by omega)]
    rw [BitVec.toNat_shiftLeft, Nat.shiftLeft_eq, Nat.mod_eq_of_lt (by omega)]
    exact h2
/-- A word's byte. -/
theorem byte_bit (a : W) (k : Nat) (i : Nat) : (bv (iv a / ((2 ^ k : Nat) : Int) % 256)).getLsbD i = (decide (i < 8) && a.getLsbD (k + i)) := by
  have e : bv (iv a / ((2 ^ k : Nat) : Int) % 256) = BitVec.ofNat 32 (a.toNat / 2 ^ k % 2 ^ 8) := by
    apply BitVec.eq_of_toNat_eq
    unfold bv iv
    rw [BitVec.toNat_ofInt, BitVec.toNat_ofNat]
    have h1 : (a.toNat : Int) / ((2 ^ k : Nat) : Int) % 256 = ((a.toNat / 2 ^ k % 2 ^ 8 : Nat) : Int) := by rw [← Int.natCast_ediv]; omega
    rw [h1]
    omega
  rw [e, BitVec.getLsbD_ofNat, Nat.testBit_mod_two_pow, Nat.testBit_div_two_pow]
  by_cases h8 : i < 8
  · have h32 : i < 32 := by omega
    simp [h8, h32, BitVec.getLsbD, Nat.add_comm]
  · simp [h8]
def word (b0 b1 b2 b3 : Int) : W := bv b0 ^^^ bv b1 <<< 8 ^^^ bv b2 <<< 16 ^^^ bv b3 <<< 24
theorem word_of (a : W) : word (iv a % 256) (iv a / 256 % 256) (iv a / 65536 % 256) (iv a / 16777216 % 256) = a := by
  have e0 : iv a % 256 = iv a / ((2 ^ 0 : Nat) : Int) % 256 := by simp
  have e1 : iv a / 256 % 256 = iv a / ((2 ^ 8 : Nat) : Int) % 256 := rfl
  have e2 : iv a / 65536 % 256 = iv a / ((2 ^ 16 : Nat) : Int) % 256 := rfl
  have e3 : iv a / 16777216 % 256 = iv a / ((2 ^ 24 : Nat) : Int) % 256 := rfl
  rw [e0, e1, e2, e3]
  apply BitVec.eq_of_getLsbD_eq
  intro i hi
  unfold word
  simp only [BitVec.getLsbD_xor, BitVec.getLsbD_shiftLeft, byte_bit]
  rcases (by omega : i < 8 ∨ (8 ≤ i ∧ i < 16) ∨ (16 ≤ i ∧ i < 24) ∨ (24 ≤ i ∧ i < 32)) with h | h | h | h
  · have a1 : i < 16 := by omega
    have a2 : i < 24 := by omega
    simp [h, a1, a2]
  · have a0 : ¬ i < 8 := by omega
    have a1 : i - 8 < 8 := by omega
    have a2 : i < 16 := by omega
    have a3 : i < 24 := by omega
    have a4 : 8 + (i - 8) = i := by omega
    simp [a0, a1, a2, a3, a4, hi]
  · have a0 : ¬ i < 8 := by omega
    have a1 : ¬ i - 8 < 8 := by omega
    have a2 : ¬ i < 16 := by omega
    have a3 : i < 24 := by omega
    have a4 : 16 + (i - 16) = i := by omega
    have a5 : i - 16 < 8 := by omega
    simp [a0, a1, a2, a3, a4, a5, hi]
  · have a0 : ¬ i < 8 := by omega
    have a1 : ¬ i - 8 < 8 := by omega
    have a2 : ¬ i < 16 := by omega
    have a3 : ¬ i < 24 := by omega
    have a4 : 24 + (i - 24) = i := by omega
    have a5 : ¬ i - 16 < 8 := by omega
    have a6 : i - 24 < 8 := by omega
    simp [a0, a1, a2, a3, a4, a5, a6, hi]
theorem byte_nat (b : Int) (h0 : 0 ≤ b) (h1 : b ≤ 255) : (bv b).toNat < 256 := by
  unfold bv
  rw [BitVec.toNat_ofInt]
  omega
theorem four (n : Nat) (s x0 x1 x2 x3 y1 y2 y3 : W) (h1 : Tn (n + n + n + n) y1 = Tn (n + n + n) x1) (h2 : Tn (n + n + n + n) y2 = Tn (n + n) x2) (h3 : Tn (n + n + n + n) y3 = Tn n x3) :
    Tn n (Tn n (Tn n (Tn n (s ^^^ x0) ^^^ x1) ^^^ x2) ^^^ x3) = Tn (n + n + n + n) (s ^^^ (x0 ^^^ y1 ^^^ y2 ^^^ y3)) := by
  rw [show s ^^^ (x0 ^^^ y1 ^^^ y2 ^^^ y3) = (s ^^^ x0) ^^^ y1 ^^^ y2 ^^^ y3 from by ac_rfl]
  rw [Tn_xor (n + n + n + n), Tn_xor (n + n + n + n), Tn_xor (n + n + n + n), h1, h2, h3]
  rw [Tn_xor n _ x3, Tn_xor n _ x2, Tn_xor n _ x1]
  rw [Tn_xor n _ (Tn n x2), Tn_xor n _ (Tn n x1), Tn_xor n _ (Tn n (Tn n x1))]
  simp only [Tn_add]
theorem fold_four (s : W) (b0 b1 b2 b3 : Int) (h1 : 0 ≤ b1 ∧ b1 ≤ 255) (h2 : 0 ≤ b2 ∧ b2 ≤ 255) (h3 : 0 ≤ b3 ∧ b3 ≤ 255) : fold s [b0, b1, b2, b3] = Tn 32 (s ^^^ word b0 b1 b2 b3) := by
  have n1 := byte_nat b1 h1.1 h1.2
  have n2 := byte_nat b2 h2.1 h2.2
  have n3 := byte_nat b3 h3.1 h3.2
  have t1 : Tn 32 (bv b1 <<< 8) = Tn 24 (bv b1) := by have h := Tn_add 8 24 (bv b1 <<< 8); rw [Tn_shl 8 _ (by omega)] at h; exact h
  have t2 : Tn 32 (bv b2 <<< 16) = Tn 16 (bv b2) := by have h := Tn_add 16 16 (bv b2 <<< 16); rw [Tn_shl 16 _ (by omega)] at h; exact h
  have t3 : Tn 32 (bv b3 <<< 24) = Tn 8 (bv b3) := by have h := Tn_add 24 8 (bv b3 <<< 24); rw [Tn_shl 24 _ (by omega)] at h; exact h
  exact four 8 s (bv b0) (bv b1) (bv b2) (bv b3) _ _ _ t1 t2 t3
theorem bytes4 (a : W) : Bytes [iv a % 256, iv a / 256 % 256, iv a / 65536 % 256, iv a / 16777216 % 256] := by
  intro x hx
  simp only [List.mem_cons, List.not_mem_nil, or_false] at hx
  rcases hx with rfl | rfl | rfl | rfl <;> omega
theorem more4 (s a : W) (k : Nat) (hk : 41 ≤ k) : crc_More.f k (iv s) [iv a % 256, iv a / 256 % 256, iv a / 65536 % 256, iv a / 16777216 % 256] = some (iv (~~~ (Tn 32 (~~~ s ^^^ a)))) := by
  rw [more_f s _ (bytes4 a) (by simp) k (by simpa using hk), fold_four _ _ _ _ _ (by omega) (by omega) (by omega), word_of]
theorem CrcBytes : keepsakelaw01_CrcBytes.Pure := by
  intro a0 a1 a2 h0 h1 h2
  obtain ⟨s, rfl⟩ := of_u32 h0
  obtain ⟨a, rfl⟩ := of_u32 h1
  obtain ⟨b, rfl⟩ := of_u32 h2
  refine ⟨41, ?_⟩
  unfold keepsakelaw01_CrcBytes.f keepsakelaw01_awake.f
  rw [Option.bind_some, if_pos rfl, more4 s a 41 (by omega), Option.bind_some, more4 s b 41 (by omega), Option.bind_some]
  by_cases h : a = b
  · subst h; simp
  · have h1 : (iv a == iv b) = false := by rw [beq_eq_false_iff_ne]; exact fun e => h (iv_inj _ _ e)
    have h2 : (iv (~~~ (Tn 32 (~~~ s ^^^ a))) == iv (~~~ (Tn 32 (~~~ s ^^^ b)))) = false := by
      rw [beq_eq_false_iff_ne]
      intro e
      have e1 := iv_inj _ _ e
      have e2 : Tn 32 (~~~ s ^^^ a) = Tn 32 (~~~ s ^^^ b) := by have := congrArg (~~~ ·) e1; simpa using this
      have e3 := Tn_inj 32 _ _ e2
      exact h (by have := congrArg (~~~ s ^^^ ·) e3; simpa [← BitVec.xor_assoc] using this)
    rw [h1, h2]; rfl

end Go.Proofs.Ytcnciialpehjjaa.Pure
