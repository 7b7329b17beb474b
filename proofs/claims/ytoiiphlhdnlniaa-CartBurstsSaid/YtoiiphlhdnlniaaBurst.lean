/- Bits that are turned over within 32 in a row, and four bytes behind a text. -/
import Derived.Test.YtoiiphlhdnlniaaAx2
import Derived.Test.YtoiiphlhdnlniaaSums
set_option linter.unusedVariables false
set_option linter.unusedSimpArgs false
namespace Go.Proofs.Ytoiiphlhdnlniaa.Burst
open Go.RowKit Go.Proofs.Ytoiiphlhdnlniaa.All Go.Proofs.Ytoiiphlhdnlniaa.Given Go.Proofs.Ytoiiphlhdnlniaa.Sums Go.Proofs.Ytoiiphlhdnlniaa.Math Go.Proofs.YtoiiphlhdnlniaaW.PrintWords Go.Proofs.YtoiiphlhdnlniaaW.PrintLast Go.Proofs.YtoiiphlhdnlniaaW.PrintMore

theorem Tn_two (n : Nat) : ∀ j, n ≤ j → j < 32 → Tn n (BitVec.twoPow 32 j) = BitVec.twoPow 32 (j - n) := by
  induction n with
  | zero => intro j _ _; rfl
  | succ n ih =>
    intro j h1 h2
    obtain ⟨j, rfl⟩ : ∃ m, j = m + 1 := ⟨j - 1, by omega⟩
    rw [Tn, T_two j h2, ih j (by omega) (by omega)]
    congr 1
    omega
/-- A byte with one bit turned over. -/
def tb (x : Int) (j : Nat) : Int := Go.bits .xor .u8 x (shl .u8 1 (j : Int))
theorem shl8 (j : Nat) (hj : j < 8) : shl .u8 1 (j : Int) = ((2 ^ j : Nat) : Int) := by
  unfold shl
  rw [IntKind.wrap_u8, Int.toNat_natCast, Nat.min_eq_left (show j ≤ IntKind.u8.bits from by simp [IntKind.bits]; omega)]
  rcases (by omega : j = 0 ∨ j = 1 ∨ j = 2 ∨ j = 3 ∨ j = 4 ∨ j = 5 ∨ j = 6 ∨ j = 7) with rfl | rfl | rfl | rfl | rfl | rfl | rfl | rfl <;> rfl
theorem u8_xor (x y : Int) (hx : 0 ≤ x ∧ x ≤ 255) (hy : 0 ≤ y ∧ y ≤ 255) :
    bv (Go.bits .xor .u8 x y) = bv x ^^^ bv y ∧ 0 ≤ Go.bits .xor .u8 x y ∧ Go.bits .xor .u8 x y ≤ 255 := by
  have e : Go.bits .xor .u8 x y = ((BitVec.ofInt 8 x ^^^ BitVec.ofInt 8 y).toNat : Int) := by
    have h := (BitVec.ofInt 8 x ^^^ BitVec.ofInt 8 y).isLt
    show IntKind.u8.wrap _ = _
    rw [IntKind.wrap_u8]
    show ((BitVec.ofInt 8 x ^^^ BitVec.ofInt 8 y).toNat : Int) % 256 = _
    omega
  have h := (BitVec.ofInt 8 x ^^^ BitVec.ofInt 8 y).isLt
  refine ⟨?_, by rw [e]; omega, by rw [e]; omega⟩
  obtain ⟨a, rfl⟩ := Int.eq_ofNat_of_zero_le hx.1
  obtain ⟨b, rfl⟩ := Int.eq_ofNat_of_zero_le hy.1
  rw [e]
  apply BitVec.eq_of_toNat_eq
  unfold bv
  rw [BitVec.toNat_xor, BitVec.toNat_ofInt, BitVec.toNat_ofInt, BitVec.toNat_ofInt, BitVec.toNat_xor, BitVec.toNat_ofInt, BitVec.toNat_ofInt]
  have h1 : ((a : Int) % ((2 ^ 8 : Nat) : Int)).toNat = a := by omega
  have h2 : ((b : Int) % ((2 ^ 8 : Nat) : Int)).toNat = b := by omega
  have h3 : ((a : Int) % ((2 ^ 32 : Nat) : Int)).toNat = a := by omega
  have h4 : ((b : Int) % ((2 ^ 32 : Nat) : Int)).toNat = b := by omega
  rw [h1, h2, h3, h4]
  have h5 : a ^^^ b < 2 ^ 8 := Nat.xor_lt_two_pow (by omega) (by omega)
  omega
theorem pow_small (j : Nat) (hj : j < 8) : 2 ^ j ≤ 128 := by
  have : (2 : Nat) ^ j ≤ 2 ^ 7 := Nat.pow_le_pow_right (by omega) (by omega)
  omega
theorem tb_bv (x : Int) (j : Nat) (hx : 0 ≤ x ∧ x ≤ 255) (hj : j < 8) : bv (tb x j) = bv x ^^^ BitVec.twoPow 32 j ∧ 0 ≤ tb x j ∧ tb x j ≤ 255 := by
  have hp := pow_small j hj
  have h := u8_xor x ((2 ^ j : Nat) : Int) hx ⟨Int.natCast_nonneg _, Int.le_trans (Int.ofNat_le.2 hp) (by decide)⟩
  unfold tb
  rw [shl8 j hj]
  refine ⟨?_, h.2⟩
  rw [h.1]
  congr 1
  apply BitVec.eq_of_toNat_eq
  unfold bv
  rw [BitVec.toNat_ofInt, BitVec.toNat_twoPow]
  omega
/-- A list with one bit turned over. -/
def turn (c : List Int) (p : Nat) : List Int := c.set (p / 8) (tb (rd c (p / 8 : Nat)) (p % 8))
theorem turn_len (c : List Int) (p : Nat) : (turn c p).length = c.length := List.length_set ..
theorem turn_bytes (c : List Int) (p : Nat) (hc : Bytes c) (hp : p < 8 * c.length) : Bytes (turn c p) := by
  intro x hx
  have hr := rd_byte hc (p / 8) (by omega)
  rcases List.mem_or_eq_of_mem_set hx with h | h
  · exact hc x h
  · rw [h]; exact (tb_bv _ _ hr (by omega)).2
theorem turn_fold (c : List Int) (p : Nat) (s : W) (hc : Bytes c) (hp : p < 8 * c.length) : fold s (turn c p) = fold s c ^^^ Tn (8 * c.length - p) 1#32 := by
  have hq : p / 8 < c.length := by omega
  have hr := rd_byte hc (p / 8) hq
  have e1 : turn c p = c.take (p / 8) ++ tb (rd c (p / 8 : Nat)) (p % 8) :: c.drop (p / 8 + 1) := by
    unfold turn
    rw [List.set_eq_take_append_cons_drop, if_pos hq]
  have e2 : c = c.take (p / 8) ++ rd c (p / 8 : Nat) :: c.drop (p / 8 + 1) := by
    rw [← rd_drop c (p / 8) hq, List.take_append_drop]
  have ht := (tb_bv (rd c (p / 8 : Nat)) (p % 8) hr (by omega)).1
  have hlen : (c.drop (p / 8 + 1)).length = c.length - (p / 8 + 1) := List.length_drop ..
  rw [e1]
  conv => rhs; lhs; rw [e2]
  generalize c.drop (p / 8 + 1) = r at hlen ⊢
  generalize fold s (c.take (p / 8)) = u
  rw [fold_append, fold_append, fold_cons, fold_cons]
  generalize fold s (c.take (p / 8)) = u
  have e3 : upd u (tb (rd c (p / 8 : Nat)) (p % 8)) = Tn 8 (BitVec.twoPow 32 (p % 8)) ^^^ upd u (rd c (p / 8 : Nat)) := by
    unfold upd
    rw [ht, ← Tn_xor]
    congr 1
    ac_rfl
  have e4 : Tn 8 (BitVec.twoPow 32 (p % 8)) = Tn (8 - p % 8) 1#32 := by
    have h8 : 8 = p % 8 + (8 - p % 8) := by omega
    have h := Tn_add (p % 8) (8 - p % 8) (BitVec.twoPow 32 (p % 8))
    rw [← h8, Tn_two _ _ (Nat.le_refl _) (by omega), Nat.sub_self] at h
    exact h
  rw [e3, e4, fold_lin, ← Tn_add, BitVec.xor_comm]
  congr 2
  omega
theorem Tn_one (n i : Nat) (hi : i < 32) (h : i ≤ n) : Tn (n - i) 1#32 = Tn n (BitVec.twoPow 32 i) := by
  have h8 : n = i + (n - i) := by omega
  have h := Tn_add i (n - i) (BitVec.twoPow 32 i)
  rw [← h8, Tn_two _ _ (Nat.le_refl _) hi, Nat.sub_self] at h
  exact h.symm
/-- What holds while bits are turned over. -/
structure Inv (b c : List Int) (k i : Nat) (m : W) : Prop where
  len : c.length = b.length
  bytes : Bytes c
  low : ∀ j, i ≤ j → m.getLsbD j = false
  sum : ∀ s, fold s c = fold s b ^^^ Tn (8 * b.length - k) m
  same : m = 0#32 → c = b
theorem Inv.next {b c : List Int} {k i : Nat} {m : W} (h : Inv b c k i m) : Inv b c k (i + 1) m := ⟨h.len, h.bytes, fun j hj => h.low j (by omega), h.sum, h.same⟩
theorem Inv.turn {b c : List Int} {k i : Nat} {m : W} (h : Inv b c k i m) (hi : i < 32) (hp : k + i < 8 * b.length) : Inv b (turn c (k + i)) k (i + 1) (m ^^^ BitVec.twoPow 32 i) where
  len := by rw [turn_len, h.len]
  bytes := turn_bytes c _ h.bytes (by rw [h.len]; exact hp)
  low := fun j hj => by
    rw [BitVec.getLsbD_xor, h.low j (by omega), BitVec.getLsbD_twoPow]
    simp; omega
  sum := fun s => by
    rw [turn_fold c _ s h.bytes (by rw [h.len]; exact hp), h.sum, Tn_xor, h.len, BitVec.xor_assoc]
    congr 2
    rw [show 8 * b.length - (k + i) = (8 * b.length - k) - i from by omega]
    exact Tn_one _ _ hi (by omega)
  same := fun e => by
    exfalso
    have h1 := congrArg (fun x => BitVec.getLsbD x i) e
    simp only [BitVec.getLsbD_xor, h.low i (Nat.le_refl _), BitVec.getLsbD_twoPow] at h1
    simp at h1
    omega
theorem T_shl (v : W) (h : v.toNat < 2 ^ 31) : T (v <<< 1) = v := by
  unfold T
  have h0 : (v <<< 1).getLsbD 0 = false := by simp
  rw [h0]
  simp only [Bool.false_eq_true, if_false, BitVec.xor_zero]
  apply BitVec.eq_of_toNat_eq
  rw [BitVec.toNat_ushiftRight, BitVec.toNat_shiftLeft, Nat.shiftLeft_eq, Nat.shiftRight_eq_div_pow]
  omega
theorem Tn_shl (n : Nat) : ∀ (v : W), v.toNat * 2 ^ n < 2 ^ 32 → Tn n (v <<< n) = v := by
  induction n with
  | zero => intro v _; simp [Tn]
  | succ n ih =>
    intro v h
    have h2 : v.toNat * 2 ^ n < 2 ^ 31 := by rw [Nat.pow_succ, ← Nat.mul_assoc] at h; omega
    have e : v <<< (n + 1) = (v <<< n) <<< 1 := by rw [BitVec.shiftLeft_add]
    rw [Tn, e, T_shl, ih v (by omega)]
    rw [BitVec.toNat_shiftLeft, Nat.shiftLeft_eq, Nat.mod_eq_of_lt (by omega)]
    exact h2
/-- A word's byte. -/
theorem byte_bit (a : W) (k : Nat) (i : Nat) : (bv (iv a / ((2 ^ k : Nat) : Int) % 256)).getLsbD i = (decide (i < 8) && a.getLsbD (k + i)) := by
  have e : bv (iv a / ((2 ^ k : Nat) : Int) % 256) = BitVec.ofNat 32 (a.toNat / 2 ^ k % 2 ^ 8) := by
    apply BitVec.eq_of_toNat_eq
    unfold bv iv
    rw [BitVec.toNat_ofInt, BitVec.toNat_ofNat]
    have h1 : (a.toNat : Int) / ((2 ^ k : Nat) : Int) % 256 = ((a.toNat / 2 ^ k % 2 ^ 8 : Nat) : Int) := by rw [← Int.natCast_ediv]; omega
    rw [h1]
    omega
  rw [e, BitVec.getLsbD_ofNat, Nat.testBit_mod_two_pow, Nat.testBit_div_two_pow]
  by_cases h8 : i < 8
  · have h32 : i < 32 := by omega
    simp [h8, h32, BitVec.getLsbD, Nat.add_comm]
  · simp [h8]
def word (b0 b1 b2 b3 : Int) : W := bv b0 ^^^ bv b1 <<< 8 ^^^ bv b2 <<< 16 ^^^ bv b3 <<< 24
theorem word_of (a : W) : word (iv a % 256) (iv a / 256 % 256) (iv a / 65536 % 256) (iv a / 16777216 % 256) = a := by
  have e0 : iv a % 256 = iv a / ((2 ^ 0 : Nat) : Int) % 256 := by simp
  have e1 : iv a / 256 % 256 = iv a / ((2 ^ 8 : Nat) : Int) % 256 := rfl
  have e2 : iv a / 65536 % 256 = iv a / ((2 ^ 16 : Nat) : Int) % 256 := rfl
  have e3 : iv a / 16777216 % 256 = iv a / ((2 ^ 24 : Nat) : Int) % 256 := rfl
  rw [e0, e1, e2, e3]
  apply BitVec.eq_of_getLsbD_eq
  intro i hi
  unfold word
  simp only [BitVec.getLsbD_xor, BitVec.getLsbD_shiftLeft, byte_bit]
  rcases (by omega : i < 8 ∨ (8 ≤ i ∧ i < 16) ∨ (16 ≤ i ∧ i < 24) ∨ (24 ≤ i ∧ i < 32)) with h | h | h | h
  · have a1 : i < 16 := by omega
    have a2 : i < 24 := by omega
    simp [h, a1, a2]
  · have a0 : ¬ i < 8 := by omega
    have a1 : i - 8 < 8 := by omega
    have a2 : i < 16 := by omega
    have a3 : i < 24 := by omega
    have a4 : 8 + (i - 8) = i := by omega
    simp [a0, a1, a2, a3, a4, hi]
  · have a0 : ¬ i < 8 := by omega
    have a1 : ¬ i - 8 < 8 := by omega
    have a2 : ¬ i < 16 := by omega
    have a3 : i < 24 := by omega
    have a4 : 16 + (i - 16) = i := by omega
    have a5 : i - 16 < 8 := by omega
    simp [a0, a1, a2, a3, a4, a5, hi]
  · have a0 : ¬ i < 8 := by omega
    have a1 : ¬ i - 8 < 8 := by omega
    have a2 : ¬ i < 16 := by omega
    have a3 : ¬ i < 24 := by omega
    have a4 : 24 + (i - 24) = i := by omega
    have a5 : ¬ i - 16 < 8 := by omega
    have a6 : i - 24 < 8 := by omega
    simp [a0, a1, a2, a3, a4, a5, a6, hi]
theorem byte_nat (b : Int) (h0 : 0 ≤ b) (h1 : b ≤ 255) : (bv b).toNat < 256 := by
  unfold bv
  rw [BitVec.toNat_ofInt]
  omega
theorem four (n : Nat) (s x0 x1 x2 x3 y1 y2 y3 : W) (h1 : Tn (n + n + n + n) y1 = Tn (n + n + n) x1) (h2 : Tn (n + n + n + n) y2 = Tn (n + n) x2) (h3 : Tn (n + n + n + n) y3 = Tn n x3) :
    Tn n (Tn n (Tn n (Tn n (s ^^^ x0) ^^^ x1) ^^^ x2) ^^^ x3) = Tn (n + n + n + n) (s ^^^ (x0 ^^^ y1 ^^^ y2 ^^^ y3)) := by
  rw [show s ^^^ (x0 ^^^ y1 ^^^ y2 ^^^ y3) = (s ^^^ x0) ^^^ y1 ^^^ y2 ^^^ y3 from by ac_rfl]
  rw [Tn_xor (n + n + n + n), Tn_xor (n + n + n + n), Tn_xor (n + n + n + n), h1, h2, h3]
  rw [Tn_xor n _ x3, Tn_xor n _ x2, Tn_xor n _ x1]
  rw [Tn_xor n _ (Tn n x2), Tn_xor n _ (Tn n x1), Tn_xor n _ (Tn n (Tn n x1))]
  simp only [Tn_add]
theorem fold_four (s : W) (b0 b1 b2 b3 : Int) (h1 : 0 ≤ b1 ∧ b1 ≤ 255) (h2 : 0 ≤ b2 ∧ b2 ≤ 255) (h3 : 0 ≤ b3 ∧ b3 ≤ 255) : fold s [b0, b1, b2, b3] = Tn 32 (s ^^^ word b0 b1 b2 b3) := by
  have n1 := byte_nat b1 h1.1 h1.2
  have n2 := byte_nat b2 h2.1 h2.2
  have n3 := byte_nat b3 h3.1 h3.2
  have t1 : Tn 32 (bv b1 <<< 8) = Tn 24 (bv b1) := by have h := Tn_add 8 24 (bv b1 <<< 8); rw [Tn_shl 8 _ (by omega)] at h; exact h
  have t2 : Tn 32 (bv b2 <<< 16) = Tn 16 (bv b2) := by have h := Tn_add 16 16 (bv b2 <<< 16); rw [Tn_shl 16 _ (by omega)] at h; exact h
  have t3 : Tn 32 (bv b3 <<< 24) = Tn 8 (bv b3) := by have h := Tn_add 24 8 (bv b3 <<< 24); rw [Tn_shl 24 _ (by omega)] at h; exact h
  exact four 8 s (bv b0) (bv b1) (bv b2) (bv b3) _ _ _ t1 t2 t3
theorem bytes4 (a : W) : Bytes [iv a % 256, iv a / 256 % 256, iv a / 65536 % 256, iv a / 16777216 % 256] := by
  intro x hx
  simp only [List.mem_cons, List.not_mem_nil, or_false] at hx
  rcases hx with rfl | rfl | rfl | rfl <;> omega

end Go.Proofs.Ytoiiphlhdnlniaa.Burst
