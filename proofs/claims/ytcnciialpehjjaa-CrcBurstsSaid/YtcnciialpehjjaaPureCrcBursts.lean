/- Texts of one length that differ within 32 bits in a row have unlike sums: for every text, from whichever bit on, whichever of the 32 are others. -/
import Derived.Test.YtcnciialpehjjaaAx10
import Derived.Test.YtcnciialpehjjaaSums
import Derived.Test.YtcnciialpehjjaaSame
set_option linter.unusedVariables false
set_option linter.unusedSimpArgs false
namespace Go.Proofs.Ytcnciialpehjjaa.Pure
open Go.RowKit Go.Proofs.Ytcnciialpehjjaa.All Go.Proofs.Ytcnciialpehjjaa.Given Go.Proofs.Ytcnciialpehjjaa.Sums Go.Proofs.Ytcnciialpehjjaa.Math Go.Proofs.YtcnciialpehjjaaW.PrintWords Go.Proofs.YtcnciialpehjjaaW.PrintLast Go.Proofs.YtcnciialpehjjaaW.PrintMore

theorem Tn_two (n : Nat) : ∀ j, n ≤ j → j < 32 → Tn n (BitVec.twoPow 32 j) = BitVec.twoPow 32 (j - n) := by
  induction n with
  | zero => intro j _ _; rfl
  | succ n ih =>
    intro j h1 h2
    obtain ⟨j, rfl⟩ : ∃ m, j = m + 1 := ⟨j - 1, by omega⟩
    rw [Tn, T_two j h2, ih j (by omega) (by omega)]
    congr 1
    omega
/-- A byte with one bit turned over. -/
def tb (x : Int) (j : Nat) : Int := Go.bits .xor .u8 x (shl .u8 1 (j : Int))
theorem shl8 (j : Nat) (hj : j < 8) : shl .u8 1 (j : Int) = ((2 ^ j : Nat) : Int) := by
  unfold shl
  rw [IntKind.wrap_u8, Int.toNat_natCast, Nat.min_eq_left (show j ≤ IntKind.u8.bits from by simp [IntKind.bits]; omega)]
  rcases (by omega : j = 0 ∨ j = 1 ∨ j = 2 ∨ j = 3 ∨ j = 4 ∨ j = 5 ∨ j = 6 ∨ j = 7) with rfl | rfl | rfl | rfl | rfl | rfl | rfl | rfl <;> rfl
theorem u8_xor (x y : Int) (hx : 0 ≤ x ∧ x ≤ 255) (hy : 0 ≤ y ∧ y ≤ 255) :
    bv (Go.bits .xor .u8 x y) = bv x ^^^ bv y ∧ 0 ≤ Go.bits .xor .u8 x y ∧ Go.bits .xor .u8 x y ≤ 255 := by
  have e : Go.bits .xor .u8 x y = ((BitVec.ofInt 8 x ^^^ BitVec.ofInt 8 y).toNat : Int) := by
    have h := (BitVec.ofInt 8 x ^^^ BitVec.ofInt 8 y).isLt
    show IntKind.u8.wrap _ = _
    rw [IntKind.wrap_u8]
    show ((BitVec.ofInt 8 x ^^^ BitVec.ofInt 8 y).toNat : Int) % 256 = _
    omega
  have h := (BitVec.ofInt 8 x ^^^ BitVec.ofInt 8 y).isLt
  refine ⟨?_, by rw [e]; omega, by rw [e]; omega⟩
  obtain ⟨a, rfl⟩ := Int.eq_ofNat_of_zero_le hx.1
  obtain ⟨b, rfl⟩ := Int.eq_ofNat_of_zero_le hy.1
  rw [e]
  apply BitVec.eq_of_toNat_eq
  unfold bv
  rw [BitVec.toNat_xor, BitVec.toNat_ofInt, BitVec.toNat_ofInt, BitVec.toNat_ofInt, BitVec.toNat_xor, BitVec.toNat_ofInt, BitVec.toNat_ofInt]
  have h1 : ((a : Int) % ((2 ^ 8 : Nat) : Int)).toNat = a := by omega
  have h2 : ((b : Int) % ((2 ^ 8 : Nat) : Int)).toNat = b := by omega
  have h3 : ((a : Int) % ((2 ^ 32 : Nat) : Int)).toNat = a := by omega
  have h4 : ((b : Int) % ((2 ^ 32 : Nat) : Int)).toNat = b := by omega
  rw [h1, h2, h3, h4]
  have h5 : a ^^^ b < 2 ^ 8 := Nat.xor_lt_two_pow (by omega) (by omega)
  omega
theorem pow_small (j : Nat) (hj : j < 8) : 2 ^ j ≤ 128 := by
  have : (2 : Nat) ^ j ≤ 2 ^ 7 := Nat.pow_le_pow_right (by omega) (by omega)
  omega
theorem tb_bv (x : Int) (j : Nat) (hx : 0 ≤ x ∧ x ≤ 255) (hj : j < 8) : bv (tb x j) = bv x ^^^ BitVec.twoPow 32 j ∧ 0 ≤ tb x j ∧ tb x j ≤ 255 := by
  have hp := pow_small j hj
  have h := u8_xor x ((2 ^ j : Nat) : Int) hx ⟨Int.natCast_nonneg _, Int.le_trans (Int.ofNat_le.2 hp) (by decide)⟩
  unfold tb
  rw [shl8 j hj]
  refine ⟨?_, h.2⟩
  rw [h.1]
  congr 1
  apply BitVec.eq_of_toNat_eq
  unfold bv
  rw [BitVec.toNat_ofInt, BitVec.toNat_twoPow]
  omega
/-- A list with one bit turned over. -/
def turn (c : List Int) (p : Nat) : List Int := c.set (p / 8) (tb (rd c (p / 8 : Nat)) (p % 8))
theorem turn_len (c : List Int) (p : Nat) : (turn c p).length = c.length := List.length_set ..
theorem turn_bytes (c : List Int) (p : Nat) (hc : Bytes c) (hp : p < 8 * c.length) : Bytes (turn c p) := by
  intro x hx
  have hr := rd_byte hc (p / 8) (by omega)
  rcases List.mem_or_eq_of_mem_set hx with h | h
  · exact hc x h
  · rw [h]; exact (tb_bv _ _ hr (by omega)).2
theorem turn_fold (c : List Int) (p : Nat) (s : W) (hc : Bytes c) (hp : p < 8 * c.length) : fold s (turn c p) = fold s c ^^^ Tn (8 * c.length - p) 1#32 := by
  have hq : p / 8 < c.length := by omega
  have hr := rd_byte hc (p / 8) hq
  have e1 : turn c p = c.take (p / 8) ++ tb (rd c (p / 8 : Nat)) (p % 8) :: c.drop (p / 8 + 1) := by
    unfold turn
    rw [List.set_eq_take_append_cons_drop, if_pos hq]
  have e2 : c = c.take (p / 8) ++ rd c (p / 8 : Nat) :: c.drop (p / 8 + 1) := by
    rw [← rd_drop c (p / 8) hq, List.take_append_drop]
  have ht := (tb_bv (rd c (p / 8 : Nat)) (p % 8) hr (by omega)).1
  have hlen : (c.drop (p / 8 + 1)).length = c.length - (p / 8 + 1) := List.length_drop ..
  rw [e1]
  conv => rhs; lhs; rw [e2]
  generalize c.drop (p / 8 + 1) = r at hlen ⊢
  generalize fold s (c.take (p / 8)) = u
  rw [fold_append, fold_append, fold_cons, fold_cons]
  generalize fold s (c.take (p / 8)) = u
  have e3 : upd u (tb (rd c (p / 8 : Nat)) (p % 8)) = Tn 8 (BitVec.twoPow 32 (p % 8)) ^^^ upd u (rd c (p / 8 : Nat)) := by
    unfold upd
    rw [ht, ← Tn_xor]
    congr 1
    ac_rfl
  have e4 : Tn 8 (BitVec.twoPow 32 (p % 8)) = Tn (8 - p % 8) 1#32 := by
    have h8 : 8 = p % 8 + (8 - p % 8) := by omega
    have h := Tn_add (p % 8) (8 - p % 8) (BitVec.twoPow 32 (p % 8))
    rw [← h8, Tn_two _ _ (Nat.le_refl _) (by omega), Nat.sub_self] at h
    exact h
  rw [e3, e4, fold_lin, ← Tn_add, BitVec.xor_comm]
  congr 2
  omega
theorem Tn_one (n i : Nat) (hi : i < 32) (h : i ≤ n) : Tn (n - i) 1#32 = Tn n (BitVec.twoPow 32 i) := by
  have h8 : n = i + (n - i) := by omega
  have h := Tn_add i (n - i) (BitVec.twoPow 32 i)
  rw [← h8, Tn_two _ _ (Nat.le_refl _) hi, Nat.sub_self] at h
  exact h.symm
/-- What holds while bits are turned over. -/
structure Inv (b c : List Int) (k i : Nat) (m : W) : Prop where
  len : c.length = b.length
  bytes : Bytes c
  low : ∀ j, i ≤ j → m.getLsbD j = false
  sum : ∀ s, fold s c = fold s b ^^^ Tn (8 * b.length - k) m
  same : m = 0#32 → c = b
theorem Inv.next {b c : List Int} {k i : Nat} {m : W} (h : Inv b c k i m) : Inv b c k (i + 1) m := ⟨h.len, h.bytes, fun j hj => h.low j (by omega), h.sum, h.same⟩
theorem Inv.turn {b c : List Int} {k i : Nat} {m : W} (h : Inv b c k i m) (hi : i < 32) (hp : k + i < 8 * b.length) : Inv b (turn c (k + i)) k (i + 1) (m ^^^ BitVec.twoPow 32 i) where
  len := by rw [turn_len, h.len]
  bytes := turn_bytes c _ h.bytes (by rw [h.len]; exact hp)
  low := fun j hj => by
    rw [BitVec.getLsbD_xor, h.low j (by omega), BitVec.getLsbD_twoPow]
    simp; omega
  sum := fun s => by
    rw [turn_fold c _ s h.bytes (by rw [h.len]; exact hp), h.sum, Tn_xor, h.len, BitVec.xor_assoc]
    congr 2
    rw [show 8 * b.length - (k + i) = (8 * b.length - k) - i from by omega]
    exact Tn_one _ _ hi (by omega)
  same := fun e => by
    exfalso
    have h1 := congrArg (fun x => BitVec.getLsbD x i) e
    simp only [BitVec.getLsbD_xor, h.low i (Nat.le_refl _), BitVec.getLsbD_twoPow] at h1
    simp at h1
    omega
theorem Inv.end_ {b c : List Int} {k i : Nat} {m : W} (h : Inv b c k i m) : (iv (crc b) == iv (crc c)) = decide (b = c) := by
  by_cases hm : m = 0#32
  · rw [h.same hm]; simp
  · have hne : ¬ (fold (~~~ 0#32) b = fold (~~~ 0#32) c) := by
      intro e
      have h2 := h.sum (~~~ 0#32)
      rw [← e] at h2
      have h3 : Tn (8 * b.length - k) m = 0#32 := by
        have := congrArg (fold (~~~ 0#32) b ^^^ ·) h2
        simpa [← BitVec.xor_assoc] using this.symm
      exact hm (Tn_inj _ m 0#32 (by rw [h3, Tn_zero]))
    have h1 : ¬ (b = c) := fun e => hne (by rw [e])
    rw [decide_eq_false h1, beq_eq_false_iff_ne]
    intro e
    have e1 := iv_inj _ _ e
    unfold crc at e1
    exact hne (by have := congrArg (~~~ ·) e1; simpa using this)
def fin (k : Nat) (b c : List Int) : Option Bool := (keepsakeref01_Same.f k b c).bind fun t => (crc_Sum.f k b).bind fun t1 => (crc_Sum.f k c).bind fun t2 => some ((t1 == t2) == t)
theorem fin_true {b c : List Int} {k i : Nat} {m : W} (h : Inv b c k i m) (hb : Bytes b) (hl : b.length ≤ 200) (n : Nat) (hn : 3000 ≤ n) : fin n b c = some true := by
  unfold fin
  rw [Same.same_f b c (by omega) n (by omega), Option.bind_some, sum_f b hb (by omega) n (by omega), Option.bind_some, sum_f c h.bytes (by rw [h.len]; omega) n (by rw [h.len]; omega), Option.bind_some, h.end_]
  simp
theorem j2_fin (n : Nat) (b c : List Int) (y k i : Int) : keepsakelaw01_CrcBursts.j2 (n + 1) b y true c k i false = fin n b c := by
  rw [keepsakelaw01_CrcBursts.j2, if_neg (by simp)]
  simp only [if_true]
  rfl
theorem j2_turn (n : Nat) (b c : List Int) (y : Int) (k i : Nat) (hi : i < 32) (hk : k + i < 8 * c.length) (hc : c.length ≤ 200) (hbit : (Go.bits .and .u32 (shr .u32 y i) 1) = 1) :
    keepsakelaw01_CrcBursts.j2 (n + 1) b y true c k i true = keepsakelaw01_CrcBursts.l0 n b y true (turn c (k + i)) k ((i + 1 : Nat) : Int) := by
  have e1 : wrap64 ((k : Int) + i) = ((k + i : Nat) : Int) := by rw [w64 _ (by omega) (by omega)]; omega
  have e2 : wrap64 (Int.tdiv ((k + i : Nat) : Int) 8) = (((k + i) / 8 : Nat) : Int) := by rw [Int.tdiv_eq_ediv_of_nonneg (by omega), w64 _ (by omega) (by omega)]; omega
  have e3 : Int.tmod ((k + i : Nat) : Int) 8 = (((k + i) % 8 : Nat) : Int) := by rw [Int.tmod_eq_emod_of_nonneg (by omega)]; omega
  rw [keepsakelaw01_CrcBursts.j2, if_pos rfl, if_pos (by omega), if_pos hbit, e1, e2, e3, if_pos (by omega), if_pos (by omega), if_pos (by omega), w64 ((i : Int) + 1) (by omega) (by omega), Int.toNat_natCast]
  rfl
theorem j2_stay (n : Nat) (b c : List Int) (y : Int) (k i : Nat) (hi : i < 32) (hbit : ¬ (Go.bits .and .u32 (shr .u32 y i) 1) = 1) :
    keepsakelaw01_CrcBursts.j2 (n + 1) b y true c k i true = keepsakelaw01_CrcBursts.l0 n b y true c k ((i + 1 : Nat) : Int) := by
  rw [keepsakelaw01_CrcBursts.j2, if_pos rfl, if_pos (by omega), if_neg hbit, w64 ((i : Int) + 1) (by omega) (by omega)]
  rfl
theorem l0_all (b : List Int) (hb : Bytes b) (hl : b.length ≤ 200) (y : Int) (k : Nat) (hk : k ≤ 1600) (d : Nat) : ∀ (n i : Nat) (c : List Int) (m : W), i + d = 32 → 3000 + 2 * d + 2 ≤ n → Inv b c k i m →
    keepsakelaw01_CrcBursts.l0 n b y true c k i = some true := by
  induction d with
  | zero =>
    intro n i c m hi hn h
    obtain ⟨n, rfl⟩ : ∃ m, n = m + 1 + 1 := ⟨n - 2, by omega⟩
    rw [keepsakelaw01_CrcBursts.l0, if_neg (by omega), j2_fin]
    exact fin_true h hb hl n (by omega)
  | succ d ih =>
    intro n i c m hi hn h
    obtain ⟨n, rfl⟩ : ∃ m, n = m + 1 + 1 := ⟨n - 2, by omega⟩
    rw [keepsakelaw01_CrcBursts.l0, if_pos (by omega), w64 ((k : Int) + i) (by omega) (by omega), w64 (8 * (b.length : Int)) (by omega) (by omega)]
    by_cases hp : k + i < 8 * b.length
    · have e : decide ((k : Int) + i < 8 * (b.length : Int)) = true := by rw [decide_eq_true_eq]; omega
      rw [e]
      by_cases hbit : (Go.bits .and .u32 (shr .u32 y i) 1) = 1
      · rw [j2_turn n b c y k i (by omega) (by rw [h.len]; exact hp) (by rw [h.len]; exact hl) hbit]
        exact ih n (i + 1) _ _ (by omega) (by omega) (h.turn (by omega) hp)
      · rw [j2_stay n b c y k i (by omega) hbit]
        exact ih n (i + 1) _ _ (by omega) (by omega) h.next
    · have e : decide ((k : Int) + i < 8 * (b.length : Int)) = false := by rw [decide_eq_false_iff_not]; omega
      rw [e, j2_fin]
      exact fin_true h hb hl n (by omega)
theorem CrcBursts : keepsakelaw01_CrcBursts.Pure := by
  intro b a y hl _ hw ha hy
  have hb := bytes_of_wf hw
  obtain ⟨a0, a1⟩ := u16_bd ha
  refine ⟨4001, ?_⟩
  unfold keepsakelaw01_CrcBursts.f keepsakelaw01_awake.f
  rw [Option.bind_some]
  by_cases h0 : (b.length : Int) = 0
  · rw [if_pos h0, keepsakelaw01_CrcBursts.j0, if_pos rfl]
  · rw [if_neg h0]
    by_cases h1 : (b.length : Int) > 200
    · rw [decide_eq_true h1, keepsakelaw01_CrcBursts.j0, if_pos rfl]
    · rw [decide_eq_false h1, keepsakelaw01_CrcBursts.j0, if_neg (by simp), Option.bind_some, if_pos (by simp; omega), List.nil_append, w64 (8 * (b.length : Int)) (by omega) (by omega), if_neg (by omega), w64 a (by omega) (by omega),
        Int.tmod_eq_emod_of_nonneg a0]
      have m0 : 0 ≤ a % (8 * (b.length : Int)) := Int.emod_nonneg _ (by omega)
      have m1 : a % (8 * (b.length : Int)) < 8 * (b.length : Int) := Int.emod_lt_of_pos _ (by omega)
      generalize a % (8 * (b.length : Int)) = q at m0 m1 ⊢
      obtain ⟨k, rfl⟩ := Int.eq_ofNat_of_zero_le m0
      rw [show (0 : Int) = ((0 : Nat) : Int) from rfl]
      refine l0_all b hb (by omega) y k (by omega) 32 4000 0 b 0#32 (by omega) (by omega) ⟨rfl, hb, fun _ _ => by simp, fun s => by rw [Tn_zero, BitVec.xor_zero], fun _ => rfl⟩

end Go.Proofs.Ytcnciialpehjjaa.Pure
