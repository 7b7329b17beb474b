/- The document's sum is the program's. -/
import Derived.Test.YtoiiphlhdnlniaaAx4
import Derived.Test.YtoiiphlhdnlniaaRefs
set_option linter.unusedVariables false
set_option linter.unusedSimpArgs false
namespace Go.Proofs.Ytoiiphlhdnlniaa.Refs
open Go.RowKit Go.Proofs.Ytoiiphlhdnlniaa.All Go.Proofs.Ytoiiphlhdnlniaa.Given Go.Proofs.Ytoiiphlhdnlniaa.Sums Go.Proofs.Ytoiiphlhdnlniaa.Refs Go.Proofs.Ytoiiphlhdnlniaa.Math Go.Proofs.YtoiiphlhdnlniaaW.PrintWords Go.Proofs.YtoiiphlhdnlniaaW.PrintLast

/-- n bits from place i on, turned over. -/
def invs : List Bool → Nat → Nat → List Bool
  | l, _, 0 => l
  | l, i, n + 1 => invs (l.set i (!(l.getD i false))) (i + 1) n
theorem invs_len (n : Nat) : ∀ l i, (invs l i n).length = l.length := by
  induction n with
  | zero => intro l i; rfl
  | succ n ih => intro l i; rw [invs, ih, List.length_set]
theorem invs_get (n : Nat) : ∀ l i m, i + n ≤ l.length → (invs l i n).getD m false = (l.getD m false ^^ decide (i ≤ m ∧ m < i + n)) := by
  induction n with
  | zero =>
    intro l i m _
    have h1 : ¬ (i ≤ m ∧ m < i + 0) := by omega
    rw [invs, decide_eq_false h1, Bool.xor_false]
  | succ n ih =>
    intro l i m h
    rw [invs, ih _ (i + 1) m (by rw [List.length_set]; omega), getD_set _ _ _ _ (by omega)]
    by_cases hm : m = i
    · subst hm
      have h1 : ¬ (m + 1 ≤ m ∧ m < m + 1 + n) := by omega
      have h2 : m ≤ m ∧ m < m + (n + 1) := by omega
      rw [if_pos rfl, decide_eq_false h1, decide_eq_true h2]
      simp
    · have e : (i + 1 ≤ m ∧ m < i + 1 + n) ↔ (i ≤ m ∧ m < i + (n + 1)) := by omega
      rw [if_neg hm]
      simp only [e]
theorem invs_word (l : List Bool) (h : 32 ≤ l.length) : ofBits (invs l 0 32) = ~~~ (ofBits l) := by
  apply BitVec.eq_of_getLsbD_eq
  intro t ht
  rw [ofBits_get _ t ht, invs_get 32 l 0 t (by omega), BitVec.getLsbD_not, ofBits_get _ t ht]
  have h2 : 0 ≤ t ∧ t < 0 + 32 := by omega
  simp [ht]
theorem invs_drop (l : List Bool) (h : 32 ≤ l.length) : (invs l 0 32).drop 32 = l.drop 32 := by
  apply ext_getD
  · rw [List.length_drop, List.length_drop, invs_len]
  · intro i hi
    rw [getD_drop, getD_drop, invs_get 32 l 0 _ (by omega)]
    have h2 : ¬ (0 ≤ 32 + i ∧ 32 + i < 0 + 32) := by omega
    rw [decide_eq_false h2, Bool.xor_false]
theorem rdOf_nat (l : List Bool) (i : Nat) : rdOf false l (i : Int) = l.getD i false := by unfold rdOf; rw [Int.toNat_natCast]
theorem sum_l1 (d : Nat) : ∀ (k i : Nat) (l : List Bool), i + d = 32 → 32 ≤ l.length → 33 ≤ k → keepsakeref01_Sum.l1 (k + d + 1) l i = some (iv (ofBits (invs l i d))) := by
  induction d with
  | zero =>
    intro k i l hi hl hk
    rw [Nat.add_zero, keepsakeref01_Sum.l1, if_neg (by omega), word_f l hl k hk]
    rfl
  | succ d ih =>
    intro k i l hi hl hk
    rw [show k + (d + 1) + 1 = (k + d + 1) + 1 from by omega, keepsakeref01_Sum.l1, if_pos (by omega), if_pos (by omega), if_pos (by omega), w64 _ (by omega) (by omega), rdOf_nat, Int.toNat_natCast,
      show ((i : Int) + 1) = ((i + 1 : Nat) : Int) from by omega, ih k (i + 1) _ (by omega) (by rw [List.length_set]; exact hl) hk, invs]
theorem sum_l0 (d : Nat) : ∀ (k i : Nat) (l : List Bool), i + d = 32 → 32 ≤ l.length → l.length ≤ 100000 → 17 * l.length + 100 ≤ k →
    keepsakeref01_Sum.l0 (k + d + 1) l i = some (iv (~~~ (run (ofBits (invs l i d)) ((invs l i d).drop 32)))) := by
  induction d with
  | zero =>
    intro k i l hi hl hb hk
    obtain ⟨r, h1, h2, h3⟩ := left_f l hl hb k (by omega)
    obtain ⟨k', rfl⟩ : ∃ m, k = m + 32 + 1 := ⟨k - 33, by omega⟩
    have hs := sum_l1 32 k' 0 r (by omega) (by omega) (by omega)
    rw [show ((0 : Nat) : Int) = 0 from rfl] at hs
    rw [Nat.add_zero, keepsakeref01_Sum.l0, if_neg (by omega), h1, Option.bind_some, hs, invs_word r (by omega), h3]
    rfl
  | succ d ih =>
    intro k i l hi hl hb hk
    rw [show k + (d + 1) + 1 = (k + d + 1) + 1 from by omega, keepsakeref01_Sum.l0, if_pos (by omega), if_pos (by omega), if_pos (by omega), w64 _ (by omega) (by omega), rdOf_nat, Int.toNat_natCast,
      show ((i : Int) + 1) = ((i + 1 : Nat) : Int) from by omega, ih k (i + 1) _ (by omega) (by rw [List.length_set]; exact hl) (by rw [List.length_set]; exact hb) (by rw [List.length_set]; exact hk), invs]
theorem refSum_f (l : List Int) (hb : Bytes l) (hl : l.length ≤ 660) (k : Nat) (hk : 100000 ≤ k) : keepsakeref01_Sum.f k l = some (iv (crc l)) := by
  unfold keepsakeref01_Sum.f
  have hlen := allBits_len l
  rw [bits_f l hb (by omega) k (by omega), Option.bind_some, if_pos (by omega)]
  obtain ⟨k', rfl⟩ : ∃ m, k = m + 32 + 1 := ⟨k - 33, by omega⟩
  have hL : (allBits l ++ List.replicate 32 false).length = 8 * l.length + 32 := by rw [List.length_append, List.length_replicate, hlen]
  have hs := sum_l0 32 k' 0 (allBits l ++ List.replicate 32 false) (by omega) (by omega) (by omega) (by omega)
  rw [show ((0 : Nat) : Int) = 0 from rfl] at hs
  rw [hs, invs_word _ (by omega), invs_drop _ (by omega)]
  have e1 : ~~~ (ofBits (allBits l ++ List.replicate 32 false)) = ~~~ 0#32 ^^^ ofBits (allBits l ++ List.replicate 32 false) := by
    rw [show (~~~ 0#32 : W) = BitVec.allOnes 32 from by decide, BitVec.allOnes_xor]
  have hz : ofBits (List.replicate 32 false) = 0#32 := by decide
  rw [e1, run_fold _ (8 * l.length) _ hL, List.take_left' hlen, List.drop_left' hlen, hz, BitVec.xor_zero, foldb_all l _ hb]
  rfl

end Go.Proofs.Ytoiiphlhdnlniaa.Refs
