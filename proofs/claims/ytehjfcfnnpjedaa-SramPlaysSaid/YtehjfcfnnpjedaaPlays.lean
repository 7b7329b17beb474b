/- The document's answers, from all that was done, are the chip's state: plain lists. -/
import Derived.Test.YtehjfcfnnpjedaaAx1
import Derived.Test.YtehjfcfnnpjedaaAx2
import Derived.Test.YtehjfcfnnpjedaaLSramOpen
set_option linter.unusedVariables false
set_option linter.unusedSimpArgs false
namespace Go.Proofs.Ytehjfcfnnpjedaa.Given
open Go.RowKit Go.Proofs.Ytehjfcfnnpjedaa.All Go.Proofs.Ytehjfcfnnpjedaa.Sep Go.Proofs.YtehjfcfnnpjedaaW.PrintWords Go.Proofs.YtehjfcfnnpjedaaW.PrintLast Go.Proofs.YtehjfcfnnpjedaaW.PrintMore

theorem rd_T_nat (l : List Op) (k : Nat) : rd_T34 l (k : Int) = opAt l k := by unfold rd_T34 opAt; rw [Int.toNat_natCast]
theorem take_all (l : List Op) : l.take l.length = l := List.take_length
theorem act_lock (s : St) (p : Op) : (act s p).1 = if p.f0 = 1 then (p.f2 == 165) else s.1 := by
  unfold act
  by_cases h0 : p.f0 = 0
  · rw [if_pos h0, if_neg (show ¬ p.f0 = 1 by omega)]
  · rw [if_neg h0]
    split <;> rfl
theorem locked_l0 (xs : List Int) (l : List Op) (hl : l.length ≤ 100000) (j : Nat) : ∀ k, j ≤ l.length → j + 1 ≤ k → keepsakeref12_Locked.l0 k l ((j : Int) - 1) = some (!(run (false, xs) (l.take j)).1) := by
  induction j with
  | zero =>
    intro k _ hk
    obtain ⟨k, rfl⟩ : ∃ m, k = m + 1 := ⟨k - 1, by omega⟩
    rw [keepsakeref12_Locked.l0, if_neg (by omega)]
    rfl
  | succ j ih =>
    intro k hj hk
    obtain ⟨k, rfl⟩ : ∃ m, k = m + 1 := ⟨k - 1, by omega⟩
    have e : ((j + 1 : Nat) : Int) - 1 = (j : Int) := by omega
    rw [e, keepsakeref12_Locked.l0, if_pos (by omega), if_pos (by omega), if_pos (by omega), rd_T_nat, w64 _ (by omega) (by omega), ih k (by omega) (by omega), run_succ _ _ j (by omega), act_lock]
    split
    · rfl
    · rfl
theorem locked_f (xs : List Int) (l : List Op) (hl : l.length ≤ 100000) (k : Nat) (hk : l.length + 1 ≤ k) : keepsakeref12_Locked.f k l = some (!(run (false, xs) l).1) := by
  unfold keepsakeref12_Locked.f
  rw [w64 _ (by omega) (by omega), locked_l0 xs l hl l.length k (Nat.le_refl _) hk, take_all]
theorem rd_set_at (xs : List Int) (i j : Int) (x : Int) (hi : 0 ≤ i ∧ i < xs.length) (hj : 0 ≤ j) : rd (xs.set i.toNat x) j = if i = j then x else rd xs j := by
  by_cases h : i = j
  · subst h
    rw [if_pos rfl, rd_set _ _ _ hi.1 hi.2]
  · rw [if_neg h]
    unfold rd
    rw [List.getD_eq_getElem?_getD, List.getD_eq_getElem?_getD, List.getElem?_set_ne (by omega)]
theorem byte_l0 (xs : List Int) (hp : 0 < xs.length) (l : List Op) (hl : l.length ≤ 100000) (a : Int) (ha : 0 ≤ a ∧ a < xs.length) (j : Nat) : ∀ k, j ≤ l.length → j + l.length + 1 ≤ k → keepsakeref12_Byte.l0 k xs l a ((j : Int) - 1) = some (rd (run (false, xs) (l.take j)).2 a) := by
  induction j with
  | zero =>
    intro k _ hk
    obtain ⟨k, rfl⟩ : ∃ m, k = m + 1 := ⟨k - 1, by omega⟩
    rw [keepsakeref12_Byte.l0, if_neg (by omega), if_pos ha.1, if_pos ha.2]
    rfl
  | succ j ih =>
    intro k hj hk
    obtain ⟨k, rfl⟩ : ∃ m, k = m + 1 := ⟨k - 1, by omega⟩
    have e : ((j + 1 : Nat) : Int) - 1 = (j : Int) := by omega
    have ht : (l.take j).length = j := by rw [List.length_take]; omega
    rw [e, keepsakeref12_Byte.l0, if_pos (by omega), if_pos (by omega), if_pos (by omega), Int.toNat_natCast, locked_f xs (l.take j) (by omega) k (by omega), Option.bind_some, if_pos (by omega), rd_T_nat, w64 _ (by omega) (by omega), ih k (by omega) (by omega), run_succ _ _ j (by omega)]
    have hlen := run_len (false, xs) (l.take j)
    generalize run (false, xs) (l.take j) = s at *
    generalize opAt l j = p
    obtain ⟨o, ys⟩ := s
    simp only at hlen ⊢
    have hpl : place ys p.f1 = mx 0 p.f1 % (xs.length : Int) := by unfold place; rw [hlen]
    have hbd := place_bd ys p.f1 (by omega)
    unfold act
    by_cases h0 : p.f0 = 0
    · rw [if_pos h0, if_neg (by omega), if_pos h0, ← hpl]
      cases o with
      | false => simp
      | true =>
        simp only [if_true]
        rw [rd_set_at ys _ a _ hbd ha.1]
        by_cases h1 : place ys p.f1 = a
        · rw [if_pos h1, if_pos h1]; simp
        · rw [if_neg h1, if_neg h1]
    · rw [if_neg h0, if_neg h0]
      split <;> rfl
theorem byte_f (xs : List Int) (hp : 0 < xs.length) (l : List Op) (hl : l.length ≤ 100000) (a : Int) (ha : 0 ≤ a ∧ a < xs.length) (k : Nat) (hk : 2 * l.length + 1 ≤ k) : keepsakeref12_Byte.f k xs l a = some (rd (run (false, xs) l).2 a) := by
  unfold keepsakeref12_Byte.f
  rw [w64 _ (by omega) (by omega), byte_l0 xs hp l hl a ha l.length k (Nat.le_refl _) (by omega), take_all]
theorem take_rd (ys : List Int) (i : Nat) (h : i < ys.length) : ys.take (i + 1) = ys.take i ++ [rd ys i] := by
  rw [List.take_succ_eq_append_getElem h, Same.rd_nat ys i h]
theorem bytes_l0 (xs : List Int) (hp : 0 < xs.length) (hx : xs.length ≤ 100000) (l : List Op) (hl : l.length ≤ 100000) (d : Nat) : ∀ (k i : Nat), i + d = xs.length → 2 * l.length + 1 + d ≤ k →
    keepsakeref12_Bytes.l0 k xs l ((run (false, xs) l).2.take i) i = some (run (false, xs) l).2 := by
  have hlen := run_len (false, xs) l
  simp only at hlen
  induction d with
  | zero =>
    intro k i hi hk
    obtain ⟨k, rfl⟩ : ∃ m, k = m + 1 := ⟨k - 1, by omega⟩
    rw [keepsakeref12_Bytes.l0, if_neg (by omega), List.take_of_length_le (by omega)]
  | succ d ih =>
    intro k i hi hk
    obtain ⟨k, rfl⟩ : ∃ m, k = m + 1 := ⟨k - 1, by omega⟩
    rw [keepsakeref12_Bytes.l0, if_pos (by omega), byte_f xs hp l hl i (by omega) k (by omega), Option.bind_some, if_pos (by rw [List.length_take]; omega), ← take_rd _ i (by omega), w64 _ (by omega) (by omega)]
    exact ih k (i + 1) (by omega) (by omega)
theorem bytes_f (xs : List Int) (hp : 0 < xs.length) (hx : xs.length ≤ 100000) (l : List Op) (hl : l.length ≤ 100000) : keepsakeref12_Bytes.f (2 * l.length + 1 + xs.length) xs l = some (run (false, xs) l).2 := by
  unfold keepsakeref12_Bytes.f
  have := bytes_l0 xs hp hx l hl xs.length (2 * l.length + 1 + xs.length) 0 (by omega) (Nat.le_refl _)
  simpa using this
end Go.Proofs.Ytehjfcfnnpjedaa.Given
