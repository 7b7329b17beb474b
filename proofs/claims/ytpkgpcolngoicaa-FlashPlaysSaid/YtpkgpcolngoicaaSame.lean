/- Two lists of bytes are one: the printed function. -/
import Derived.Test.YtpkgpcolngoicaaAx1
set_option linter.unusedVariables false
set_option linter.unusedSimpArgs false
namespace Go.Proofs.Ytpkgpcolngoicaa.Same
open Go.RowKit Go.Proofs.Ytpkgpcolngoicaa.All Go.Proofs.YtpkgpcolngoicaaW.PrintWords Go.Proofs.YtpkgpcolngoicaaW.PrintLast

theorem w64' (n : Int) (h0 : -9223372036854775808 ≤ n) (h1 : n ≤ 9223372036854775807) : wrap64 n = n := by unfold wrap64; omega
theorem rd_nat (l : List Int) (i : Nat) (hi : i < l.length) : rd l i = l[i] := by
  unfold rd
  rw [Int.toNat_natCast, List.getD_eq_getElem?_getD, List.getElem?_eq_getElem hi]
  rfl
theorem same_l0 (a b : List Int) (hl : a.length = b.length) (hb : a.length ≤ 9223372036854775806) (d : Nat) : ∀ (k i : Nat), i + d = a.length → d + 1 ≤ k →
    keepsakeref01_Same.l0 k a b i = some (decide (a.drop i = b.drop i)) := by
  induction d with
  | zero =>
    intro k i hi hk
    obtain ⟨k, rfl⟩ : ∃ m, k = m + 1 := ⟨k - 1, by omega⟩
    rw [keepsakeref01_Same.l0, if_neg (by omega), List.drop_of_length_le (show a.length ≤ i by omega), List.drop_of_length_le (show b.length ≤ i by omega)]
    simp
  | succ d ih =>
    intro k i hi hk
    obtain ⟨k, rfl⟩ : ∃ m, k = m + 1 := ⟨k - 1, by omega⟩
    have ha : i < a.length := by omega
    have hb' : i < b.length := by omega
    have e : (a.drop i = b.drop i) ↔ (a[i] = b[i] ∧ a.drop (i + 1) = b.drop (i + 1)) := by
      rw [List.drop_eq_getElem_cons ha, List.drop_eq_getElem_cons hb', List.cons.injEq]
    rw [keepsakeref01_Same.l0, if_pos (by omega), if_pos (by omega), if_pos (by omega), rd_nat a i ha, rd_nat b i hb', w64' _ (by omega) (by omega), show ((i : Int) + 1) = ((i + 1 : Nat) : Int) from by omega]
    by_cases h : a[i] = b[i]
    · rw [if_pos h, ih k (i + 1) (by omega) (by omega)]
      congr 1
      rw [decide_eq_decide, e]
      exact ⟨fun x => ⟨h, x⟩, fun x => x.2⟩
    · rw [if_neg h]
      have : ¬ (a.drop i = b.drop i) := fun x => h (e.1 x).1
      rw [decide_eq_false this]
theorem same_f (a b : List Int) (hb : a.length ≤ 9223372036854775806) (k : Nat) (hk : a.length + 1 ≤ k) : keepsakeref01_Same.f k a b = some (decide (a = b)) := by
  unfold keepsakeref01_Same.f
  by_cases h : (a.length : Int) = (b.length : Int)
  · rw [if_pos h]
    have := same_l0 a b (by omega) hb a.length k 0 (by omega) hk
    simpa using this
  · rw [if_neg h]
    have : a ≠ b := fun e => h (by rw [e])
    simp [this]
end Go.Proofs.Ytpkgpcolngoicaa.Same
