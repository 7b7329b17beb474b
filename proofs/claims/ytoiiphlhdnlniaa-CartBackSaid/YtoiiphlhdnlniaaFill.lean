/- A ROM that is filled up with bytes. -/
import Derived.Test.YtoiiphlhdnlniaaAx10
import Derived.Test.YtoiiphlhdnlniaaSums
set_option linter.unusedVariables false
set_option linter.unusedSimpArgs false
namespace Go.Proofs.Ytoiiphlhdnlniaa.Cart
open Go.RowKit Go.Proofs.Ytoiiphlhdnlniaa.All Go.Proofs.Ytoiiphlhdnlniaa.Given Go.Proofs.Ytoiiphlhdnlniaa.Sums Go.Proofs.YtoiiphlhdnlniaaW.PrintWords Go.Proofs.YtoiiphlhdnlniaaW.PrintLast

theorem bytes_set {l : List Int} (hl : Bytes l) (i : Nat) (v : Int) (hv : 0 ≤ v ∧ v ≤ 255) : Bytes (l.set i v) := fun x hx => (List.mem_or_eq_of_mem_set hx).elim (hl x) (fun e => e ▸ hv)
theorem bytes_zeros (n : Nat) : Bytes (List.replicate n 0) := fun x hx => by rw [(List.mem_replicate.1 hx).2]; decide
theorem fill_l0 (b : List Int) (hb : Bytes b) (hbl : b.length ≤ 100000) (n : Nat) (hn : n ≤ 2000000) (d : Nat) : ∀ (k i : Nat) (r : List Int), i + d = n → d + 1 ≤ k → r.length = n → Bytes r →
    ∃ r', keepsakeref10_Fill.l0 k b n r i = some r' ∧ r'.length = n ∧ Bytes r' := by
  induction d with
  | zero =>
    intro k i r hi hk hr hbr
    obtain ⟨k, rfl⟩ : ∃ m, k = m + 1 := ⟨k - 1, by omega⟩
    exact ⟨r, by rw [keepsakeref10_Fill.l0, if_neg (by omega)], hr, hbr⟩
  | succ d ih =>
    intro k i r hi hk hr hbr
    obtain ⟨k, rfl⟩ : ∃ m, k = m + 1 := ⟨k - 1, by omega⟩
    by_cases h0 : b.length = 0
    · exact ⟨r, by rw [keepsakeref10_Fill.l0, if_pos (by omega), if_neg (by omega)], hr, hbr⟩
    have hm := Nat.mod_lt i (show 0 < b.length by omega)
    have e : Int.tmod (i : Int) (b.length : Int) = ((i % b.length : Nat) : Int) := by rw [Int.tmod_eq_emod_of_nonneg (by omega)]; exact (Int.natCast_emod i b.length).symm
    obtain ⟨r', h1, h2⟩ := ih k (i + 1) (r.set i (rd b ((i % b.length : Nat) : Int))) (by omega) (by omega) (by rw [List.length_set]; exact hr) (bytes_set hbr _ _ (rd_byte hb _ hm))
    refine ⟨r', ?_, h2⟩
    rw [keepsakeref10_Fill.l0, if_pos (by omega), if_pos (by omega), if_neg (by omega), e, if_pos (by omega), if_pos (by omega), if_pos (by omega), if_pos (by omega), Int.toNat_natCast, w64 _ (by omega) (by omega), show ((i : Int) + 1) = ((i + 1 : Nat) : Int) by omega]
    exact h1
theorem fill_f (b : List Int) (hb : Bytes b) (hbl : b.length ≤ 100000) (n : Nat) (hn : n ≤ 2000000) (k : Nat) (hk : n + 1 ≤ k) : ∃ r, keepsakeref10_Fill.f k b n = some r ∧ r.length = n ∧ Bytes r := by
  obtain ⟨r, h1, h2⟩ := fill_l0 b hb hbl n hn n k 0 (List.replicate n 0) (by omega) hk List.length_replicate (bytes_zeros n)
  refine ⟨r, ?_, h2⟩
  unfold keepsakeref10_Fill.f
  rw [if_pos (by omega), Int.toNat_natCast, if_pos (by omega)]
  exact h1

end Go.Proofs.Ytoiiphlhdnlniaa.Cart
