/- Numbers as bytes, the lowest first, and back. -/
import Derived.Test.YtoiiphlhdnlniaaAx6
import Derived.Test.YtoiiphlhdnlniaaAx3
import Derived.Test.YtoiiphlhdnlniaaSums
set_option linter.unusedVariables false
set_option linter.unusedSimpArgs false
namespace Go.Proofs.Ytoiiphlhdnlniaa.Lay
open Go.RowKit Go.Proofs.Ytoiiphlhdnlniaa.All Go.Proofs.Ytoiiphlhdnlniaa.Given Go.Proofs.Ytoiiphlhdnlniaa.Sums Go.Proofs.Ytoiiphlhdnlniaa.Math Go.Proofs.YtoiiphlhdnlniaaW.PrintWords Go.Proofs.YtoiiphlhdnlniaaW.PrintLast

def le : Nat → Int → List Int
  | 0, _ => []
  | m + 1, x => (x % 256) :: le m (x / 256)
theorem le_len (m : Nat) : ∀ x, (le m x).length = m := by
  induction m with
  | zero => intro x; rfl
  | succ m ih => intro x; simp [le, ih]
theorem le_bytes (m : Nat) : ∀ x, Bytes (le m x) := by
  induction m with
  | zero => intro x y hy; cases hy
  | succ m ih =>
    intro x y hy
    rcases List.mem_cons.1 hy with rfl | h
    · omega
    · exact ih _ y h
theorem bytes_l0 (d : Nat) : ∀ (k i m : Nat) (b : List Int) (n : Int), m = i + d → d + 1 ≤ k → b.length + d < 140737488355328 → m ≤ 100 → 0 ≤ n → n < 18446744073709551616 →
    keepsakeref04_Bytes.l0 k n m b i = some (b ++ le d n) := by
  induction d with
  | zero =>
    intro k i m b n hm hk hb hm' h0 h1
    obtain ⟨k, rfl⟩ : ∃ j, k = j + 1 := ⟨k - 1, by omega⟩
    rw [keepsakeref04_Bytes.l0, if_neg (by omega)]
    simp [le]
  | succ d ih =>
    intro k i m b n hm hk hb hm' h0 h1
    obtain ⟨k, rfl⟩ : ∃ j, k = j + 1 := ⟨k - 1, by omega⟩
    rw [keepsakeref04_Bytes.l0, if_pos (by omega), if_pos (by omega), w64 _ (by omega) (by omega), show (i : Int) + 1 = ((i + 1 : Nat) : Int) by omega, Int.tdiv_eq_ediv_of_nonneg h0, Int.tmod_eq_emod_of_nonneg h0,
      show IntKind.u64.wrap (n / 256) = n / 256 by rw [IntKind.wrap_u64]; omega, show n % 256 % 256 = n % 256 by omega, ih k (i + 1) m _ _ (by omega) (by omega) (by simp; omega) hm' (by omega) (by omega)]
    simp [le]
theorem bytes_f (k m : Nat) (n : Int) (hk : m + 1 ≤ k) (hm : m ≤ 100) (h0 : 0 ≤ n) (h1 : n < 18446744073709551616) : keepsakeref04_Bytes.f k n m = some (le m n) :=
  bytes_l0 m k 0 m [] n (by omega) hk (by simp; omega) hm h0 h1

/-! ### back -/
def num : List Int → Int
  | [] => 0
  | x :: l => x + 256 * num l
theorem num_bd (l : List Int) (hb : Bytes l) : 0 ≤ num l ∧ num l < ((256 ^ l.length : Nat) : Int) := by
  induction l with
  | nil => decide
  | cons x l ih =>
    obtain ⟨h0, h1⟩ := ih (fun y hy => hb y (List.mem_cons_of_mem _ hy))
    have hx := hb x (List.mem_cons_self ..)
    have e : ((256 ^ (x :: l).length : Nat) : Int) = 256 * ((256 ^ l.length : Nat) : Int) := by
      rw [List.length_cons, Nat.pow_succ, Nat.mul_comm]; exact Int.natCast_mul 256 _
    rw [e]
    generalize ((256 ^ l.length : Nat) : Int) = p at *
    unfold num
    omega
theorem num_le (m : Nat) : ∀ x, 0 ≤ x → x < ((256 ^ m : Nat) : Int) → num (le m x) = x := by
  induction m with
  | zero => intro x h0 h1; have : x < 1 := by simpa using h1
            show (0 : Int) = x; omega
  | succ m ih =>
    intro x h0 h1
    have e : ((256 ^ (m + 1) : Nat) : Int) = 256 * ((256 ^ m : Nat) : Int) := by
      rw [Nat.pow_succ, Nat.mul_comm]; exact Int.natCast_mul 256 _
    rw [e] at h1
    unfold le num
    have h2 : x / 256 < ((256 ^ m : Nat) : Int) := by
      generalize ((256 ^ m : Nat) : Int) = p at *
      omega
    rw [ih (x / 256) (by omega) h2]
    omega
theorem le_num (l : List Int) (hb : Bytes l) : le l.length (num l) = l := by
  induction l with
  | nil => rfl
  | cons x l ih =>
    have hx := hb x (List.mem_cons_self ..)
    have ih := ih (fun y hy => hb y (List.mem_cons_of_mem _ hy))
    rw [List.length_cons]
    unfold le num
    rw [show (x + 256 * num l) % 256 = x by omega, show (x + 256 * num l) / 256 = num l by omega, ih]
theorem pow_mono256 (a b : Nat) (h : a ≤ b) : ((256 ^ a : Nat) : Int) ≤ ((256 ^ b : Nat) : Int) := Int.ofNat_le.2 (Nat.pow_le_pow_right (by decide) h)
theorem num_drop_bd (l : List Int) (hb : Bytes l) (i m : Nat) (h : l.length - i ≤ m) : 0 ≤ num (l.drop i) ∧ num (l.drop i) < ((256 ^ m : Nat) : Int) := by
  obtain ⟨h0, h1⟩ := num_bd (l.drop i) (fun y hy => hb y (List.mem_of_mem_drop hy))
  refine ⟨h0, Int.lt_of_lt_of_le h1 (pow_mono256 _ _ ?_)⟩
  rw [List.length_drop]; exact h
theorem number_l0 (l : List Int) (hb : Bytes l) (hl : l.length ≤ 8) (d : Nat) : ∀ k, d ≤ l.length → d + 1 ≤ k → keepsakeref04_Number.l0 k l (num (l.drop d)) ((d : Int) - 1) = some (num l) := by
  induction d with
  | zero =>
    intro k hd hk
    obtain ⟨k, rfl⟩ : ∃ j, k = j + 1 := ⟨k - 1, by omega⟩
    rw [keepsakeref04_Number.l0, if_neg (by omega)]
    rfl
  | succ d ih =>
    intro k hd hk
    obtain ⟨k, rfl⟩ : ∃ j, k = j + 1 := ⟨k - 1, by omega⟩
    obtain ⟨x0, x1⟩ := rd_byte hb d (by omega)
    obtain ⟨n0, n1⟩ := num_drop_bd l hb (d + 1) 7 (by omega)
    have n1 : num (l.drop (d + 1)) < 72057594037927936 := n1
    rw [keepsakeref04_Number.l0, show ((d + 1 : Nat) : Int) - 1 = (d : Int) by omega, if_pos (by omega), if_pos (by omega), if_pos (by omega), w64 _ (by omega) (by omega),
      show IntKind.u64.wrap (IntKind.u64.wrap (256 * num (l.drop (d + 1))) + IntKind.u64.wrap (rd l (d : Int))) = num (l.drop d) by
        rw [IntKind.wrap_u64, IntKind.wrap_u64, IntKind.wrap_u64, rd_drop l d (by omega)]
        show _ = rd l (d : Int) + 256 * num (l.drop (d + 1))
        omega, ih k (by omega) (by omega)]
theorem number (l : List Int) (hb : Bytes l) (hl : l.length ≤ 8) (k : Nat) (hk : 9 ≤ k) : keepsakeref04_Number.f k l = some (num l) := by
  have := number_l0 l hb hl l.length k (Nat.le_refl _) (by omega)
  rw [List.drop_length] at this
  unfold keepsakeref04_Number.f
  rw [w64 _ (by omega) (by omega)]
  exact this

end Go.Proofs.Ytoiiphlhdnlniaa.Lay
