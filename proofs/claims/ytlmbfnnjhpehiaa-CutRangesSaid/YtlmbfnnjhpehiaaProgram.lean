/- A place that is programmed: the program's function, and what AND does with bytes. -/
import Derived.Test.YtlmbfnnjhpehiaaAx4
import Derived.Test.YtlmbfnnjhpehiaaCut
set_option linter.unusedVariables false
set_option linter.unusedSimpArgs false
namespace Go.Proofs.Ytlmbfnnjhpehiaa.Cut
open Go.RowKit Go.Proofs.Ytlmbfnnjhpehiaa.All Go.Proofs.Ytlmbfnnjhpehiaa.Given Go.Proofs.YtlmbfnnjhpehiaaW.PrintWords Go.Proofs.YtlmbfnnjhpehiaaW.PrintLast Go.Proofs.YtlmbfnnjhpehiaaW.PrintMore

theorem and_nat (x y : Nat) (hx : x ≤ 255) (hy : y ≤ 255) : Go.bits .and .u8 (x : Int) (y : Int) = ((x &&& y : Nat) : Int) := by
  show IntKind.u8.wrap _ = _
  rw [IntKind.wrap_u8]
  show (((BitVec.ofInt 8 (x : Int) &&& BitVec.ofInt 8 (y : Int)).toNat : Int)) % 256 = _
  rw [BitVec.toNat_and, BitVec.toNat_ofInt, BitVec.toNat_ofInt]
  have h1 : ((x : Int) % ((2 ^ 8 : Nat) : Int)).toNat = x := by omega
  have h2 : ((y : Int) % ((2 ^ 8 : Nat) : Int)).toNat = y := by omega
  rw [h1, h2]
  have : x &&& y ≤ x := Nat.and_le_left
  omega
theorem byte_nat {x : Int} (h0 : 0 ≤ x) (h1 : x ≤ 255) : ∃ n : Nat, x = n ∧ n ≤ 255 := ⟨x.toNat, by omega, by omega⟩
theorem and_byte {x y : Int} (hx : 0 ≤ x ∧ x ≤ 255) (hy : 0 ≤ y ∧ y ≤ 255) : 0 ≤ Go.bits .and .u8 x y ∧ Go.bits .and .u8 x y ≤ 255 := by
  obtain ⟨a, rfl, ha⟩ := byte_nat hx.1 hx.2
  obtain ⟨b, rfl, hb⟩ := byte_nat hy.1 hy.2
  rw [and_nat a b ha hb]
  have : a &&& b ≤ a := Nat.and_le_left
  omega
theorem and_self {x : Int} (hx : 0 ≤ x ∧ x ≤ 255) : Go.bits .and .u8 x x = x := by
  obtain ⟨a, rfl, ha⟩ := byte_nat hx.1 hx.2
  rw [and_nat a a ha ha, Nat.and_self]
theorem and_left {x y : Int} (hx : 0 ≤ x ∧ x ≤ 255) (hy : 0 ≤ y ∧ y ≤ 255) : Go.bits .and .u8 (Go.bits .and .u8 x y) x = Go.bits .and .u8 x y := by
  obtain ⟨a, rfl, ha⟩ := byte_nat hx.1 hx.2
  obtain ⟨b, rfl, hb⟩ := byte_nat hy.1 hy.2
  have : a &&& b ≤ a := Nat.and_le_left
  rw [and_nat a b ha hb, and_nat _ a (by omega) ha]
  congr 1
  rw [Nat.and_assoc, Nat.and_comm b a, ← Nat.and_assoc, Nat.and_self]
theorem and_right {x y : Int} (hx : 0 ≤ x ∧ x ≤ 255) (hy : 0 ≤ y ∧ y ≤ 255) : Go.bits .and .u8 (Go.bits .and .u8 x y) y = Go.bits .and .u8 x y := by
  obtain ⟨a, rfl, ha⟩ := byte_nat hx.1 hx.2
  obtain ⟨b, rfl, hb⟩ := byte_nat hy.1 hy.2
  have : a &&& b ≤ a := Nat.and_le_left
  rw [and_nat a b ha hb, and_nat _ b (by omega) hb]
  congr 1
  rw [Nat.and_assoc, Nat.and_self]
theorem and_full {x : Int} (hx : 0 ≤ x ∧ x ≤ 255) : Go.bits .and .u8 x 255 = x := by
  obtain ⟨a, rfl, ha⟩ := byte_nat hx.1 hx.2
  have h := and_nat a 255 ha (by omega)
  rw [show ((255 : Nat) : Int) = 255 from rfl] at h
  rw [h]
  congr 1
  have := Nat.and_two_pow_sub_one_eq_mod a 8
  rw [show 2 ^ 8 - 1 = 255 from rfl] at this
  rw [this]
  omega
/-- One place loses bits. -/
def prog (o : List Int) (a x : Int) : List Int := if 0 ≤ a ∧ a < o.length then o.set a.toNat (Go.bits .and .u8 (rd o a) x) else o
theorem prog_len (o : List Int) (a x : Int) : (prog o a x).length = o.length := by unfold prog; split <;> simp
theorem prog_at (o : List Int) (a x : Int) (i : Nat) (hi : i < o.length) : rd (prog o a x) i = if (i : Int) = a then Go.bits .and .u8 (rd o i) x else rd o i := by
  by_cases h : 0 ≤ a ∧ a < o.length
  · have e0 : prog o a x = o.set a.toNat (Go.bits .and .u8 (rd o a) x) := by unfold prog; rw [if_pos h]
    rw [e0, rd_nat _ i (by rw [List.length_set]; exact hi), List.getElem_set]
    by_cases e : (i : Int) = a
    · rw [if_pos (by omega), if_pos e, e]
    · rw [if_neg (by omega), if_neg e, rd_nat o i hi]
  · have e0 : prog o a x = o := by unfold prog; rw [if_neg h]
    rw [e0, if_neg (by omega)]
theorem prog_bytes {o : List Int} (h : Bytes o) (a x : Int) (hx : 0 ≤ x ∧ x ≤ 255) : Bytes (prog o a x) := by
  intro y hy
  obtain ⟨i, hi, rfl⟩ := List.getElem_of_mem hy
  rw [prog_len] at hi
  rw [← rd_nat (prog o a x) i (by rw [prog_len]; exact hi), prog_at o a x i hi]
  split
  · exact and_byte (rd_byte h i hi) hx
  · exact rd_byte h i hi
theorem prog_f (o : List Int) (a x : Int) (ho : o.length ≤ 100000) (k : Nat) : cut_Program.f (k + 1) o a x = some (prog o a x) := by
  unfold cut_Program.f
  have hc : slices_Clone_byte_byte.f o = some o := by unfold slices_Clone_byte_byte.f; rw [if_pos (by omega)]
  by_cases h : 0 ≤ a ∧ a < o.length
  · have e0 : prog o a x = o.set a.toNat (Go.bits .and .u8 (rd o a) x) := by unfold prog; rw [if_pos h]
    rw [if_neg (by omega), decide_eq_false (by omega), cut_Program.j0, if_neg (by decide), if_pos (by omega), if_pos (by omega), Cells_f o _ _ ho (by simp), Option.bind_some, e0]
    have : cells o [a] [Go.bits .and .u8 (rd o a) x] = put o (a, Go.bits .and .u8 (rd o a) x) := rfl
    rw [this, put, if_pos h]
  · have e0 : prog o a x = o := by unfold prog; rw [if_neg h]
    have yes : cut_Program.j0 (k + 1) o a x true = some o := by rw [cut_Program.j0, if_pos rfl, hc, Option.bind_some]
    rw [e0]
    by_cases h1 : a < 0
    · rw [if_pos h1, yes]
    · rw [if_neg h1, decide_eq_true (by omega), yes]

end Go.Proofs.Ytlmbfnnjhpehiaa.Cut
