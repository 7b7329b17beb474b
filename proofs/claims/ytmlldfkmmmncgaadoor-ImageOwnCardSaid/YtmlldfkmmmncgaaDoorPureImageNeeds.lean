/- More bytes need no fewer sectors: for every numbers. -/
import Derived.Test.YtmlldfkmmmncgaaDoorAx14
import Derived.Test.YtmlldfkmmmncgaaDoorImg
set_option linter.unusedVariables false
set_option linter.unusedSimpArgs false
namespace Go.Proofs.YtmlldfkmmmncgaaDoor.Pure
open Go.RowKit Go.Proofs.YtmlldfkmmmncgaaDoor.All Go.Proofs.YtmlldfkmmmncgaaDoor.Given Go.Proofs.YtmlldfkmmmncgaaDoorW.PrintWords Go.Proofs.YtmlldfkmmmncgaaDoorW.PrintLast

theorem u16_bd {a : Int} (h : (Lit.int .u16 a).wf = true) : 0 ≤ a ∧ a ≤ 65535 := by
  simp [Lit.wf, IntKind.min, IntKind.max, IntKind.signed, IntKind.bits] at h
  omega
theorem sect_f (n s : Nat) (hs : 1 ≤ s) (hs2 : s ≤ 4096) (hn : n ≤ 200000) : image_Sectors.f n s = some (many n s : Int) := by
  unfold image_Sectors.f image_right.f
  by_cases h : (n : Int) < 1
  · rw [if_pos h]
    have : n = 0 := by omega
    subst this
    rfl
  · rw [if_neg h, if_pos (by omega), Option.bind_some, decide_eq_true (by omega), if_pos rfl, if_neg (by omega)]
    congr 1
    have e1 : wrap64 ((n : Int) - 1) = ((n - 1 : Nat) : Int) := by unfold wrap64; omega
    have hq := Nat.div_le_self (n - 1) s
    have e2 : Int.tdiv ((n - 1 : Nat) : Int) (s : Int) = (((n - 1) / s : Nat) : Int) := by rw [Int.tdiv_eq_ediv_of_nonneg (by omega)]; rfl
    have hm : many n s = (n - 1) / s + 1 := by unfold many; rw [if_neg (by omega)]
    rw [e1, e2, hm]
    generalize (n - 1) / s = q at *
    have e3 : wrap64 (q : Int) = q := by unfold wrap64; omega
    rw [e3]
    unfold wrap64
    omega
theorem many_mono {a n s : Nat} (h : a ≤ n) : many a s ≤ many n s := by
  unfold many
  split
  · omega
  · rw [if_neg (by omega)]
    have := Nat.div_le_div_right (c := s) (show a - 1 ≤ n - 1 by omega)
    omega
theorem le_of_mul {x y s : Nat} (hs : 0 < s) (h : x * s < (y + 1) * s) : x ≤ y := by
  have := Nat.lt_of_mul_lt_mul_right h
  omega
theorem many_zero (n s : Nat) : many n s = 0 ↔ n = 0 := by
  unfold many
  by_cases h : n = 0
  · rw [if_pos h]; exact ⟨fun _ => h, fun _ => rfl⟩
  · rw [if_neg h]
    generalize (n - 1) / s = q
    omega
theorem needs_arith (x y z M a : Nat) (s' : Int) (h1 : x ≤ z) (h2 : y ≤ z) (h3 : z ≤ x + y) (h4 : x + y ≤ z + 1) (h5 : x = 0 ↔ a = 0) (h6 : a ≤ M) (b1 : x ≤ 200000) (b2 : y ≤ 200000) (b3 : M ≤ 200000) (hs : (x : Int) * s' = (M : Int)) :
    (if (z : Int) ≥ (x : Int) then (if (z : Int) ≥ (y : Int) then (if (z : Int) ≤ wrap64 ((x : Int) + (y : Int)) then (if (z : Int) ≥ wrap64 (wrap64 ((x : Int) + (y : Int)) - 1) then (if (((x : Int) == 0) == ((a : Int) == 0)) = true then some (decide (wrap64 ((x : Int) * s') ≥ (a : Int))) else none) else none) else none) else none) else none) = some true := by
  have e : (((x : Int) == 0) == ((a : Int) == 0)) = true := by
    by_cases h : a = 0
    · have : x = 0 := h5.2 h
      subst h this
      rfl
    · have : x ≠ 0 := fun hx => h (h5.1 hx)
      have e1 : ((x : Int) == 0) = false := beq_eq_false_iff_ne.2 (by omega)
      have e2 : ((a : Int) == 0) = false := beq_eq_false_iff_ne.2 (by omega)
      rw [e1, e2]
      rfl
  rw [hs, w64 ((x : Int) + (y : Int)) (by omega) (by omega), w64 ((x : Int) + (y : Int) - 1) (by omega) (by omega), w64 (M : Int) (by omega) (by omega), if_pos (by omega), if_pos (by omega), if_pos (by omega), if_pos (by omega), if_pos e, decide_eq_true (by omega)]
theorem size_of (a2 : Int) (h : 0 ≤ a2 ∧ a2 ≤ 65535) : ∃ s : Nat, wrap64 (1 + wrap64 (Int.tmod a2 1000)) = (s : Int) ∧ 1 ≤ s ∧ s ≤ 1000 := by
  have e : Int.tmod a2 1000 = a2 % 1000 := Int.tmod_eq_emod_of_nonneg h.1
  rw [e, w64 (a2 % 1000) (by omega) (by omega), w64 _ (by omega) (by omega)]
  exact ⟨(1 + a2 % 1000).toNat, by omega, by omega, by omega⟩
theorem needs_many (a b s : Nat) (hs1 : 1 ≤ s) (ha : a ≤ 65535) (hb : b ≤ 65535) : many a s ≤ many (a + b) s ∧ many b s ≤ many (a + b) s ∧ many (a + b) s ≤ many a s + many b s ∧ many a s + many b s ≤ many (a + b) s + 1 ∧ a ≤ many a s * s ∧ many a s ≤ 200000 ∧ many b s ≤ 200000 := by
  have m1 := many_full a s (by omega)
  have m2 := many_full b s (by omega)
  have m3 := many_full (a + b) s (by omega)
  have l1 := many_le a s (by omega)
  have l2 := many_le b s (by omega)
  refine ⟨many_mono (by omega), many_mono (by omega), le_of_mul (s := s) (by omega) ?_, le_of_mul (s := s) (by omega) ?_, m1.1, by omega, by omega⟩
  · rw [Nat.add_mul, Nat.add_mul, Nat.one_mul]; omega
  · rw [Nat.add_mul, Nat.add_mul, Nat.add_mul, Nat.one_mul]; omega
theorem ImageNeeds : keepsakelaw05_ImageNeeds.Pure := by
  intro a0 a1 a2 h0 h1 h2
  have b0 := u16_bd h0
  have b1 := u16_bd h1
  obtain ⟨s, hs, hs1, hs2⟩ := size_of a2 (u16_bd h2)
  refine ⟨3, ?_⟩
  obtain ⟨a, rfl⟩ := Int.eq_ofNat_of_zero_le b0.1
  obtain ⟨b, rfl⟩ := Int.eq_ofNat_of_zero_le b1.1
  clear h0 h1 h2
  obtain ⟨k1, k2, k3, k4, k5, k6, k7⟩ := needs_many a b s hs1 (by omega) (by omega)
  have m1 := (many_full a s (by omega)).2
  have e := needs_arith (many a s) (many b s) (many (a + b) s) (many a s * s) a (s : Int) k1 k2 k3 k4 (many_zero a s) k5 k6 k7 (by omega) (by rw [Int.natCast_mul])
  have e1 := sect_f a s hs1 (by omega) (by omega)
  have e2 := sect_f b s hs1 (by omega) (by omega)
  have e3 := sect_f (a + b) s hs1 (by omega) (by omega)
  have wa : wrap64 (a : Int) = a := w64 _ (by omega) (by omega)
  have wb : wrap64 (b : Int) = b := w64 _ (by omega) (by omega)
  have wc : wrap64 ((a : Int) + (b : Int)) = ((a + b : Nat) : Int) := by rw [w64 _ (by omega) (by omega)]; omega
  unfold keepsakelaw05_ImageNeeds.f
  rw [awake_f 3 (by omega), hs, wa, wb, wc, e1, e2, e3]
  exact e
end Go.Proofs.YtmlldfkmmmncgaaDoor.Pure
