/- The document's rows: what a row is left with, a place that is programmed: plain. -/
import Derived.Test.YtpkgpcolngoicaaAx2
import Derived.Test.YtpkgpcolngoicaaFInv
set_option linter.unusedVariables false
set_option linter.unusedSimpArgs false
namespace Go.Proofs.Ytpkgpcolngoicaa.Cut
open Go.RowKit Go.Proofs.Ytpkgpcolngoicaa.All Go.Proofs.Ytpkgpcolngoicaa.Given Go.Proofs.YtpkgpcolngoicaaW.PrintWords Go.Proofs.YtpkgpcolngoicaaW.PrintLast Go.Proofs.YtpkgpcolngoicaaW.PrintMore

/-- By definition, place by place. -/
def left (o : List Int) (l : List (Int × Int)) : List Int := (List.range o.length).map fun i : Nat => look i (rd o i) l
theorem left_len (o : List Int) (l : List (Int × Int)) : (left o l).length = o.length := by simp [left]
theorem left_at (o : List Int) (l : List (Int × Int)) (i : Nat) (hi : i < o.length) : rd (left o l) i = look i (rd o i) l := by
  rw [rd_nat _ i (by rw [left_len]; exact hi)]
  simp [left]
theorem cells_left (o at_ pick : List Int) : cells o at_ pick = left o (at_.zip pick) :=
  list_eq (by rw [cells_len, left_len]) (fun i hi => by rw [cells_len] at hi; rw [cells_at o at_ pick i hi, left_at o _ i hi])
theorem drop_zip (a b : List Int) (k : Nat) : (a.zip b).drop k = (a.drop k).zip (b.drop k) := by
  induction k generalizing a b with
  | zero => rfl
  | succ k ih =>
    cases a with
    | nil => simp
    | cons x a => cases b with
      | nil => simp
      | cons y b => simpa using ih a b
theorem rd_drop (l : List Int) (k : Nat) (h : k < l.length) : l.drop k = rd l k :: l.drop (k + 1) := by
  rw [List.drop_eq_getElem_cons h, rd_nat l k h]
theorem row_zip (a m : Int) (pick : List Int) (j : Nat) (hj : (j : Int) < m) (hp : j < pick.length) (h : j < 100000) : ((Given.rowAt a m.toNat).zip pick).drop j = (wrap64 (a + j), rd pick j) :: ((Given.rowAt a m.toNat).zip pick).drop (j + 1) := by
  have hl : (Given.rowAt a m.toNat).length = m.toNat := Given.upto_length _ _
  have hr : rd (Given.rowAt a m.toNat) j = wrap64 (a + j) := by
    rw [Cut.rd_nat _ j (by omega)]
    simp [Given.rowAt, Given.upto]
  rw [drop_zip, drop_zip, rd_drop _ j (by omega), rd_drop pick j hp, hr]
  rfl
theorem rr_l1 (o : List Int) (a m : Int) (pick : List Int) (hp : pick.length ≤ 1100) (out : List Int) (i : Nat) (hi : i ≤ 1100) (hout : out.length ≤ 1100) (d : Nat) : ∀ (k j : Nat) (x : Int), j + d = min m.toNat pick.length →
    keepsakeref08_Range.l1 (k + 2 * d + 2) o a m pick out i x j = keepsakeref08_Range.l0 k o a m pick (out ++ [Cut.look i x (((Given.rowAt a m.toNat).zip pick).drop j)]) ((i + 1 : Nat) : Int) := by
  have hl : (Given.rowAt a m.toNat).length = m.toNat := Given.upto_length _ _
  induction d with
  | zero =>
    intro k j x hj
    have hz : ((Given.rowAt a m.toNat).zip pick).drop j = [] := List.drop_of_length_le (by rw [List.length_zip, hl]; omega)
    rw [hz, look_nil, show k + 2 * 0 + 2 = k + 1 + 1 by omega, keepsakeref08_Range.l1]
    have hb : (if (j : Int) < m then keepsakeref08_Range.j2 (k + 1) o a m pick out i x j (decide ((j : Int) < (pick.length : Int))) else keepsakeref08_Range.j2 (k + 1) o a m pick out i x j false) = keepsakeref08_Range.j2 (k + 1) o a m pick out i x j false := by
      by_cases h : (j : Int) < m
      · rw [if_pos h, decide_eq_false (by omega)]
      · rw [if_neg h]
    rw [hb, keepsakeref08_Range.j2, if_neg (by decide), if_pos (by omega), Cut.w64 _ (by omega) (by omega)]
    rfl
  | succ d ih =>
    intro k j x hj
    rw [row_zip a m pick j (by omega) (by omega) (by omega), look_cons, show k + 2 * (d + 1) + 2 = (k + 2 * d + 2) + 1 + 1 by omega, keepsakeref08_Range.l1, if_pos (by omega), decide_eq_true (by omega), keepsakeref08_Range.j2, if_pos rfl,
      show wrap64 ((j : Int) + 1) = ((j + 1 : Nat) : Int) by rw [Cut.w64 _ (by omega) (by omega)]; omega]
    by_cases e : wrap64 (a + (j : Int)) = i
    · rw [if_pos e, if_pos e, if_pos (by omega), if_pos (by omega), ih k (j + 1) _ (by omega)]
    · rw [if_neg e, if_neg e, ih k (j + 1) _ (by omega)]
theorem rr_l0 (o : List Int) (a m : Int) (pick : List Int) (ho : o.length ≤ 1100) (hp : pick.length ≤ 1100) (d : Nat) : ∀ (k i : Nat) (out : List Int), i + d = o.length → out.length ≤ i →
    keepsakeref08_Range.l0 (k + d * (2 * min m.toNat pick.length + 3) + 1) o a m pick out i = some (out ++ (List.range' i d).map fun i : Nat => Cut.look i (rd o i) ((Given.rowAt a m.toNat).zip pick)) := by
  induction d with
  | zero =>
    intro k i out hi hout
    rw [keepsakeref08_Range.l0, if_neg (by omega)]
    simp
  | succ d ih =>
    intro k i out hi hout
    have hk : k + (d + 1) * (2 * min m.toNat pick.length + 3) + 1 = ((k + d * (2 * min m.toNat pick.length + 3) + 1) + 2 * min m.toNat pick.length + 2) + 1 := by rw [Nat.add_mul, Nat.one_mul]; omega
    rw [hk, keepsakeref08_Range.l0, if_pos (by omega), if_pos (by omega), show (0 : Int) = ((0 : Nat) : Int) from rfl, rr_l1 o a m pick hp out i (by omega) (by omega) _ _ 0 _ (by omega), ih _ (i + 1) _ (by omega) (by simp; omega)]
    simp [List.range'_succ]
theorem rr_f (o : List Int) (a m : Int) (pick : List Int) (ho : o.length ≤ 1100) (hp : pick.length ≤ 1100) (k : Nat) (hk : 5000000 ≤ k) : keepsakeref08_Range.f k o a m pick = some (cells o (Given.rowAt a m.toNat) pick) := by
  have hb : o.length * (2 * min m.toNat pick.length + 3) ≤ 1100 * 2203 := Nat.mul_le_mul ho (by omega)
  obtain ⟨k0, rfl⟩ : ∃ k0, k = k0 + o.length * (2 * min m.toNat pick.length + 3) + 1 := ⟨k - (o.length * (2 * min m.toNat pick.length + 3) + 1), by omega⟩
  unfold keepsakeref08_Range.f
  have h := rr_l0 o a m pick ho hp o.length k0 0 [] (by omega) (Nat.le_refl _)
  rw [show ((0 : Nat) : Int) = 0 from rfl] at h
  rw [h, cells_left, List.nil_append, left, List.range_eq_range']
/-! ### AND, bit by bit -/
theorem pow_le8 (j : Nat) (h : j < 8) : 2 ^ j ≤ 128 := by
  have : (2 : Nat) ^ j ≤ 2 ^ 7 := Nat.pow_le_pow_right (by omega) (by omega)
  omega
theorem bit_test (x j : Nat) (hx : x ≤ 255) (hj : j < 8) : (Int.tmod (wrap64 (Int.tdiv (wrap64 (x : Int)) ((2 ^ j : Nat) : Int))) 2 = 1) ↔ x / 2 ^ j % 2 = 1 := by
  have h1 : x / 2 ^ j ≤ x := Nat.div_le_self _ _
  have e : Int.tdiv (x : Int) ((2 ^ j : Nat) : Int) = ((x / 2 ^ j : Nat) : Int) := by rw [Int.tdiv_eq_ediv_of_nonneg (by omega), Int.natCast_ediv]
  rw [Cut.w64 (x : Int) (by omega) (by omega), e]
  clear e
  generalize x / 2 ^ j = q at h1 ⊢
  rw [Cut.w64 (q : Int) (by omega) (by omega), Int.tmod_eq_emod_of_nonneg (by omega)]
  omega
theorem sum8 (M P : Nat) (h : M + P ≤ 255) : ((M : Int) + (P : Int) % 256) % 256 = ((M + P : Nat) : Int) := by omega
theorem dbl8 (P : Nat) (h : P ≤ 128) : wrap64 (2 * (P : Int)) = ((P * 2 : Nat) : Int) := by rw [Cut.w64 _ (by omega) (by omega)]; omega
theorem bit_and (x y j : Nat) : ((x &&& y) / 2 ^ j % 2 = 1) ↔ (x / 2 ^ j % 2 = 1 ∧ y / 2 ^ j % 2 = 1) := by
  have h := Nat.testBit_and x y j
  rw [Nat.testBit_eq_decide_div_mod_eq, Nat.testBit_eq_decide_div_mod_eq, Nat.testBit_eq_decide_div_mod_eq, Bool.eq_iff_iff] at h
  simpa using h
theorem both_l0 (x y : Nat) (hx : x ≤ 255) (hy : y ≤ 255) (d : Nat) : ∀ (k j : Nat), j + d = 8 →
    keepsakeref08_both.l0 (k + d + 1) x y (((x &&& y) % 2 ^ j : Nat) : Int) ((2 ^ j : Nat) : Int) j = some ((x &&& y : Nat) : Int) := by
  have ha : x &&& y ≤ x := Nat.and_le_left
  induction d with
  | zero =>
    intro k j hj
    obtain rfl : j = 8 := by omega
    rw [keepsakeref08_both.l0, if_neg (by decide), Nat.mod_eq_of_lt (by omega)]
  | succ d ih =>
    intro k j hj
    have hj8 : (j : Int) < 8 := by omega
    have hj9 : j < 8 := by omega
    have hj1 : j + 1 + d = 8 := by omega
    have e3 : wrap64 ((j : Int) + 1) = ((j + 1 : Nat) : Int) := by rw [Cut.w64 _ (by omega) (by omega)]; omega
    have ek : k + (d + 1) + 1 = (k + d + 1) + 1 := by omega
    have hp := pow_le8 j hj9
    have hp0 := Nat.two_pow_pos j
    have hm := Nat.mod_pow_succ (x := x &&& y) (b := 2) (k := j)
    have hlt : (x &&& y) % 2 ^ j < 2 ^ j := Nat.mod_lt _ hp0
    have hbit := bit_and x y j
    have e2 : wrap64 (2 * ((2 ^ j : Nat) : Int)) = ((2 ^ (j + 1) : Nat) : Int) := by rw [Nat.pow_succ]; exact dbl8 _ hp
    have h01 : (x &&& y) / 2 ^ j % 2 = 0 ∨ (x &&& y) / 2 ^ j % 2 = 1 := Nat.mod_two_eq_zero_or_one _
    rw [ek, keepsakeref08_both.l0, if_pos hj8, if_neg (by exact Int.natCast_ne_zero.2 (Nat.ne_of_gt hp0)), e2, e3]
    clear e2 e3 hlt
    by_cases h1 : x / 2 ^ j % 2 = 1
    · rw [if_pos ((bit_test x j hx hj9).2 h1)]
      by_cases h2 : y / 2 ^ j % 2 = 1
      · rw [if_pos ((bit_test y j hy hj9).2 h2)]
        rw [hbit.2 ⟨h1, h2⟩, Nat.mul_one] at hm
        have hle := Nat.mod_le (x &&& y) (2 ^ (j + 1))
        rw [hm] at hle
        rw [sum8 _ _ (Nat.le_trans hle (Nat.le_trans ha hx)), ← hm]
        exact ih k (j + 1) hj1
      · rw [if_neg (fun h => h2 ((bit_test y j hy hj9).1 h))]
        rw [h01.resolve_right (fun h => h2 (hbit.1 h).2), Nat.mul_zero] at hm
        rw [← hm.trans (Nat.add_zero _)]
        exact ih k (j + 1) hj1
    · rw [if_neg (fun h => h1 ((bit_test x j hx hj9).1 h))]
      rw [h01.resolve_right (fun h => h1 (hbit.1 h).1), Nat.mul_zero] at hm
      rw [← hm.trans (Nat.add_zero _)]
      exact ih k (j + 1) hj1
theorem both_f (x y : Int) (hx : 0 ≤ x ∧ x ≤ 255) (hy : 0 ≤ y ∧ y ≤ 255) (k : Nat) (hk : 9 ≤ k) : keepsakeref08_both.f k x y = some (Go.bits .and .u8 x y) := by
  obtain ⟨k, rfl⟩ : ∃ m, k = m + 8 + 1 := ⟨k - 9, by omega⟩
  obtain ⟨a, rfl, ha⟩ := byte_nat hx.1 hx.2
  obtain ⟨b, rfl, hb⟩ := byte_nat hy.1 hy.2
  rw [and_nat a b ha hb]
  have h := both_l0 a b ha hb 8 k 0 rfl
  rw [Nat.pow_zero, Nat.mod_one] at h
  exact h
theorem rp_l0 (o : List Int) (hb : Bytes o) (a x : Int) (hx : 0 ≤ x ∧ x ≤ 255) (ho : o.length ≤ 1100) (d : Nat) : ∀ (k i : Nat) (out : List Int), i + d = o.length → out.length ≤ i → 100 + d + 1 ≤ k →
    keepsakeref08_Program.l0 k o a x out i = some (out ++ (List.range' i d).map fun i : Nat => if (i : Int) = a then Go.bits .and .u8 (rd o i) x else rd o i) := by
  induction d with
  | zero =>
    intro k i out hi hout hk
    obtain ⟨k, rfl⟩ : ∃ m, k = m + 1 := ⟨k - 1, by omega⟩
    rw [keepsakeref08_Program.l0, if_neg (by omega)]
    simp
  | succ d ih =>
    intro k i out hi hout hk
    obtain ⟨k, rfl⟩ : ∃ m, k = m + 1 := ⟨k - 1, by omega⟩
    have hi' : i < o.length := by omega
    rw [keepsakeref08_Program.l0, if_pos (by omega), if_pos (by omega), show wrap64 ((i : Int) + 1) = ((i + 1 : Nat) : Int) by rw [Cut.w64 _ (by omega) (by omega)]; omega]
    by_cases e : (i : Int) = a
    · rw [if_pos e, both_f _ x (Cut.rd_byte hb i hi') hx k (by omega), Option.bind_some, if_pos (by omega), ih k (i + 1) _ (by omega) (by simp; omega) (by omega)]
      simp [List.range'_succ, e]
    · rw [if_neg e, if_pos (by omega), ih k (i + 1) _ (by omega) (by simp; omega) (by omega)]
      simp [List.range'_succ, e]
theorem rp_f (o : List Int) (hb : Bytes o) (a x : Int) (hx : 0 ≤ x ∧ x ≤ 255) (ho : o.length ≤ 1100) (k : Nat) (hk : 2000 ≤ k) : keepsakeref08_Program.f k o a x = some (prog o a x) := by
  unfold keepsakeref08_Program.f
  have h := rp_l0 o hb a x hx ho o.length k 0 [] (by omega) (Nat.le_refl _) (by omega)
  rw [show ((0 : Nat) : Int) = 0 from rfl] at h
  rw [h, List.nil_append]
  congr 1
  refine list_eq (by simp [prog_len]) (fun i hi => ?_)
  have hi : i < o.length := by simpa using hi
  rw [prog_at o a x i hi, Cut.rd_nat _ i (by simpa using hi)]
  simp
end Go.Proofs.Ytpkgpcolngoicaa.Cut
