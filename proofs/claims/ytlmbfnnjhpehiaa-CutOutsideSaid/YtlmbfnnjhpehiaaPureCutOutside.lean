/- No other places are apart from what was there. -/
import Derived.Test.YtlmbfnnjhpehiaaAx7
import Derived.Test.YtlmbfnnjhpehiaaAwake
set_option linter.unusedVariables false
set_option linter.unusedSimpArgs false
namespace Go.Proofs.Ytlmbfnnjhpehiaa.Pure
open Go.RowKit Go.Proofs.Ytlmbfnnjhpehiaa.All Go.Proofs.Ytlmbfnnjhpehiaa.Given Go.Proofs.Ytlmbfnnjhpehiaa.Cut Go.Proofs.YtlmbfnnjhpehiaaW.PrintWords Go.Proofs.YtlmbfnnjhpehiaaW.PrintLast Go.Proofs.YtlmbfnnjhpehiaaW.PrintMore

theorem mem_apart {a b : List Int} {x : Int} (h : x ∈ apart a b) : ∃ i : Nat, x = i ∧ i < max a.length b.length ∧ eqAt a b i = false := by
  unfold apart at h
  obtain ⟨i, hi, rfl⟩ := List.mem_map.1 h
  obtain ⟨h1, h2⟩ := List.mem_filter.1 hi
  exact ⟨i, rfl, List.mem_range.1 h1, by simpa using h2⟩
/-- What is apart from the old lies among the places. -/
theorem apart_cells {o at_ pick : List Int} {x : Int} (h : x ∈ apart o (cells o at_ pick)) : x ∈ at_ := by
  obtain ⟨i, rfl, hi, he⟩ := mem_apart h
  rw [cells_len, Nat.max_self] at hi
  by_cases hm : (i : Int) ∈ at_
  · exact hm
  · exfalso
    have : eqAt o (cells o at_ pick) i = true := by
      unfold eqAt
      rw [decide_eq_true]
      exact ⟨hi, by rw [cells_len]; exact hi, (by rw [cells_at _ _ _ i hi, look_out (i : Int) _ _ (fun q hq (e : q.1 = (i : Int)) => hm (by rw [← e]; exact mem_zip_fst hq))])⟩
    rw [this] at he
    cases he
theorem in_l0 (l : List Int) (x : Int) (hl : l.length ≤ 1000) (d : Nat) : ∀ (k i : Nat), i + d = l.length → d + 1 ≤ k → x ∈ l.drop i → keepsakelaw08_in.l0 k l x i = some true := by
  induction d with
  | zero =>
    intro k i hi hk hx
    rw [List.drop_of_length_le (by omega)] at hx
    cases hx
  | succ d ih =>
    intro k i hi hk hx
    obtain ⟨k, rfl⟩ : ∃ m, k = m + 1 := ⟨k - 1, by omega⟩
    rw [keepsakelaw08_in.l0, if_pos (by omega), if_pos (by omega), show wrap64 ((i : Int) + 1) = ((i + 1 : Nat) : Int) by rw [Cut.w64 _ (by omega) (by omega)]; omega]
    rw [rd_drop l i (by omega)] at hx
    by_cases e : rd l i = x
    · rw [if_pos e]
    · rw [if_neg e]
      exact ih k (i + 1) (by omega) (by omega) ((List.mem_cons.1 hx).resolve_left (fun h => e h.symm))
theorem in_f (l : List Int) (x : Int) (hl : l.length ≤ 1000) (k : Nat) (hk : l.length + 1 ≤ k) (hx : x ∈ l) : keepsakelaw08_in.f k l x = some true := by
  unfold keepsakelaw08_in.f
  exact in_l0 l x hl l.length k 0 (by omega) hk hx
theorem mem_row {a : Int} {n : Nat} {x : Int} (h : x ∈ Given.rowAt a n) : ∃ k : Nat, k < n ∧ x = wrap64 (a + k) := by
  unfold Given.rowAt Given.upto at h
  obtain ⟨k, hk, rfl⟩ := List.mem_map.1 h
  exact ⟨k, List.mem_range.1 hk, rfl⟩
theorem rd_mem (l : List Int) (i : Nat) (hi : i < l.length) : rd l i ∈ l := by rw [Cut.rd_nat l i hi]; exact List.getElem_mem hi
theorem l1_end (o at_ : List Int) (a m : Int) (c : List Int) (ho : o.length ≤ 200) (hat : at_.length ≤ 200) (a0 : 0 ≤ a) (a1 : a ≤ 255) (m0 : 0 ≤ m) (m1 : m ≤ 255) (hc : c.length ≤ 1000) (hin : ∀ x ∈ c, a ≤ x ∧ x < a + m) (d : Nat) :
    ∀ (k i : Nat), i + d = c.length → 1000 + d + 1 ≤ k → keepsakelaw08_CutOutside.l1 k o at_ a m true c i = some true := by
  induction d with
  | zero =>
    intro k i hi hk
    obtain ⟨k, rfl⟩ : ∃ m, k = m + 1 := ⟨k - 1, by omega⟩
    rw [keepsakelaw08_CutOutside.l1, if_neg (by omega), if_pos rfl, Cells_f o at_ [] (by omega) (by omega), Option.bind_some, apart_f _ _ (by omega) (by rw [cells_len]; omega) k (by rw [cells_len]; omega), Option.bind_some]
    have e : cells o at_ [] = o := by unfold cells; rw [List.zip_nil_right]; rfl
    have e2 : apart o o = [] := by
      unfold apart
      rw [Nat.max_self, List.map_eq_nil_iff, List.filter_eq_nil_iff]
      intro i hi
      have hi := List.mem_range.1 hi
      have : eqAt o o i = true := by unfold eqAt; rw [decide_eq_true]; exact ⟨hi, hi, rfl⟩
      rw [this]; simp
    rw [e, e2]
    rfl
  | succ d ih =>
    intro k i hi hk
    obtain ⟨k, rfl⟩ : ∃ m, k = m + 1 := ⟨k - 1, by omega⟩
    obtain ⟨h1, h2⟩ := hin _ (rd_mem c i (by omega))
    rw [keepsakelaw08_CutOutside.l1, if_pos (by omega), if_pos (by omega), Cut.w64 a (by omega) (by omega), Cut.w64 m (by omega) (by omega), Cut.w64 (a + m) (by omega) (by omega), if_neg (by omega), if_neg (by omega),
      show wrap64 ((i : Int) + 1) = ((i + 1 : Nat) : Int) by rw [Cut.w64 _ (by omega) (by omega)]; omega]
    exact ih k (i + 1) (by omega) (by omega)
theorem l0_end (o at_ pick : List Int) (a m : Int) (c : List Int) (ho : o.length ≤ 200) (hat : at_.length ≤ 200) (a0 : 0 ≤ a) (a1 : a ≤ 255) (m0 : 0 ≤ m) (m1 : m ≤ 255) (hc : c.length ≤ 1000) (hin : ∀ x ∈ c, x ∈ at_) (d : Nat) :
    ∀ (k i : Nat), i + d = c.length → 2000 + d + 1 ≤ k → keepsakelaw08_CutOutside.l0 k o at_ pick a m true c i = some true := by
  induction d with
  | zero =>
    intro k i hi hk
    obtain ⟨k, rfl⟩ : ∃ m, k = m + 1 := ⟨k - 1, by omega⟩
    rw [keepsakelaw08_CutOutside.l0, if_neg (by omega), Cut.w64 a (by omega) (by omega), Cut.w64 m (by omega) (by omega), Range_f o a m pick (by omega) (by omega), Option.bind_some, apart_f _ _ (by omega) (by rw [cells_len]; omega) k (by rw [cells_len]; omega), Option.bind_some]
    have hl := apart_len o (cells o (Given.rowAt a m.toNat) pick)
    rw [cells_len] at hl
    refine l1_end o at_ a m _ ho hat a0 a1 m0 m1 (by omega) (fun x hx => ?_) _ k 0 (Nat.zero_add _) (by omega)
    obtain ⟨k, hk, rfl⟩ := mem_row (apart_cells hx)
    rw [Cut.w64 _ (by omega) (by omega)]
    omega
  | succ d ih =>
    intro k i hi hk
    obtain ⟨k, rfl⟩ : ∃ m, k = m + 1 := ⟨k - 1, by omega⟩
    rw [keepsakelaw08_CutOutside.l0, if_pos (by omega), if_pos (by omega), in_f at_ _ (by omega) k (by omega) (hin _ (rd_mem c i (by omega))), Option.bind_some, if_pos rfl,
      show wrap64 ((i : Int) + 1) = ((i + 1 : Nat) : Int) by rw [Cut.w64 _ (by omega) (by omega)]; omega]
    exact ih k (i + 1) (by omega) (by omega)
theorem CutOutside : keepsakelaw08_CutOutside.Pure := by
  intro o at_ pick a m ho _ _ ha _ _ hp _ _ h3 h4
  obtain ⟨a0, a1⟩ := u8_bd h3
  obtain ⟨m0, m1⟩ := u8_bd h4
  refine ⟨5001, ?_⟩
  unfold keepsakelaw08_CutOutside.f
  rw [awake_f _ (by decide), Option.bind_some]
  have yes : keepsakelaw08_CutOutside.j0 5001 o at_ pick a m true true = some true := by rw [keepsakelaw08_CutOutside.j0, if_pos rfl]
  by_cases h0 : (o.length : Int) > 200
  · rw [if_pos h0, yes]
  by_cases h1 : (at_.length : Int) > 200
  · rw [if_neg h0, if_pos h1, yes]
  by_cases h2 : (pick.length : Int) > 200
  · rw [if_neg h0, if_neg h1, decide_eq_true h2, yes]
  have hl := apart_len o (cells o at_ pick)
  rw [cells_len] at hl
  rw [if_neg h0, if_neg h1, decide_eq_false h2, keepsakelaw08_CutOutside.j0, if_neg (by decide), Cells_f o at_ pick (by omega) (by omega), Option.bind_some, apart_f _ _ (by omega) (by rw [cells_len]; omega) _ (by rw [cells_len]; omega), Option.bind_some]
  exact l0_end o at_ pick a m _ (by omega) (by omega) a0 a1 m0 m1 (by omega) (fun x hx => apart_cells hx) _ 5000 0 (Nat.zero_add _) (by omega)

end Go.Proofs.Ytlmbfnnjhpehiaa.Pure
