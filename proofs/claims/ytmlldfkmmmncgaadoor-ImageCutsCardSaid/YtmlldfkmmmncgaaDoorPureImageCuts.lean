/- Any bytes in pieces of any size, and any pieces as bytes, or what is wrong, and how many pieces any bytes need, is as the document says: plain lists and numbers. -/
import Derived.Test.YtmlldfkmmmncgaaDoorAx12
import Derived.Test.YtmlldfkmmmncgaaDoorPureImageGlues
set_option linter.unusedVariables false
set_option linter.unusedSimpArgs false
namespace Go.Proofs.YtmlldfkmmmncgaaDoor.Pure
open Go.RowKit Go.Proofs.YtmlldfkmmmncgaaDoor.All Go.Proofs.YtmlldfkmmmncgaaDoor.Given Go.Proofs.YtmlldfkmmmncgaaDoorW.PrintWords Go.Proofs.YtmlldfkmmmncgaaDoorW.PrintLast

/-! ### how many pieces -/
theorem many_div (n s : Nat) (hs : 0 < s) (hn : 0 < n) : (n - 1) / s + 1 = n / s + (if 0 < n % s then 1 else 0) := by
  have h1 := Nat.div_add_mod n s
  have h2 := Nat.mod_lt n hs
  have h3 := Nat.div_add_mod (n - 1) s
  have h4 := Nat.mod_lt (n - 1) hs
  by_cases h : 0 < n % s
  · rw [if_pos h]
    congr 1
    have e : n - 1 = n / s * s + (n % s - 1) := by rw [Nat.mul_comm]; omega
    rw [e, Nat.mul_comm, Nat.mul_add_div hs, Nat.div_eq_of_lt (show n % s - 1 < s by omega), Nat.add_zero]
  · rw [if_neg h]
    have h0 : n % s = 0 := by omega
    obtain ⟨q, hq⟩ : ∃ q, n / s = q + 1 := by
      cases hq : n / s with
      | zero => rw [hq] at h1; omega
      | succ q => exact ⟨q, rfl⟩
    have e : n - 1 = s * q + (s - 1) := by rw [hq, Nat.mul_add, Nat.mul_one] at h1; omega
    rw [e, Nat.mul_add_div hs, Nat.div_eq_of_lt (show s - 1 < s by omega), hq]
theorem i64_bd {a : Int} (h : (Lit.int .i64 a).wf = true) : -9223372036854775808 ≤ a ∧ a ≤ 9223372036854775807 := by
  simp [Lit.wf, IntKind.min, IntKind.max, IntKind.signed, IntKind.bits] at h
  omega
theorem sectors_eq (a s : Int) (ha : -9223372036854775808 ≤ a ∧ a ≤ 9223372036854775807) (k : Nat) (hk : 1 ≤ k) : ∃ r, image_Sectors.f a s = some r ∧ keepsakeref05_Sectors.f k a s = some r := by
  obtain ⟨k, rfl⟩ : ∃ j, k = j + 1 := ⟨k - 1, by omega⟩
  by_cases h0 : a < 1
  · refine ⟨0, ?_, ?_⟩
    · unfold image_Sectors.f; rw [if_pos h0]
    · unfold keepsakeref05_Sectors.f
      by_cases h1 : s < 1
      · rw [if_pos h1, keepsakeref05_Sectors.j0, if_pos rfl]
      · rw [if_neg h1]
        by_cases h2 : s > 4096
        · rw [if_pos h2, keepsakeref05_Sectors.j0, if_pos rfl]
        · rw [if_neg h2, keepsakeref05_Sectors.j0, if_pos (decide_eq_true h0)]
  · by_cases h1 : s < 1
    · refine ⟨0, ?_, ?_⟩
      · unfold image_Sectors.f image_right.f; rw [if_neg h0, if_neg (by omega)]; rfl
      · unfold keepsakeref05_Sectors.f; rw [if_pos h1, keepsakeref05_Sectors.j0, if_pos rfl]
    · by_cases h2 : s > 4096
      · refine ⟨0, ?_, ?_⟩
        · unfold image_Sectors.f image_right.f; rw [if_neg h0, if_pos (by omega), Option.bind_some, decide_eq_false (by omega), if_neg (by decide)]
        · unfold keepsakeref05_Sectors.f; rw [if_neg h1, if_pos h2, keepsakeref05_Sectors.j0, if_pos rfl]
      · obtain ⟨n, rfl⟩ := Int.eq_ofNat_of_zero_le (show 0 ≤ a by omega)
        obtain ⟨m, rfl⟩ := Int.eq_ofNat_of_zero_le (show 0 ≤ s by omega)
        have hd := many_div n m (by omega) (by omega)
        have e1 : Int.tdiv ((n - 1 : Nat) : Int) (m : Int) = (((n - 1) / m : Nat) : Int) := by rw [Int.tdiv_eq_ediv_of_nonneg (by omega)]; rfl
        have e2 : Int.tdiv (n : Int) (m : Int) = ((n / m : Nat) : Int) := by rw [Int.tdiv_eq_ediv_of_nonneg (by omega)]; rfl
        have e3 : Int.tmod (n : Int) (m : Int) = ((n % m : Nat) : Int) := by rw [Int.tmod_eq_emod_of_nonneg (by omega)]; rfl
        have q1 := Nat.div_le_self (n - 1) m
        have q2 := Nat.div_le_self n m
        generalize (n - 1) / m = x at *
        generalize n / m = y at *
        generalize n % m = z at *
        refine ⟨((x + 1 : Nat) : Int), ?_, ?_⟩
        · unfold image_Sectors.f image_right.f
          rw [if_neg h0, if_pos (by omega), Option.bind_some, decide_eq_true (by omega), if_pos rfl, if_neg (by omega), w64 ((n : Int) - 1) (by omega) (by omega), show (n : Int) - 1 = ((n - 1 : Nat) : Int) by omega, e1, w64 (x : Int) (by omega) (by omega), w64 _ (by omega) (by omega)]
          rfl
        · unfold keepsakeref05_Sectors.f
          rw [if_neg h1, if_neg h2, keepsakeref05_Sectors.j0, decide_eq_false h0, if_neg (by decide), if_neg (by omega), e2, e3, hd, w64 (y : Int) (by omega) (by omega)]
          by_cases h : 0 < z
          · have h5 : x + 1 = y + 1 := by rw [hd, if_pos h]
            rw [if_pos (by omega), if_pos h, w64 _ (by omega) (by omega)]
            rfl
          · rw [if_neg (by omega), if_neg h]
            rfl
/-! ### pieces, byte by byte -/
theorem full_at (l : List Int) (s j : Nat) (hj : j < (full l s).length) : (full l s)[j]? = some (if j < l.length then rd l j else 0) := by
  unfold full at hj ⊢
  by_cases h : j < l.length
  · rw [List.getElem?_append_left h, if_pos h, Same.rd_nat l j h, List.getElem?_eq_getElem h]
  · rw [List.getElem?_append_right (by omega), if_neg h, List.getElem?_replicate, if_pos (by simp at hj; omega)]
theorem take_more (xs : List Int) (i j : Nat) (x : Int) (h : xs[i + j]? = some x) : (xs.drop i).take (j + 1) = (xs.drop i).take j ++ [x] := by
  rw [List.take_add_one, List.getElem?_drop, h]
  rfl
theorem cut_l1 (l : List Int) (s : Nat) (hs : 1 ≤ s) (hs2 : s ≤ 4096) (hl : l.length ≤ 300) (i : Nat) (hi : i < many l.length s) (out : List (List Int)) (ho : out.length ≤ 300) (d : Nat) : ∀ (k j : Nat), j + d = s →
    keepsakeref05_Cut.l1 (k + d + 1) l s out i (((full l s).drop (i * s)).take j) ((i * s + j : Nat) : Int) = keepsakeref05_Cut.l0 k l s (out ++ [((full l s).drop (i * s)).take s]) ((i + 1 : Nat) : Int) := by
  have h1 := many_full l.length s hs
  have h2 : (i + 1) * s ≤ many l.length s * s := Nat.mul_le_mul_right _ (by omega)
  have hfl := full_len l s hs
  have e : wrap64 (wrap64 ((i : Int) + 1) * (s : Int)) = (((i + 1) * s : Nat) : Int) := by
    have h3 := many_le l.length s hs
    rw [w64 ((i : Int) + 1) (by omega) (by omega), show ((i : Int) + 1) = ((i + 1 : Nat) : Int) by omega, ← Int.natCast_mul, w64 _ (by omega) (by omega)]
  rw [Nat.add_mul, Nat.one_mul] at h2 e
  have h3 := many_le l.length s hs
  induction d with
  | zero =>
    intro k j hj
    rw [show k + 0 + 1 = k + 1 by omega, keepsakeref05_Cut.l1, e, if_neg (by omega), if_pos (by omega), show j = s by omega, w64 _ (by omega) (by omega)]
    rfl
  | succ d ih =>
    intro k j hj
    have hpl : (((full l s).drop (i * s)).take j).length ≤ s := by rw [List.length_take]; omega
    have hx := full_at l s (i * s + j) (by omega)
    rw [show k + (d + 1) + 1 = (k + d + 1) + 1 by omega, keepsakeref05_Cut.l1, e, if_pos (by omega)]
    have hn := take_more (full l s) (i * s) j _ hx
    by_cases hlt : i * s + j < l.length
    · rw [if_pos hlt] at hn
      rw [if_pos (by omega), if_pos (by omega), if_pos (by omega), ← hn, w64 _ (by omega) (by omega)]
      exact ih k (j + 1) (by omega)
    · rw [if_neg hlt] at hn
      rw [if_neg (by omega), if_pos (by omega), ← hn, w64 _ (by omega) (by omega)]
      exact ih k (j + 1) (by omega)
theorem cut_l0 (l : List Int) (s : Nat) (hs : 1 ≤ s) (hs2 : s ≤ 4096) (hl : l.length ≤ 300) (d : Nat) : ∀ (k i : Nat), i + d = many l.length s → 10 ≤ k →
    keepsakeref05_Cut.l0 (k + d * (s + 2)) l s ((pc l s).take i) (i : Int) = some (pc l s, 0) := by
  have h1 := many_full l.length s hs
  have h3 := many_le l.length s hs
  obtain ⟨r, hr1, hr2⟩ := sectors_eq (l.length : Int) (s : Int) (by omega) 1 (by omega)
  have hr3 := sect_f l.length s hs hs2 (by omega)
  have hS : ∀ k, 1 ≤ k → keepsakeref05_Sectors.f k (l.length : Int) (s : Int) = some (many l.length s : Int) := fun k hk => by
    obtain ⟨r, hr1, hr2⟩ := sectors_eq (l.length : Int) (s : Int) (by omega) k hk
    rw [hr3] at hr1
    rw [hr2, ← hr1]
  induction d with
  | zero =>
    intro k i hi hk
    obtain ⟨k, rfl⟩ : ∃ j, k = j + 1 := ⟨k - 1, by omega⟩
    rw [Nat.zero_mul, Nat.add_zero, keepsakeref05_Cut.l0, hS k (by omega), Option.bind_some, if_neg (by omega), List.take_of_length_le (by rw [pc_len]; omega)]
  | succ d ih =>
    intro k i hi hk
    have him : i < many l.length s := by omega
    have his : i * s ≤ many l.length s * s := Nat.mul_le_mul_right _ (by omega)
    rw [show k + (d + 1) * (s + 2) = ((k + d * (s + 2)) + s + 1) + 1 by rw [Nat.add_mul]; omega, keepsakeref05_Cut.l0, hS _ (by omega), Option.bind_some, if_pos (by omega), ← Int.natCast_mul, w64 _ (by omega) (by omega)]
    have h4 := cut_l1 l s hs hs2 hl i him ((pc l s).take i) (by rw [List.length_take, pc_len]; omega) s (k + d * (s + 2)) 0 (by omega)
    rw [List.take_zero] at h4
    simp only [Nat.add_zero] at h4
    rw [h4]
    have h5 : (pc l s).take (i + 1) = (pc l s).take i ++ [((full l s).drop (i * s)).take s] := by rw [List.take_add_one, pc_at l s i him]; rfl
    rw [← h5]
    exact ih k (i + 1) (by omega) hk
theorem cut_ref (l : List Int) (s : Int) (hl : l.length ≤ 300) (k : Nat) (hk : 2000000 ≤ k) : ∃ r, image_Cut.f l s = some r ∧ keepsakeref05_Cut.f k l s = some r ∧ (∀ p ∈ r.1, p.length ≤ 5000) ∧ r.1.length ≤ 300 := by
  by_cases h : s < 1 ∨ 4096 < s
  · refine ⟨([], 1), by unfold image_Cut.f; rw [if_pos h], ?_, (fun p hp => by cases hp), Nat.zero_le _⟩
    obtain ⟨k, rfl⟩ : ∃ j, k = j + 1 := ⟨k - 1, by omega⟩
    unfold keepsakeref05_Cut.f
    by_cases h1 : s < 1
    · rw [if_pos h1, keepsakeref05_Cut.j0, if_pos rfl]
    · rw [if_neg h1, keepsakeref05_Cut.j0, if_pos (decide_eq_true (by omega))]
  · obtain ⟨n, rfl⟩ := Int.eq_ofNat_of_zero_le (show 0 ≤ s by omega)
    have h3 := many_le l.length n (by omega)
    refine ⟨(pc l n, 0), cut_f l n (by omega) (by omega) hl, ?_, fun p hp => ?_, by simp only [pc_len]; omega⟩
    · have hb : many l.length n * (n + 2) ≤ 300 * 4098 := Nat.mul_le_mul (by omega) (by omega)
      obtain ⟨j, rfl⟩ : ∃ j, k = (j + many l.length n * (n + 2)) + 1 := ⟨k - 1 - many l.length n * (n + 2), by omega⟩
      unfold keepsakeref05_Cut.f
      rw [if_neg (by omega), keepsakeref05_Cut.j0, decide_eq_false (by omega), if_neg (by decide)]
      have := cut_l0 l n (by omega) (by omega) hl (many l.length n) j 0 (by omega) (by omega)
      simpa using this
    · unfold pc at hp
      obtain ⟨i, _, rfl⟩ := List.mem_map.1 hp
      rw [List.length_take]
      omega
/-! ### pieces as bytes -/
theorem take_snoc (xs : List Int) (x : Int) (m : Nat) (h : xs.length < m) : (xs ++ [x]).take m = xs.take m ++ [x] := by
  rw [List.take_of_length_le (by simp; omega), List.take_of_length_le (by omega)]
theorem take_full (xs : List Int) (x : Int) (m : Nat) (h : m ≤ xs.length) : (xs ++ [x]).take m = xs.take m := List.take_append_of_le_length h
/-- What has been glued. -/
def glued (m : Int) (xs : List Int) : List Int := xs.take m.toNat
theorem glued_lt (m : Int) (xs : List Int) : ((glued m xs).length : Int) < m ↔ (xs.length : Int) < m := by
  unfold glued
  rw [List.length_take]
  omega
theorem glue_l1 (ls : List (List Int)) (m : Int) (hb : ls.length ≤ 100000) (i : Nat) (hi : i < ls.length) (hr : (rd_L1 ls i).length ≤ 1000) (d : Nat) : ∀ (k j : Nat) (P : List Int), j + d = (rd_L1 ls i).length → P.length ≤ 100000 →
    keepsakeref05_Glue.l1 (k + d + 1) ls m (glued m (P ++ (rd_L1 ls i).take j)) i (j : Int) = keepsakeref05_Glue.l0 k ls m (glued m (P ++ rd_L1 ls i)) ((i + 1 : Nat) : Int) := by
  induction d with
  | zero =>
    intro k j P hj hP
    rw [show k + 0 + 1 = k + 1 by omega, keepsakeref05_Glue.l1, if_pos (by omega), if_pos (by omega), if_neg (by omega), List.take_of_length_le (by omega), w64 _ (by omega) (by omega)]
    rfl
  | succ d ih =>
    intro k j P hj hP
    have hjl : j < (rd_L1 ls i).length := by omega
    have e : (rd_L1 ls i).take (j + 1) = (rd_L1 ls i).take j ++ [rd (rd_L1 ls i) j] := by rw [List.take_succ_eq_append_getElem hjl, Same.rd_nat _ j hjl]
    rw [show k + (d + 1) + 1 = (k + d + 1) + 1 by omega, keepsakeref05_Glue.l1, if_pos (by omega), if_pos (by omega), if_pos (by omega), w64 _ (by omega) (by omega), show (j : Int) + 1 = ((j + 1 : Nat) : Int) by omega]
    by_cases h : ((glued m (P ++ (rd_L1 ls i).take j)).length : Int) < m
    · have h' := (glued_lt _ _).1 h
      rw [if_pos h, if_pos (by omega), if_pos (by unfold glued; rw [List.length_take, List.length_append, List.length_take]; omega)]
      have e2 : glued m (P ++ (rd_L1 ls i).take j) ++ [rd (rd_L1 ls i) j] = glued m (P ++ (rd_L1 ls i).take (j + 1)) := by
        unfold glued
        rw [e, ← List.append_assoc, take_snoc _ _ _ (by omega)]
      rw [e2]
      exact ih k (j + 1) P (by omega) hP
    · have h' : ¬ (((P ++ (rd_L1 ls i).take j).length : Int) < m) := fun x => h ((glued_lt _ _).2 x)
      rw [if_neg h]
      have e2 : glued m (P ++ (rd_L1 ls i).take j) = glued m (P ++ (rd_L1 ls i).take (j + 1)) := by
        unfold glued
        rw [e, ← List.append_assoc, take_full _ _ _ (by omega)]
      rw [e2]
      exact ih k (j + 1) P (by omega) hP
/-- How many rounds the rest wants. -/
def need (ls : List (List Int)) : Nat := (ls.map fun p => p.length + 2).sum
theorem need_cons (p : List Int) (ls : List (List Int)) : need (p :: ls) = p.length + 2 + need ls := by simp [need]
theorem rd_drop (ls : List (List Int)) (i : Nat) (h : i < ls.length) : ls.drop i = rd_L1 ls i :: ls.drop (i + 1) := by
  unfold rd_L1
  rw [List.drop_eq_getElem_cons h, Int.toNat_natCast, List.getD_eq_getElem?_getD, List.getElem?_eq_getElem h]
  rfl
theorem glue_l0 (ls : List (List Int)) (m : Int) (hn : ls.length ≤ 30) (hp : ∀ i : Nat, i < ls.length → (rd_L1 ls i).length ≤ 50) (d : Nat) : ∀ (k i : Nat) (P : List Int), i + d = ls.length → P.length ≤ 50 * i →
    keepsakeref05_Glue.l0 (k + need (ls.drop i) + 1) ls m (glued m P) (i : Int) = some (if m < 0 ∨ ((P ++ (ls.drop i).flatten).length : Int) < m then ([], 1) else (glued m (P ++ (ls.drop i).flatten), 0)) := by
  induction d with
  | zero =>
    intro k i P hi hP
    have e : ls.drop i = [] := List.drop_of_length_le (by omega)
    rw [e, show need [] = 0 from rfl, Nat.add_zero, keepsakeref05_Glue.l0, if_neg (by omega), List.flatten_nil, List.append_nil]
    by_cases h : m < 0
    · rw [if_pos h, if_pos (.inl h)]
    · rw [if_neg h]
      by_cases h2 : (P.length : Int) < m
      · rw [if_pos ((glued_lt m P).2 h2), if_pos (.inr h2)]
      · rw [if_neg (fun x => h2 ((glued_lt m P).1 x)), if_neg (fun x => x.elim h h2)]
  | succ d ih =>
    intro k i P hi hP
    have hil : i < ls.length := by omega
    have hlen := hp i hil
    rw [rd_drop ls i hil, need_cons, show k + ((rd_L1 ls i).length + 2 + need (ls.drop (i + 1))) + 1 = ((k + need (ls.drop (i + 1)) + 1) + (rd_L1 ls i).length + 1) + 1 by omega, keepsakeref05_Glue.l0, if_pos (by omega)]
    have h := glue_l1 ls m (by omega) i hil (by omega) (rd_L1 ls i).length (k + need (ls.drop (i + 1)) + 1) 0 P (by omega) (by omega)
    rw [List.take_zero, List.append_nil] at h
    rw [show ((0 : Nat) : Int) = 0 from rfl] at h
    rw [h, ih k (i + 1) (P ++ rd_L1 ls i) (by omega) (by rw [List.length_append]; omega), List.flatten_cons, ← List.append_assoc]
theorem flat_le (ls : List (List Int)) (h : ∀ p ∈ ls, p.length ≤ 50) : ls.flatten.length ≤ 50 * ls.length ∧ need ls ≤ 52 * ls.length := by
  induction ls with
  | nil => exact ⟨by simp, by simp [need]⟩
  | cons p ls ih =>
    have h1 := h p List.mem_cons_self
    have h2 := ih (fun q hq => h q (List.mem_cons_of_mem _ hq))
    rw [List.flatten_cons, List.length_append, need_cons, List.length_cons]
    omega
theorem rd_mem (ls : List (List Int)) (i : Nat) (h : i < ls.length) : rd_L1 ls i ∈ ls := by
  unfold rd_L1
  rw [Int.toNat_natCast, List.getD_eq_getElem?_getD, List.getElem?_eq_getElem h]
  exact List.getElem_mem h
theorem glue_ref (ls : List (List Int)) (m : Int) (hn : ls.length ≤ 30) (hp : ∀ p ∈ ls, p.length ≤ 50) (k : Nat) (hk : 100000 ≤ k) : ∃ r, image_Glue.f ls m = some r ∧ keepsakeref05_Glue.f k ls m = some r ∧ r.1.length ≤ 2000 := by
  have h1 := flat_le ls hp
  have hJ : bytes_Join.f ls [] = some ls.flatten := by unfold bytes_Join.f; rw [if_pos ⟨rfl, by omega, by omega⟩]
  refine ⟨if m < 0 ∨ (ls.flatten.length : Int) < m then ([], 1) else (glued m ls.flatten, 0), ?_, ?_, ?_⟩
  · unfold image_Glue.f
    rw [hJ, Option.bind_some]
    by_cases h : 0 ≤ m ∧ m ≤ (ls.flatten.length : Int)
    · rw [if_pos h, if_neg (by omega)]
      rfl
    · rw [if_neg h, if_pos (by omega)]
  · obtain ⟨j, rfl⟩ : ∃ j, k = j + need ls + 1 := ⟨k - need ls - 1, by omega⟩
    unfold keepsakeref05_Glue.f
    have := glue_l0 ls m hn (fun i hi => hp _ (rd_mem ls i hi)) ls.length j 0 [] (by omega) (by simp)
    have e0 : glued m [] = [] := by simp [glued]
    rw [e0, List.drop_zero, List.nil_append] at this
    exact this
  · split
    · simp
    · unfold glued
      rw [List.length_take]
      omega
/-! ### lists of lists -/
theorem lists_same (ls : List (List Int)) (hn : ls.length ≤ 1000) (hp : ∀ p ∈ ls, p.length ≤ 5000) (d : Nat) : ∀ (k i : Nat), i + d = ls.length → d + 6000 ≤ k → keepsakeref05_Lists.l0 k ls ls (i : Int) = some true := by
  induction d with
  | zero =>
    intro k i hi hk
    obtain ⟨k, rfl⟩ : ∃ j, k = j + 1 := ⟨k - 1, by omega⟩
    rw [keepsakeref05_Lists.l0, if_neg (by omega)]
  | succ d ih =>
    intro k i hi hk
    obtain ⟨k, rfl⟩ : ∃ j, k = j + 1 := ⟨k - 1, by omega⟩
    have h1 := hp _ (rd_mem ls i (by omega))
    rw [keepsakeref05_Lists.l0, if_pos (by omega), if_pos (by omega), if_pos (by omega), same_self _ (by omega) k (by omega), Option.bind_some, if_pos rfl, w64 _ (by omega) (by omega)]
    exact ih k (i + 1) (by omega) (by omega)
theorem cuts_end (l : List Int) (s : Int) (ls : List (List Int)) (m : Int) (hm : -9223372036854775808 ≤ m ∧ m ≤ 9223372036854775807) (hl : l.length ≤ 300) (hn : ls.length ≤ 30) (k : Nat) (hk : 2000000 ≤ k) (i : Int) (hi : ¬ i < (ls.length : Int)) (hp : ∀ p ∈ ls, p.length ≤ 50) :
    keepsakelaw05_ImageCuts.l0 (k + 1) l s ls m true i = some true := by
  obtain ⟨r1, a1, a2, a3, a4⟩ := cut_ref l s hl k hk
  obtain ⟨r2, b1, b2, b3⟩ := glue_ref ls m hn hp k (by omega)
  obtain ⟨r3, c1, c2⟩ := sectors_eq m s hm k (by omega)
  have hL : keepsakeref05_Lists.f k r1.1 r1.1 = some true := by
    unfold keepsakeref05_Lists.f
    rw [if_pos rfl]
    exact lists_same r1.1 (by omega) a3 r1.1.length k 0 (by omega) (by omega)
  rw [keepsakelaw05_ImageCuts.l0, if_neg hi, a1, Option.bind_some, a2, Option.bind_some, b1, Option.bind_some, b2, Option.bind_some]
  simp only [if_true]
  rw [hL, Option.bind_some, if_pos rfl, same_self r2.1 (by omega) k (by omega), Option.bind_some, if_pos rfl, c1, Option.bind_some, c2, Option.bind_some]
  simp
theorem cuts_l0 (l : List Int) (s : Int) (ls : List (List Int)) (m : Int) (hm : -9223372036854775808 ≤ m ∧ m ≤ 9223372036854775807) (hl : l.length ≤ 300) (hn : ls.length ≤ 30) (d : Nat) : ∀ (k i : Nat), i + d = ls.length → d + 2000001 ≤ k → (∀ j : Nat, j < i → (rd_L1 ls j).length ≤ 50) →
    keepsakelaw05_ImageCuts.l0 k l s ls m true (i : Int) = some true := by
  induction d with
  | zero =>
    intro k i hi hk hp
    obtain ⟨k, rfl⟩ : ∃ j, k = j + 1 := ⟨k - 1, by omega⟩
    refine cuts_end l s ls m hm hl hn k (by omega) _ (by omega) (fun p hpm => ?_)
    obtain ⟨j, hj, rfl⟩ := List.getElem_of_mem hpm
    have := hp j (by omega)
    unfold rd_L1 at this
    rw [Int.toNat_natCast, List.getD_eq_getElem?_getD, List.getElem?_eq_getElem hj] at this
    exact this
  | succ d ih =>
    intro k i hi hk hp
    obtain ⟨k, rfl⟩ : ∃ j, k = j + 1 := ⟨k - 1, by omega⟩
    rw [keepsakelaw05_ImageCuts.l0, if_pos (by omega), if_pos (by omega)]
    by_cases h : ((rd_L1 ls i).length : Int) > 50
    · rw [if_pos h]
    · rw [if_neg h, w64 _ (by omega) (by omega)]
      refine ih k (i + 1) (by omega) (by omega) (fun j hj => ?_)
      by_cases e : j = i
      · subst e; omega
      · exact hp j (by omega)
theorem ImageCuts (l : List Int) (s : Int) (ls : List (List Int)) (m : Int) (hm : (Lit.int .i64 m).wf = true) : ∃ k, keepsakelaw05_ImageCuts.f k l s ls m = some true := by
  refine ⟨3000001, ?_⟩
  have hm' := i64_bd hm
  unfold keepsakelaw05_ImageCuts.f
  rw [awake_f _ (by omega), Option.bind_some]
  by_cases hl : (l.length : Int) > 300
  · rw [if_pos hl, keepsakelaw05_ImageCuts.j0, if_pos rfl]
  · rw [if_neg hl, keepsakelaw05_ImageCuts.j0]
    by_cases hn : (ls.length : Int) > 30
    · rw [if_pos (decide_eq_true hn)]
    · rw [decide_eq_false hn, if_neg (by decide)]
      exact cuts_l0 l s ls m hm' (by omega) (by omega) ls.length 3000000 0 (by omega) (by omega) (fun j hj => absurd hj (Nat.not_lt_zero _))
end Go.Proofs.YtmlldfkmmmncgaaDoor.Pure
