/- Any bytes may be left in a range: whatever it is picked to be it is; two lists are apart just where a range makes one the other. -/
import Derived.Test.YtlmbfnnjhpehiaaAx8
import Derived.Test.YtlmbfnnjhpehiaaAwake
set_option linter.unusedVariables false
set_option linter.unusedSimpArgs false
namespace Go.Proofs.Ytlmbfnnjhpehiaa.Pure
open Go.RowKit Go.Proofs.Ytlmbfnnjhpehiaa.All Go.Proofs.Ytlmbfnnjhpehiaa.Given Go.Proofs.Ytlmbfnnjhpehiaa.Cut Go.Proofs.YtlmbfnnjhpehiaaW.PrintWords Go.Proofs.YtlmbfnnjhpehiaaW.PrintLast Go.Proofs.YtlmbfnnjhpehiaaW.PrintMore

theorem eqAt_comm (a b : List Int) (i : Nat) : eqAt a b i = eqAt b a i := by
  unfold eqAt
  rw [decide_eq_decide]
  exact ⟨fun h => ⟨h.2.1, h.1, h.2.2.symm⟩, fun h => ⟨h.2.1, h.1, h.2.2.symm⟩⟩
theorem apart_comm (a b : List Int) : apart a b = apart b a := by
  unfold apart
  rw [Nat.max_comm]
  congr 2
  funext i
  rw [eqAt_comm]
/-- The places of a list, each with its byte of b. -/
def both (b : List Int) (l : List Int) : List (Int × Int) := l.map fun x => (x, rd b x)
theorem zip_both (b l : List Int) : l.zip (l.map fun x => rd b x) = both b l := by
  induction l with
  | nil => rfl
  | cons x l ih => simp [both] at ih ⊢; exact ih
theorem look_both (b : List Int) (i : Int) (l : List Int) : ∀ x, Cut.look i x (both b l) = if i ∈ l then rd b i else x := by
  induction l with
  | nil => intro x; rfl
  | cons y l ih =>
    intro x
    show Cut.look i (if y = i then rd b y else x) (both b l) = _
    rw [ih]
    by_cases h : i ∈ l
    · rw [if_pos h, if_pos (List.mem_cons_of_mem _ h)]
    · rw [if_neg h]
      by_cases e : y = i
      · rw [if_pos e, if_pos (by rw [e]; exact List.mem_cons_self), e]
      · rw [if_neg e, if_neg (fun hm => (List.mem_cons.1 hm).elim (fun h' => e h'.symm) h)]
theorem mem_apart_iff (a b : List Int) (hl : b.length = a.length) (i : Nat) (hi : i < a.length) : ((i : Int) ∈ apart a b) ↔ ¬ rd a i = rd b i := by
  unfold apart
  rw [List.mem_map]
  constructor
  · rintro ⟨j, hj, e⟩
    obtain rfl : j = i := by omega
    have h := (List.mem_filter.1 hj).2
    intro he
    have : eqAt a b j = true := by unfold eqAt; rw [decide_eq_true]; exact ⟨hi, by omega, he⟩
    rw [this] at h
    cases h
  · intro h
    refine ⟨i, List.mem_filter.2 ⟨List.mem_range.2 (by omega), ?_⟩, rfl⟩
    have : eqAt a b i = false := by unfold eqAt; rw [decide_eq_false]; exact fun x => h x.2.2
    rw [this]; rfl
theorem cells_apart (a b : List Int) (hl : b.length = a.length) : cells a (apart a b) ((apart a b).map fun x => rd b x) = b :=
  list_eq (by rw [cells_len]; omega) (fun i hi => by
    rw [cells_len] at hi
    rw [cells_at _ _ _ i hi, zip_both, look_both]
    by_cases h : (i : Int) ∈ apart a b
    · rw [if_pos h]
    · rw [if_neg h]
      rw [mem_apart_iff a b hl i hi] at h
      exact Decidable.not_not.1 h)
theorem apart_in {a b : List Int} {x : Int} (h : x ∈ apart a b) : 0 ≤ x ∧ x < max a.length b.length := by
  unfold apart at h
  obtain ⟨i, hi, rfl⟩ := List.mem_map.1 h
  have := List.mem_range.1 (List.mem_filter.1 hi).1
  omega
theorem row_is (n : Nat) (h : n ≤ 200) : Given.rowAt 0 n = (List.range n).map fun i : Nat => (i : Int) := by
  unfold Given.rowAt Given.upto
  apply List.map_congr_left
  intro k hk
  have := List.mem_range.1 hk
  rw [Cut.w64 _ (by omega) (by omega)]
  omega
theorem map_rd (b : List Int) : ((List.range b.length).map fun i : Nat => (i : Int)).map (fun x => rd b x) = b := by
  apply List.ext_getElem
  · simp
  · intro i h1 h2
    simp [rd_nat b i h2]
theorem range_all (a b : List Int) (hl : b.length = a.length) (ha : a.length ≤ 200) : cells a (Given.rowAt 0 a.length) b = b := by
  refine list_eq (by rw [cells_len]; omega) (fun i hi => ?_)
  rw [cells_len] at hi
  rw [cells_at _ _ _ i hi, row_is _ ha]
  conv => lhs; arg 3; arg 2; rw [← map_rd b]
  rw [hl, zip_both, look_both, if_pos (List.mem_map.2 ⟨i, List.mem_range.2 hi, rfl⟩)]
theorem l0_end (a b : List Int) (hl : b.length = a.length) (ha : a.length ≤ 200) (d : Nat) : ∀ (k i : Nat), i + d = (apart a b).length → 1000 + d + 1 ≤ k →
    keepsakelaw08_CutAll.l0 k a b true (apart a b) (((apart a b).take i).map fun x => rd b x) i = some true := by
  have hal := apart_len a b
  induction d with
  | zero =>
    intro k i hi hk
    obtain ⟨k, rfl⟩ : ∃ m, k = m + 1 := ⟨k - 1, by omega⟩
    rw [keepsakelaw08_CutAll.l0, if_neg (by omega), apart_f b a (by omega) (by omega) k (by omega), Option.bind_some, if_pos rfl, Range_f a 0 _ b (by omega) (by omega), Option.bind_some, Int.toNat_natCast, range_all a b hl ha, Same.same_f _ _ (by omega) k (by omega), Option.bind_some, if_pos (by simp),
      List.take_of_length_le (by omega), Cells_f a _ _ (by omega) (by omega), Option.bind_some, cells_apart a b hl, Same.same_f _ _ (by omega) k (by omega), Option.bind_some, if_pos (by simp), apart_comm b a, Ints.ints_f _ _ (by omega) k (by omega), Option.bind_some]
    simp
  | succ d ih =>
    intro k i hi hk
    obtain ⟨k, rfl⟩ : ∃ m, k = m + 1 := ⟨k - 1, by omega⟩
    have hi' : i < (apart a b).length := by omega
    have hb := apart_in (a := a) (b := b) (x := rd (apart a b) i) (by rw [Cut.rd_nat _ i hi']; exact List.getElem_mem hi')
    rw [keepsakelaw08_CutAll.l0, if_pos (by omega), if_pos (by omega), if_neg (by omega), if_neg (by omega), if_pos (by omega), if_pos (by omega), if_pos (by rw [List.length_map, List.length_take]; omega),
      show wrap64 ((i : Int) + 1) = ((i + 1 : Nat) : Int) by rw [Cut.w64 _ (by omega) (by omega)]; omega]
    have e : ((apart a b).take i).map (fun x => rd b x) ++ [rd b (rd (apart a b) i)] = ((apart a b).take (i + 1)).map (fun x => rd b x) := by
      rw [List.take_succ_eq_append_getElem hi', List.map_append, Cut.rd_nat _ i hi']
      rfl
    rw [e]
    exact ih k (i + 1) (by omega) (by omega)
theorem CutAll : keepsakelaw08_CutAll.Pure := by
  intro a b _ _ _ _ _ _
  refine ⟨2001, ?_⟩
  unfold keepsakelaw08_CutAll.f
  rw [awake_f _ (by decide), Option.bind_some]
  have yes : keepsakelaw08_CutAll.j0 2001 a b true true = some true := by rw [keepsakelaw08_CutAll.j0, if_pos rfl]
  by_cases h0 : (a.length : Int) > 200
  · rw [if_pos h0, yes]
  by_cases h1 : b.length = a.length
  · have hal := apart_len a b
    rw [if_neg h0, show ((b.length : Int) != (a.length : Int)) = false by simp [h1], keepsakelaw08_CutAll.j0, if_neg (by decide), apart_f a b (by omega) (by omega) _ (by omega), Option.bind_some]
    exact l0_end a b h1 (by omega) _ 2000 0 (Nat.zero_add _) (by omega)
  · rw [if_neg h0, show ((b.length : Int) != (a.length : Int)) = true by simp; omega, yes]

end Go.Proofs.Ytlmbfnnjhpehiaa.Pure
