/- What is left, place by place; where two lists are apart: the program's functions and the document's, in plain terms. -/
import Derived.Test.YtlmbfnnjhpehiaaAx2
import Derived.Test.YtlmbfnnjhpehiaaAx1
import Derived.Test.YtlmbfnnjhpehiaaSame
import Derived.Test.YtlmbfnnjhpehiaaInts
set_option linter.unusedVariables false
set_option linter.unusedSimpArgs false
namespace Go.Proofs.Ytlmbfnnjhpehiaa.Cut
open Go.RowKit Go.Proofs.Ytlmbfnnjhpehiaa.All Go.Proofs.Ytlmbfnnjhpehiaa.Given Go.Proofs.YtlmbfnnjhpehiaaW.PrintWords Go.Proofs.YtlmbfnnjhpehiaaW.PrintLast Go.Proofs.YtlmbfnnjhpehiaaW.PrintMore

theorem w64 (n : Int) (h0 : -9223372036854775808 ≤ n) (h1 : n ≤ 9223372036854775807) : wrap64 n = n := by unfold wrap64; omega
def Bytes (l : List Int) : Prop := ∀ x ∈ l, 0 ≤ x ∧ x ≤ 255
theorem bytes_of_wf {l : List Int} (h : ∀ x ∈ l, (Lit.int .u8 x).wf = true) : Bytes l := fun x hx => by
  have := h x hx
  simp [Lit.wf, IntKind.min, IntKind.max, IntKind.signed, IntKind.bits] at this
  omega
theorem u8_bd {a : Int} (h : (Lit.int .u8 a).wf = true) : 0 ≤ a ∧ a ≤ 255 := by
  simp [Lit.wf, IntKind.min, IntKind.max, IntKind.signed, IntKind.bits] at h
  omega
theorem i64_bd {a : Int} (h : (Lit.int .i64 a).wf = true) : -9223372036854775808 ≤ a ∧ a ≤ 9223372036854775807 := by
  simp [Lit.wf, IntKind.min, IntKind.max, IntKind.signed, IntKind.bits] at h
  omega
theorem rd_nat (l : List Int) (i : Nat) (hi : i < l.length) : rd l i = l[i] := Same.rd_nat l i hi
theorem rd_byte {l : List Int} (h : Bytes l) (i : Nat) (hi : i < l.length) : 0 ≤ rd l i ∧ rd l i ≤ 255 := by rw [rd_nat l i hi]; exact h _ (List.getElem_mem hi)
/-- What a place is left with. -/
def look (i : Int) (x : Int) (l : List (Int × Int)) : Int := l.foldl (fun x q => if q.1 = i then q.2 else x) x
theorem look_cons (i x : Int) (q : Int × Int) (l : List (Int × Int)) : look i x (q :: l) = look i (if q.1 = i then q.2 else x) l := rfl
theorem look_nil (i x : Int) : look i x [] = x := rfl
theorem put_at (o : List Int) (q : Int × Int) (i : Nat) (hi : i < o.length) : rd (put o q) i = if q.1 = i then q.2 else rd o i := by
  by_cases h : 0 ≤ q.1 ∧ q.1 < o.length
  · have e0 : put o q = o.set q.1.toNat q.2 := by unfold put; rw [if_pos h]
    rw [e0, rd_nat _ i (by rw [List.length_set]; exact hi), rd_nat o i hi, List.getElem_set]
    by_cases e : q.1 = i
    · rw [if_pos (by omega), if_pos e]
    · rw [if_neg (by omega), if_neg e]
  · have e0 : put o q = o := by unfold put; rw [if_neg h]
    rw [e0, if_neg (by omega)]
theorem fold_at (l : List (Int × Int)) (i : Nat) : ∀ (o : List Int), i < o.length → rd (l.foldl put o) i = look i (rd o i) l := by
  induction l with
  | nil => intro o _; rfl
  | cons q l ih =>
    intro o hi
    rw [List.foldl_cons, ih _ (by rw [put_len]; exact hi), put_at o q i hi]
    rfl
theorem cells_at (o at_ pick : List Int) (i : Nat) (hi : i < o.length) : rd (cells o at_ pick) i = look i (rd o i) (at_.zip pick) := fold_at _ i o hi
theorem list_eq {a b : List Int} (hl : a.length = b.length) (h : ∀ i : Nat, i < a.length → rd a i = rd b i) : a = b := by
  apply List.ext_getElem hl
  intro i h1 h2
  have := h i h1
  rwa [rd_nat a i h1, rd_nat b i h2] at this
theorem look_out (i x : Int) (l : List (Int × Int)) (h : ∀ q ∈ l, q.1 ≠ i) : look i x l = x := by
  induction l generalizing x with
  | nil => rfl
  | cons q l ih => rw [look_cons, if_neg (h q List.mem_cons_self), ih _ (fun q hq => h q (List.mem_cons_of_mem _ hq))]
theorem look_twice (i x : Int) (l : List (Int × Int)) : look i (look i x l) l = look i x l := by
  have key : ∀ l : List (Int × Int), (∀ x y, look i x l = look i y l) ∨ (∀ x, look i x l = x) := by
    intro l
    induction l with
    | nil => exact .inr fun x => rfl
    | cons q l ih =>
      rcases ih with h | h
      · exact .inl fun x y => h _ _
      · by_cases e : q.1 = i
        · exact .inl fun x y => by rw [look_cons, look_cons, if_pos e, if_pos e]
        · exact .inr fun x => by rw [look_cons, if_neg e, h]
  rcases key l with h | h
  · exact h _ _
  · rw [h, h]
theorem mem_zip_fst {a b : List Int} {q : Int × Int} (h : q ∈ a.zip b) : q.1 ∈ a := (List.of_mem_zip (a := q.1) (b := q.2) h).1
/-- By definition, place by place. -/
def left (o : List Int) (l : List (Int × Int)) : List Int := (List.range o.length).map fun i : Nat => look i (rd o i) l
theorem left_len (o : List Int) (l : List (Int × Int)) : (left o l).length = o.length := by simp [left]
theorem left_at (o : List Int) (l : List (Int × Int)) (i : Nat) (hi : i < o.length) : rd (left o l) i = look i (rd o i) l := by
  rw [rd_nat _ i (by rw [left_len]; exact hi)]
  simp [left]
theorem cells_left (o at_ pick : List Int) : cells o at_ pick = left o (at_.zip pick) :=
  list_eq (by rw [cells_len, left_len]) (fun i hi => by rw [cells_len] at hi; rw [cells_at o at_ pick i hi, left_at o _ i hi])
theorem drop_zip (a b : List Int) (k : Nat) : (a.zip b).drop k = (a.drop k).zip (b.drop k) := by
  induction k generalizing a b with
  | zero => rfl
  | succ k ih =>
    cases a with
    | nil => simp
    | cons x a => cases b with
      | nil => simp
      | cons y b => simpa using ih a b
theorem rd_drop (l : List Int) (k : Nat) (h : k < l.length) : l.drop k = rd l k :: l.drop (k + 1) := by
  rw [List.drop_eq_getElem_cons h, rd_nat l k h]
theorem ref_l1 (o at_ pick : List Int) (ha : at_.length ≤ 200) (out : List Int) (i : Nat) (hi : i ≤ 200) (hout : out.length ≤ 200) (d : Nat) : ∀ (k j : Nat) (x : Int), j + d = min at_.length pick.length →
    keepsakeref08_Cells.l1 (k + 2 * d + 2) o at_ pick out i x j = keepsakeref08_Cells.l0 k o at_ pick (out ++ [look i x ((at_.zip pick).drop j)]) ((i + 1 : Nat) : Int) := by
  induction d with
  | zero =>
    intro k j x hj
    have hz : (at_.zip pick).drop j = [] := List.drop_of_length_le (by rw [List.length_zip]; omega)
    rw [hz, look_nil, show k + 2 * 0 + 2 = k + 1 + 1 by omega, keepsakeref08_Cells.l1]
    have hb : (if (j : Int) < (at_.length : Int) then keepsakeref08_Cells.j2 (k + 1) o at_ pick out i x j (decide ((j : Int) < (pick.length : Int))) else keepsakeref08_Cells.j2 (k + 1) o at_ pick out i x j false) = keepsakeref08_Cells.j2 (k + 1) o at_ pick out i x j false := by
      by_cases h : (j : Int) < (at_.length : Int)
      · rw [if_pos h, decide_eq_false (by omega)]
      · rw [if_neg h]
    rw [hb, keepsakeref08_Cells.j2, if_neg (by decide), if_pos (by omega), w64 _ (by omega) (by omega)]
    rfl
  | succ d ih =>
    intro k j x hj
    have hz : (at_.zip pick).drop j = (rd at_ j, rd pick j) :: (at_.zip pick).drop (j + 1) := by
      rw [drop_zip, drop_zip, rd_drop at_ j (by omega), rd_drop pick j (by omega)]
      rfl
    rw [hz, look_cons, show k + 2 * (d + 1) + 2 = (k + 2 * d + 2) + 1 + 1 by omega, keepsakeref08_Cells.l1, if_pos (by omega), decide_eq_true (by omega), keepsakeref08_Cells.j2, if_pos rfl, if_pos (by omega), if_pos (by omega),
      show wrap64 ((j : Int) + 1) = ((j + 1 : Nat) : Int) by rw [w64 _ (by omega) (by omega)]; omega]
    by_cases e : rd at_ j = i
    · rw [if_pos e, if_pos e, if_pos (by omega), ih k (j + 1) _ (by omega)]
    · rw [if_neg e, if_neg e, ih k (j + 1) _ (by omega)]
theorem ref_l0 (o at_ pick : List Int) (ho : o.length ≤ 200) (ha : at_.length ≤ 200) (d : Nat) : ∀ (k i : Nat) (out : List Int), i + d = o.length → out.length ≤ i →
    keepsakeref08_Cells.l0 (k + d * (2 * min at_.length pick.length + 3) + 1) o at_ pick out i = some (out ++ (List.range' i d).map fun i : Nat => look i (rd o i) (at_.zip pick)) := by
  induction d with
  | zero =>
    intro k i out hi hout
    rw [keepsakeref08_Cells.l0, if_neg (by omega)]
    simp
  | succ d ih =>
    intro k i out hi hout
    have hk : k + (d + 1) * (2 * min at_.length pick.length + 3) + 1 = ((k + d * (2 * min at_.length pick.length + 3) + 1) + 2 * min at_.length pick.length + 2) + 1 := by rw [Nat.add_mul, Nat.one_mul]; omega
    rw [hk, keepsakeref08_Cells.l0, if_pos (by omega), if_pos (by omega), show (0 : Int) = ((0 : Nat) : Int) from rfl, ref_l1 o at_ pick ha out i (by omega) (by omega) _ _ 0 _ (by omega), ih _ (i + 1) _ (by omega) (by simp; omega)]
    simp [List.range'_succ]
theorem ref_f (o at_ pick : List Int) (ho : o.length ≤ 200) (ha : at_.length ≤ 200) (k : Nat) (hk : 100000 ≤ k) : keepsakeref08_Cells.f k o at_ pick = some (cells o at_ pick) := by
  have hb : o.length * (2 * min at_.length pick.length + 3) ≤ 200 * 403 := Nat.mul_le_mul ho (by omega)
  obtain ⟨k0, rfl⟩ : ∃ k0, k = k0 + o.length * (2 * min at_.length pick.length + 3) + 1 := ⟨k - (o.length * (2 * min at_.length pick.length + 3) + 1), by omega⟩
  unfold keepsakeref08_Cells.f
  have h := ref_l0 o at_ pick ho ha o.length k0 0 [] (by omega) (Nat.le_refl _)
  rw [show ((0 : Nat) : Int) = 0 from rfl] at h
  rw [h, cells_left, List.nil_append, left, List.range_eq_range']
/-! ### where two are apart -/
def eqAt (a b : List Int) (i : Nat) : Bool := decide (i < a.length ∧ i < b.length ∧ rd a i = rd b i)
def apart (a b : List Int) : List Int := ((List.range (max a.length b.length)).filter fun i => !eqAt a b i).map fun i : Nat => (i : Int)
theorem apart_l0 (a b : List Int) (ha : a.length ≤ 100000) (hb : b.length ≤ 100000) (d : Nat) : ∀ (k i : Nat) (out : List Int), i + d = max a.length b.length → d + 1 ≤ k → out.length ≤ i →
    cut_Apart.l0 k a b (min a.length b.length : Nat) out (max a.length b.length : Nat) i = some (out ++ ((List.range' i d).filter fun i => !eqAt a b i).map fun i : Nat => (i : Int)) := by
  induction d with
  | zero =>
    intro k i out hi hk hout
    obtain ⟨k, rfl⟩ : ∃ m, k = m + 1 := ⟨k - 1, by omega⟩
    rw [cut_Apart.l0, if_neg (by omega)]
    simp
  | succ d ih =>
    intro k i out hi hk hout
    obtain ⟨k, rfl⟩ : ∃ m, k = m + 1 := ⟨k - 1, by omega⟩
    rw [cut_Apart.l0, if_pos (by omega), show wrap64 ((i : Int) + 1) = ((i + 1 : Nat) : Int) by rw [w64 _ (by omega) (by omega)]; omega, List.range'_succ]
    by_cases h1 : min a.length b.length ≤ i
    · have e : eqAt a b i = false := by unfold eqAt; rw [decide_eq_false]; omega
      rw [if_pos (by omega), if_pos (by omega), ih k (i + 1) _ (by omega) (by omega) (by simp; omega)]
      simp [e]
    · rw [if_neg (by omega), if_pos (by omega), if_pos (by omega), if_pos (by omega)]
      by_cases h2 : rd a i = rd b i
      · have e : eqAt a b i = true := by unfold eqAt; rw [decide_eq_true]; exact ⟨by omega, by omega, h2⟩
        rw [if_pos h2, ih k (i + 1) _ (by omega) (by omega) (by omega)]
        simp [e]
      · have e : eqAt a b i = false := by unfold eqAt; rw [decide_eq_false]; exact fun h => h2 h.2.2
        rw [if_neg h2, if_pos (by omega), ih k (i + 1) _ (by omega) (by omega) (by simp; omega)]
        simp [e]
theorem mx_nat (a b : Nat) : mx (a : Int) (b : Int) = ((max a b : Nat) : Int) := by unfold mx; omega
theorem mn_nat (a b : Nat) : mn (a : Int) (b : Int) = ((min a b : Nat) : Int) := by unfold mn; omega
theorem apart_f (a b : List Int) (ha : a.length ≤ 100000) (hb : b.length ≤ 100000) (k : Nat) (hk : max a.length b.length + 1 ≤ k) : cut_Apart.f k a b = some (apart a b) := by
  unfold cut_Apart.f
  rw [mx_nat, mn_nat, show (0 : Int) = ((0 : Nat) : Int) from rfl, apart_l0 a b ha hb (max a.length b.length) k 0 [] (by omega) hk (Nat.le_refl _), List.nil_append, apart, List.range_eq_range']
theorem refApart_l0 (a b : List Int) (ha : a.length ≤ 100000) (hb : b.length ≤ 100000) (d : Nat) : ∀ (k i : Nat) (out : List Int), i + d = max a.length b.length → 3 * d + 3 ≤ k → out.length ≤ i →
    keepsakeref08_Apart.l0 k a b out i = some (out ++ ((List.range' i d).filter fun i => !eqAt a b i).map fun i : Nat => (i : Int)) := by
  induction d with
  | zero =>
    intro k i out hi hk hout
    obtain ⟨k, rfl⟩ : ∃ m, k = m + 1 + 1 := ⟨k - 2, by omega⟩
    rw [keepsakeref08_Apart.l0, if_neg (by omega), decide_eq_false (by omega), keepsakeref08_Apart.j1, if_neg (by decide)]
    simp
  | succ d ih =>
    intro k i out hi hk hout
    obtain ⟨k, rfl⟩ : ∃ m, k = m + 1 + 1 + 1 := ⟨k - 3, by omega⟩
    have hw : wrap64 ((i : Int) + 1) = ((i + 1 : Nat) : Int) := by rw [w64 _ (by omega) (by omega)]; omega
    have e0 : keepsakeref08_Apart.l0 (k + 1 + 1 + 1) a b out i = keepsakeref08_Apart.j1 (k + 1 + 1) a b out i true := by
      rw [keepsakeref08_Apart.l0]
      by_cases h : (i : Int) < (a.length : Int)
      · rw [if_pos h]
      · rw [if_neg h, decide_eq_true (by omega)]
    rw [e0, keepsakeref08_Apart.j1, if_pos rfl, List.range'_succ]
    by_cases h1 : min a.length b.length ≤ i
    · have e : eqAt a b i = false := by unfold eqAt; rw [decide_eq_false]; omega
      have e1 : (if (i : Int) ≥ (a.length : Int) then keepsakeref08_Apart.j2 (k + 1) a b out i true else keepsakeref08_Apart.j2 (k + 1) a b out i (decide ((i : Int) ≥ (b.length : Int)))) = keepsakeref08_Apart.j2 (k + 1) a b out i true := by
        by_cases h : (i : Int) ≥ (a.length : Int)
        · rw [if_pos h]
        · rw [if_neg h, decide_eq_true (by omega)]
      rw [e1, keepsakeref08_Apart.j2, if_pos rfl, if_pos (by omega), hw, ih k (i + 1) _ (by omega) (by omega) (by simp; omega)]
      simp [e]
    · rw [if_neg (by omega), decide_eq_false (by omega), keepsakeref08_Apart.j2, if_neg (by decide), if_pos (by omega), if_pos (by omega), if_pos (by omega), hw]
      by_cases h2 : rd a i = rd b i
      · have e : eqAt a b i = true := by unfold eqAt; rw [decide_eq_true]; exact ⟨by omega, by omega, h2⟩
        rw [if_pos h2, ih k (i + 1) _ (by omega) (by omega) (by omega)]
        simp [e]
      · have e : eqAt a b i = false := by unfold eqAt; rw [decide_eq_false]; exact fun h => h2 h.2.2
        rw [if_neg h2, if_pos (by omega), ih k (i + 1) _ (by omega) (by omega) (by simp; omega)]
        simp [e]
theorem refApart_f (a b : List Int) (ha : a.length ≤ 100000) (hb : b.length ≤ 100000) (k : Nat) (hk : 3 * max a.length b.length + 3 ≤ k) : keepsakeref08_Apart.f k a b = some (apart a b) := by
  unfold keepsakeref08_Apart.f
  rw [show (0 : Int) = ((0 : Nat) : Int) from rfl, refApart_l0 a b ha hb (max a.length b.length) k 0 [] (by omega) hk (Nat.le_refl _), List.nil_append, apart, List.range_eq_range']
theorem apart_len (a b : List Int) : (apart a b).length ≤ max a.length b.length := by
  unfold apart
  rw [List.length_map]
  exact Nat.le_trans (List.length_filter_le _ _) (by simp)
theorem Cells_f (o at_ pick : List Int) (ho : o.length ≤ 100000) (ha : at_.length ≤ 100000) : cut_Cells.f o at_ pick = some (cells o at_ pick) := by unfold cut_Cells.f; rw [if_pos (by omega)]
theorem Range_f (o : List Int) (a m : Int) (pick : List Int) (ho : o.length ≤ 100000) (hm : m ≤ 9223372036854775807) : cut_Range.f o a m pick = some (cells o (Given.rowAt a m.toNat) pick) := by unfold cut_Range.f; rw [if_pos (by omega)]

end Go.Proofs.Ytlmbfnnjhpehiaa.Cut
