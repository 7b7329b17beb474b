/- What is left of a row of bytes, and where two are apart: plain. -/
import Derived.Test.YtpkgpcolngoicaaAx3
import Derived.Test.YtpkgpcolngoicaaLFlashPrograms
import Derived.Test.YtpkgpcolngoicaaSame
set_option linter.unusedVariables false
set_option linter.unusedSimpArgs false
namespace Go.Proofs.Ytpkgpcolngoicaa.Cut
open Go.RowKit Go.Proofs.Ytpkgpcolngoicaa.All Go.Proofs.Ytpkgpcolngoicaa.Given Go.Proofs.YtpkgpcolngoicaaW.PrintWords Go.Proofs.YtpkgpcolngoicaaW.PrintLast Go.Proofs.YtpkgpcolngoicaaW.PrintMore

theorem w64 (n : Int) (h0 : -9223372036854775808 ≤ n) (h1 : n ≤ 9223372036854775807) : wrap64 n = n := by unfold wrap64; omega
def Bytes (l : List Int) : Prop := ∀ x ∈ l, 0 ≤ x ∧ x ≤ 255
theorem rd_nat (l : List Int) (i : Nat) (hi : i < l.length) : rd l i = l[i] := Same.rd_nat l i hi
theorem rd_byte {l : List Int} (h : Bytes l) (i : Nat) (hi : i < l.length) : 0 ≤ rd l i ∧ rd l i ≤ 255 := by rw [rd_nat l i hi]; exact h _ (List.getElem_mem hi)
/-- What a place is left with. -/
def look (i : Int) (x : Int) (l : List (Int × Int)) : Int := l.foldl (fun x q => if q.1 = i then q.2 else x) x
theorem look_cons (i x : Int) (q : Int × Int) (l : List (Int × Int)) : look i x (q :: l) = look i (if q.1 = i then q.2 else x) l := rfl
theorem look_nil (i x : Int) : look i x [] = x := rfl
theorem put_at (o : List Int) (q : Int × Int) (i : Nat) (hi : i < o.length) : rd (put o q) i = if q.1 = i then q.2 else rd o i := by
  by_cases h : 0 ≤ q.1 ∧ q.1 < o.length
  · have e0 : put o q = o.set q.1.toNat q.2 := by unfold put; rw [if_pos h]
    rw [e0, rd_nat _ i (by rw [List.length_set]; exact hi), rd_nat o i hi, List.getElem_set]
    by_cases e : q.1 = i
    · rw [if_pos (by omega), if_pos e]
    · rw [if_neg (by omega), if_neg e]
  · have e0 : put o q = o := by unfold put; rw [if_neg h]
    rw [e0, if_neg (by omega)]
theorem fold_at (l : List (Int × Int)) (i : Nat) : ∀ (o : List Int), i < o.length → rd (l.foldl put o) i = look i (rd o i) l := by
  induction l with
  | nil => intro o _; rfl
  | cons q l ih =>
    intro o hi
    rw [List.foldl_cons, ih _ (by rw [put_len]; exact hi), put_at o q i hi]
    rfl
theorem cells_at (o at_ pick : List Int) (i : Nat) (hi : i < o.length) : rd (cells o at_ pick) i = look i (rd o i) (at_.zip pick) := fold_at _ i o hi
theorem list_eq {a b : List Int} (hl : a.length = b.length) (h : ∀ i : Nat, i < a.length → rd a i = rd b i) : a = b := by
  apply List.ext_getElem hl
  intro i h1 h2
  have := h i h1
  rwa [rd_nat a i h1, rd_nat b i h2] at this
theorem look_out (i x : Int) (l : List (Int × Int)) (h : ∀ q ∈ l, q.1 ≠ i) : look i x l = x := by
  induction l generalizing x with
  | nil => rfl
  | cons q l ih => rw [look_cons, if_neg (h q List.mem_cons_self), ih _ (fun q hq => h q (List.mem_cons_of_mem _ hq))]
theorem look_twice (i x : Int) (l : List (Int × Int)) : look i (look i x l) l = look i x l := by
  have key : ∀ l : List (Int × Int), (∀ x y, look i x l = look i y l) ∨ (∀ x, look i x l = x) := by
    intro l
    induction l with
    | nil => exact .inr fun x => rfl
    | cons q l ih =>
      rcases ih with h | h
      · exact .inl fun x y => h _ _
      · by_cases e : q.1 = i
        · exact .inl fun x y => by rw [look_cons, look_cons, if_pos e, if_pos e]
        · exact .inr fun x => by rw [look_cons, if_neg e, h]
  rcases key l with h | h
  · exact h _ _
  · rw [h, h]
theorem mem_zip_fst {a b : List Int} {q : Int × Int} (h : q ∈ a.zip b) : q.1 ∈ a := (List.of_mem_zip (a := q.1) (b := q.2) h).1
def eqAt (a b : List Int) (i : Nat) : Bool := decide (i < a.length ∧ i < b.length ∧ rd a i = rd b i)
def apart (a b : List Int) : List Int := ((List.range (max a.length b.length)).filter fun i => !eqAt a b i).map fun i : Nat => (i : Int)
theorem apart_l0 (a b : List Int) (ha : a.length ≤ 100000) (hb : b.length ≤ 100000) (d : Nat) : ∀ (k i : Nat) (out : List Int), i + d = max a.length b.length → d + 1 ≤ k → out.length ≤ i →
    cut_Apart.l0 k a b (min a.length b.length : Nat) out (max a.length b.length : Nat) i = some (out ++ ((List.range' i d).filter fun i => !eqAt a b i).map fun i : Nat => (i : Int)) := by
  induction d with
  | zero =>
    intro k i out hi hk hout
    obtain ⟨k, rfl⟩ : ∃ m, k = m + 1 := ⟨k - 1, by omega⟩
    rw [cut_Apart.l0, if_neg (by omega)]
    simp
  | succ d ih =>
    intro k i out hi hk hout
    obtain ⟨k, rfl⟩ : ∃ m, k = m + 1 := ⟨k - 1, by omega⟩
    rw [cut_Apart.l0, if_pos (by omega), show wrap64 ((i : Int) + 1) = ((i + 1 : Nat) : Int) by rw [w64 _ (by omega) (by omega)]; omega, List.range'_succ]
    by_cases h1 : min a.length b.length ≤ i
    · have e : eqAt a b i = false := by unfold eqAt; rw [decide_eq_false]; omega
      rw [if_pos (by omega), if_pos (by omega), ih k (i + 1) _ (by omega) (by omega) (by simp; omega)]
      simp [e]
    · rw [if_neg (by omega), if_pos (by omega), if_pos (by omega), if_pos (by omega)]
      by_cases h2 : rd a i = rd b i
      · have e : eqAt a b i = true := by unfold eqAt; rw [decide_eq_true]; exact ⟨by omega, by omega, h2⟩
        rw [if_pos h2, ih k (i + 1) _ (by omega) (by omega) (by omega)]
        simp [e]
      · have e : eqAt a b i = false := by unfold eqAt; rw [decide_eq_false]; exact fun h => h2 h.2.2
        rw [if_neg h2, if_pos (by omega), ih k (i + 1) _ (by omega) (by omega) (by simp; omega)]
        simp [e]
theorem mx_nat (a b : Nat) : Go.Proofs.YtpkgpcolngoicaaW.PrintWords.mx (a : Int) (b : Int) = ((max a b : Nat) : Int) := by unfold Go.Proofs.YtpkgpcolngoicaaW.PrintWords.mx; omega
theorem mn_nat (a b : Nat) : mn (a : Int) (b : Int) = ((min a b : Nat) : Int) := by unfold mn; omega
theorem apart_f (a b : List Int) (ha : a.length ≤ 100000) (hb : b.length ≤ 100000) (k : Nat) (hk : max a.length b.length + 1 ≤ k) : cut_Apart.f k a b = some (apart a b) := by
  unfold cut_Apart.f
  rw [mx_nat, mn_nat, show (0 : Int) = ((0 : Nat) : Int) from rfl, apart_l0 a b ha hb (max a.length b.length) k 0 [] (by omega) hk (Nat.le_refl _), List.nil_append, apart, List.range_eq_range']
theorem apart_len (a b : List Int) : (apart a b).length ≤ max a.length b.length := by
  unfold apart
  rw [List.length_map]
  exact Nat.le_trans (List.length_filter_le _ _) (by simp)
theorem Cells_f (o at_ pick : List Int) (ho : o.length ≤ 100000) (ha : at_.length ≤ 100000) : cut_Cells.f o at_ pick = some (cells o at_ pick) := by unfold cut_Cells.f; rw [if_pos (by omega)]
theorem Range_f (o : List Int) (a m : Int) (pick : List Int) (ho : o.length ≤ 100000) (hm : m ≤ 9223372036854775807) : cut_Range.f o a m pick = some (cells o (Given.rowAt a m.toNat) pick) := by unfold cut_Range.f; rw [if_pos (by omega)]

theorem and_nat (x y : Nat) (hx : x ≤ 255) (hy : y ≤ 255) : Go.bits .and .u8 (x : Int) (y : Int) = ((x &&& y : Nat) : Int) := by
  show IntKind.u8.wrap _ = _
  rw [IntKind.wrap_u8]
  show (((BitVec.ofInt 8 (x : Int) &&& BitVec.ofInt 8 (y : Int)).toNat : Int)) % 256 = _
  rw [BitVec.toNat_and, BitVec.toNat_ofInt, BitVec.toNat_ofInt]
  have h1 : ((x : Int) % ((2 ^ 8 : Nat) : Int)).toNat = x := by omega
  have h2 : ((y : Int) % ((2 ^ 8 : Nat) : Int)).toNat = y := by omega
  rw [h1, h2]
  have : x &&& y ≤ x := Nat.and_le_left
  omega
theorem byte_nat {x : Int} (h0 : 0 ≤ x) (h1 : x ≤ 255) : ∃ n : Nat, x = n ∧ n ≤ 255 := ⟨x.toNat, by omega, by omega⟩
theorem and_byte {x y : Int} (hx : 0 ≤ x ∧ x ≤ 255) (hy : 0 ≤ y ∧ y ≤ 255) : 0 ≤ Go.bits .and .u8 x y ∧ Go.bits .and .u8 x y ≤ 255 := by
  obtain ⟨a, rfl, ha⟩ := byte_nat hx.1 hx.2
  obtain ⟨b, rfl, hb⟩ := byte_nat hy.1 hy.2
  rw [and_nat a b ha hb]
  have : a &&& b ≤ a := Nat.and_le_left
  omega
theorem and_self {x : Int} (hx : 0 ≤ x ∧ x ≤ 255) : Go.bits .and .u8 x x = x := by
  obtain ⟨a, rfl, ha⟩ := byte_nat hx.1 hx.2
  rw [and_nat a a ha ha, Nat.and_self]
theorem and_left {x y : Int} (hx : 0 ≤ x ∧ x ≤ 255) (hy : 0 ≤ y ∧ y ≤ 255) : Go.bits .and .u8 (Go.bits .and .u8 x y) x = Go.bits .and .u8 x y := by
  obtain ⟨a, rfl, ha⟩ := byte_nat hx.1 hx.2
  obtain ⟨b, rfl, hb⟩ := byte_nat hy.1 hy.2
  have : a &&& b ≤ a := Nat.and_le_left
  rw [and_nat a b ha hb, and_nat _ a (by omega) ha]
  congr 1
  rw [Nat.and_assoc, Nat.and_comm b a, ← Nat.and_assoc, Nat.and_self]
theorem and_right {x y : Int} (hx : 0 ≤ x ∧ x ≤ 255) (hy : 0 ≤ y ∧ y ≤ 255) : Go.bits .and .u8 (Go.bits .and .u8 x y) y = Go.bits .and .u8 x y := by
  obtain ⟨a, rfl, ha⟩ := byte_nat hx.1 hx.2
  obtain ⟨b, rfl, hb⟩ := byte_nat hy.1 hy.2
  have : a &&& b ≤ a := Nat.and_le_left
  rw [and_nat a b ha hb, and_nat _ b (by omega) hb]
  congr 1
  rw [Nat.and_assoc, Nat.and_self]
theorem and_full {x : Int} (hx : 0 ≤ x ∧ x ≤ 255) : Go.bits .and .u8 x 255 = x := by
  obtain ⟨a, rfl, ha⟩ := byte_nat hx.1 hx.2
  have h := and_nat a 255 ha (by omega)
  rw [show ((255 : Nat) : Int) = 255 from rfl] at h
  rw [h]
  congr 1
  have := Nat.and_two_pow_sub_one_eq_mod a 8
  rw [show 2 ^ 8 - 1 = 255 from rfl] at this
  rw [this]
  omega
/-- One place loses bits. -/
def prog (o : List Int) (a x : Int) : List Int := if 0 ≤ a ∧ a < o.length then o.set a.toNat (Go.bits .and .u8 (rd o a) x) else o
theorem prog_len (o : List Int) (a x : Int) : (prog o a x).length = o.length := by unfold prog; split <;> simp
theorem prog_at (o : List Int) (a x : Int) (i : Nat) (hi : i < o.length) : rd (prog o a x) i = if (i : Int) = a then Go.bits .and .u8 (rd o i) x else rd o i := by
  by_cases h : 0 ≤ a ∧ a < o.length
  · have e0 : prog o a x = o.set a.toNat (Go.bits .and .u8 (rd o a) x) := by unfold prog; rw [if_pos h]
    rw [e0, rd_nat _ i (by rw [List.length_set]; exact hi), List.getElem_set]
    by_cases e : (i : Int) = a
    · rw [if_pos (by omega), if_pos e, e]
    · rw [if_neg (by omega), if_neg e, rd_nat o i hi]
  · have e0 : prog o a x = o := by unfold prog; rw [if_neg h]
    rw [e0, if_neg (by omega)]
theorem prog_bytes {o : List Int} (h : Bytes o) (a x : Int) (hx : 0 ≤ x ∧ x ≤ 255) : Bytes (prog o a x) := by
  intro y hy
  obtain ⟨i, hi, rfl⟩ := List.getElem_of_mem hy
  rw [prog_len] at hi
  rw [← rd_nat (prog o a x) i (by rw [prog_len]; exact hi), prog_at o a x i hi]
  split
  · exact and_byte (rd_byte h i hi) hx
  · exact rd_byte h i hi
theorem prog_f (o : List Int) (a x : Int) (ho : o.length ≤ 100000) (k : Nat) : cut_Program.f (k + 1) o a x = some (prog o a x) := by
  unfold cut_Program.f
  have hc : slices_Clone_byte_byte.f o = some o := by unfold slices_Clone_byte_byte.f; rw [if_pos (by omega)]
  by_cases h : 0 ≤ a ∧ a < o.length
  · have e0 : prog o a x = o.set a.toNat (Go.bits .and .u8 (rd o a) x) := by unfold prog; rw [if_pos h]
    rw [if_neg (by omega), decide_eq_false (by omega), cut_Program.j0, if_neg (by decide), if_pos (by omega), if_pos (by omega), Cells_f o _ _ ho (by simp), Option.bind_some, e0]
    have : cells o [a] [Go.bits .and .u8 (rd o a) x] = put o (a, Go.bits .and .u8 (rd o a) x) := rfl
    rw [this, put, if_pos h]
  · have e0 : prog o a x = o := by unfold prog; rw [if_neg h]
    have yes : cut_Program.j0 (k + 1) o a x true = some o := by rw [cut_Program.j0, if_pos rfl, hc, Option.bind_some]
    rw [e0]
    by_cases h1 : a < 0
    · rw [if_pos h1, yes]
    · rw [if_neg h1, decide_eq_true (by omega), yes]

end Go.Proofs.Ytpkgpcolngoicaa.Cut
