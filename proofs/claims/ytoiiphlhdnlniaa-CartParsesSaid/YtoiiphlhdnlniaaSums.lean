/- What the printed sums compute, in plain words: a fold of steps over the bytes. -/
import Derived.Test.YtoiiphlhdnlniaaAx2
import Derived.Test.YtoiiphlhdnlniaaIv
set_option linter.unusedVariables false
set_option linter.unusedSimpArgs false
namespace Go.Proofs.Ytoiiphlhdnlniaa.Sums
open Go.RowKit Go.Proofs.YtoiiphlhdnlniaaW.PrintWords Go.Proofs.YtoiiphlhdnlniaaW.PrintLast Go.Proofs.YtoiiphlhdnlniaaW.PrintMore Go.Proofs.Ytoiiphlhdnlniaa.All Go.Proofs.Ytoiiphlhdnlniaa.Given Go.Proofs.Ytoiiphlhdnlniaa.Math

theorem w64 (n : Int) (h0 : -9223372036854775808 ≤ n) (h1 : n ≤ 9223372036854775807) : wrap64 n = n := by unfold wrap64; omega
/-- A byte goes in. -/
def upd (s : W) (x : Int) : W := Tn 8 (s ^^^ bv x)
def fold (s : W) (l : List Int) : W := l.foldl upd s
theorem fold_nil (s : W) : fold s [] = s := rfl
theorem fold_cons (s : W) (x : Int) (l : List Int) : fold s (x :: l) = fold (upd s x) l := rfl
theorem fold_append (s : W) (l m : List Int) : fold s (l ++ m) = fold (fold s l) m := List.foldl_append ..
theorem upd_xor (s t : W) (x y : Int) : upd s x ^^^ upd t y = Tn 8 ((s ^^^ t) ^^^ (bv x ^^^ bv y)) := by
  unfold upd
  rw [← Tn_xor]
  congr 1
  exact xor4 _ _ _ _
/-- The bytes' own part. -/
theorem fold_lin (l : List Int) : ∀ s t, fold (s ^^^ t) l = Tn (8 * l.length) s ^^^ fold t l := by
  induction l with
  | nil => intro s t; rfl
  | cons x l ih =>
    intro s t
    rw [fold_cons, fold_cons]
    have e : upd (s ^^^ t) x = Tn 8 s ^^^ upd t x := by
      unfold upd; rw [← Tn_xor]; congr 1; ac_rfl
    rw [e, ih, ← Tn_add]
    congr 2
    simp only [List.length_cons]; omega
theorem fold_zero (l : List Int) (s : W) : fold s l = Tn (8 * l.length) s ^^^ fold 0#32 l := by
  have := fold_lin l s 0#32
  simpa using this

/-- All is a byte. -/
def Bytes (l : List Int) : Prop := ∀ x ∈ l, 0 ≤ x ∧ x ≤ 255
theorem bytes_of_wf {l : List Int} (h : ∀ x ∈ l, (Lit.int .u8 x).wf = true) : Bytes l := fun x hx => by
  have := h x hx
  simp [Lit.wf, IntKind.min, IntKind.max, IntKind.signed, IntKind.bits] at this
  omega
theorem rd_byte {l : List Int} (h : Bytes l) (i : Nat) (hi : i < l.length) : 0 ≤ rd l i ∧ rd l i ≤ 255 := by
  unfold rd
  rw [Int.toNat_natCast, List.getD_eq_getElem?_getD, List.getElem?_eq_getElem hi]
  exact h _ (List.getElem_mem _)
theorem rd_drop (l : List Int) (i : Nat) (hi : i < l.length) : l.drop i = rd l i :: l.drop (i + 1) := by
  unfold rd
  rw [Int.toNat_natCast, List.getD_eq_getElem?_getD, List.getElem?_eq_getElem hi]
  exact List.drop_eq_getElem_cons hi

theorem l1_succ (k : Nat) (s : Int) (l : List Int) (n i x : Int) (hx : x < 8) : crc_More.l1 (k + 1) s l n i x = (crc_times.f s).bind fun t => crc_More.l1 k t l n i (wrap64 (x + 1)) := by
  rw [crc_More.l1, if_pos hx]
theorem l1_end (k : Nat) (s : Int) (l : List Int) (n i x : Int) (hx : ¬ x < 8) : crc_More.l1 (k + 1) s l n i x = crc_More.l0 k s l n (wrap64 (i + 1)) := by
  rw [crc_More.l1, if_neg hx]
theorem more_l1 (l : List Int) (n : Int) (i : Int) (d : Nat) : ∀ (k : Nat) (s : W), d ≤ 8 →
    crc_More.l1 (k + d + 1) (iv s) l n i ((8 - d : Nat) : Int) = crc_More.l0 k (iv (Tn d s)) l n (wrap64 (i + 1)) := by
  induction d with
  | zero =>
    intro k s _
    rw [l1_end _ _ _ _ _ _ (by omega)]
    simp only [Tn, Nat.add_zero]
  | succ d ih =>
    intro k s hd
    rw [show k + (d + 1) + 1 = (k + d + 1) + 1 from by omega, l1_succ _ _ _ _ _ _ (by omega), times_iv, Option.bind_some, w64 _ (by omega) (by omega), show ((8 - (d + 1) : Nat) : Int) + 1 = ((8 - d : Nat) : Int) from by omega, ih k (T s) (by omega), Tn]
theorem byte_iv (s : W) (x : Int) (h0 : 0 ≤ x) (h1 : x ≤ 255) : Go.bits .xor .u32 (iv s) (x % 4294967296) = iv (s ^^^ bv x) := by
  rw [bits_xor, bv_iv, show x % 4294967296 = x from by omega]
theorem not_iv (s : W) : Go.bits .xor .u32 4294967295 (iv s) = iv (~~~ s) := by
  rw [show (4294967295 : Int) = iv (BitVec.allOnes 32) from rfl, xor_iv, BitVec.allOnes_xor]
theorem more_l0 (l : List Int) (hb : Bytes l) (hl : l.length ≤ 9223372036854775806) (d : Nat) : ∀ (k i : Nat) (s : W), l.length = i + d → 10 * d + 1 ≤ k →
    crc_More.l0 k (iv s) l l.length i = some (iv (~~~ (fold s (l.drop i)))) := by
  induction d with
  | zero =>
    intro k i s hi hk
    obtain ⟨k, rfl⟩ : ∃ m, k = m + 1 := ⟨k - 1, by omega⟩
    simp only [crc_More.l0]
    rw [if_neg (by omega), not_iv, List.drop_of_length_le (by omega)]
    rfl
  | succ d ih =>
    intro k i s hi hk
    obtain ⟨k, rfl⟩ : ∃ m, k = m + 8 + 1 + 1 := ⟨k - 10, by omega⟩
    have hlt : i < l.length := by omega
    obtain ⟨h0, h1⟩ := rd_byte hb i hlt
    simp only [crc_More.l0]
    rw [if_pos (by omega), if_pos (by omega), if_pos (by omega), byte_iv _ _ h0 h1]
    have := more_l1 l l.length i 8 k (s ^^^ bv (rd l i)) (by omega)
    simp only [Nat.sub_self] at this
    rw [show ((0 : Nat) : Int) = 0 from rfl] at this
    rw [this, w64 _ (by omega) (by omega), show ((i : Int) + 1) = ((i + 1 : Nat) : Int) from by omega, ih k (i + 1) _ (by omega) (by omega), rd_drop l i hlt, fold_cons]
    rfl
theorem more_f (s : W) (l : List Int) (hb : Bytes l) (hl : l.length ≤ 9223372036854775806) (k : Nat) (hk : 10 * l.length + 1 ≤ k) :
    crc_More.f k (iv s) l = some (iv (~~~ (fold (~~~ s) l))) := by
  unfold crc_More.f
  rw [not_iv]
  have := more_l0 l hb hl l.length k 0 (~~~ s) (by omega) hk
  simpa using this
/-- A text's sum. -/
def crc (l : List Int) : W := ~~~ (fold (~~~ 0#32) l)
theorem sum_f (l : List Int) (hb : Bytes l) (hl : l.length ≤ 9223372036854775806) (k : Nat) (hk : 10 * l.length + 1 ≤ k) : crc_Sum.f k l = some (iv (crc l)) := by
  unfold crc_Sum.f
  rw [show (0 : Int) = iv 0#32 from rfl, more_f 0#32 l hb hl k hk]
  rfl
theorem of_u32 {a : Int} (h : (Lit.int .u32 a).wf = true) : ∃ b, a = iv b := by
  simp [Lit.wf, IntKind.min, IntKind.max, IntKind.signed, IntKind.bits] at h
  exact of_iv a (by omega) (by omega)
theorem u8_bd {a : Int} (h : (Lit.int .u8 a).wf = true) : 0 ≤ a ∧ a ≤ 255 := by
  simp [Lit.wf, IntKind.min, IntKind.max, IntKind.signed, IntKind.bits] at h
  omega
theorem u16_bd {a : Int} (h : (Lit.int .u16 a).wf = true) : 0 ≤ a ∧ a ≤ 65535 := by
  simp [Lit.wf, IntKind.min, IntKind.max, IntKind.signed, IntKind.bits] at h
  omega
theorem u64_bd {a : Int} (h : (Lit.int .u64 a).wf = true) : 0 ≤ a ∧ a ≤ 18446744073709551615 := by
  simp [Lit.wf, IntKind.min, IntKind.max, IntKind.signed, IntKind.bits] at h
  omega
end Go.Proofs.Ytoiiphlhdnlniaa.Sums
