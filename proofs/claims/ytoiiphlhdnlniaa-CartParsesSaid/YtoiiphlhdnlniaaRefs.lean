/- What the document's answers compute: bits that are divided, one by one. -/
import Derived.Test.YtoiiphlhdnlniaaAx3
import Derived.Test.YtoiiphlhdnlniaaAx4
import Derived.Test.YtoiiphlhdnlniaaSums
set_option linter.unusedVariables false
set_option linter.unusedSimpArgs false
namespace Go.Proofs.Ytoiiphlhdnlniaa.Refs
open Go.RowKit Go.Proofs.Ytoiiphlhdnlniaa.All Go.Proofs.Ytoiiphlhdnlniaa.Given Go.Proofs.Ytoiiphlhdnlniaa.Sums Go.Proofs.Ytoiiphlhdnlniaa.Math Go.Proofs.YtoiiphlhdnlniaaW.PrintWords Go.Proofs.YtoiiphlhdnlniaaW.PrintLast

/-! ### words out of bits -/
def bit (b : Bool) : W := if b then 1#32 else 0#32
/-- The first 32 bits as a word, the first one the lowest. -/
def ofBits : List Bool → W
  | [] => 0#32
  | b :: l => bit b ^^^ (ofBits l <<< 1)
theorem bit_get (b : Bool) (i : Nat) : (bit b).getLsbD i = (b && decide (i = 0)) := by
  cases b
  · simp [bit]
  · by_cases h : i = 0 <;> simp [bit, h]
theorem ofBits_get (l : List Bool) : ∀ i, i < 32 → (ofBits l).getLsbD i = l.getD i false := by
  induction l with
  | nil => intro i hi; simp [ofBits]
  | cons b l ih =>
    intro i hi
    rw [ofBits, BitVec.getLsbD_xor, bit_get, BitVec.getLsbD_shiftLeft]
    cases i with
    | zero => simp
    | succ i =>
      simp only [Nat.add_sub_cancel, List.getD_cons_succ]
      rw [ih i (by omega)]
      simp [hi]
theorem ofBits_take (l : List Bool) : ofBits (l.take 32) = ofBits l := by
  apply BitVec.eq_of_getLsbD_eq
  intro i hi
  rw [ofBits_get _ i hi, ofBits_get _ i hi]
  simp only [List.getD_eq_getElem?_getD, List.getElem?_take, hi, if_true]

/-! ### the division, a bit at a time -/
/-- The word, then bits that come in behind it. -/
def run : W → List Bool → W
  | w, [] => w
  | w, b :: l => run (T w ^^^ (if b then one else 0#32)) l
/-- The sum's own way: a bit goes in at the low end. -/
def foldb : W → List Bool → W
  | s, [] => s
  | s, b :: l => foldb (T (s ^^^ bit b)) l
theorem foldb_append (l : List Bool) : ∀ (s : W) (m : List Bool), foldb s (l ++ m) = foldb (foldb s l) m := by
  induction l with
  | nil => intro s m; rfl
  | cons b l ih => intro s m; exact ih _ m
theorem T_bits (b : Bool) (l : List Bool) (h : 32 ≤ l.length) :
    T (ofBits (b :: l)) ^^^ (if l.getD 31 false then one else 0#32) = T (bit b) ^^^ ofBits l := by
  have e : T (bit b ^^^ ofBits l <<< 1) = T (bit b) ^^^ T (ofBits l <<< 1) := T_xor _ _
  rw [ofBits, e, BitVec.xor_assoc]
  congr 1
  apply BitVec.eq_of_getLsbD_eq
  intro i hi
  rw [BitVec.getLsbD_xor, T_bit _ i hi, BitVec.getLsbD_shiftLeft, BitVec.getLsbD_shiftLeft]
  rw [show (0 < 32 && !decide (0 < 1) && (ofBits l).getLsbD (0 - 1)) = false from by simp]
  rw [Bool.false_and, Bool.xor_false]
  by_cases h31 : i = 31
  · subst h31
    rw [ofBits_get l 31 (by omega)]
    cases l.getD 31 false <;> simp [one]
  · have e1 : (if l.getD 31 false then one else 0#32).getLsbD i = false := by
      cases l.getD 31 false
      · simp
      · rw [if_pos rfl, one_two, BitVec.getLsbD_twoPow]
        simp; omega
    rw [e1]
    simp; omega
theorem run_fold (l : List Bool) : ∀ (n : Nat) (s : W), l.length = n + 32 → run (s ^^^ ofBits l) (l.drop 32) = foldb s (l.take n) ^^^ ofBits (l.drop n) := by
  induction l with
  | nil => intro n s h; simp at h
  | cons b l ih =>
    intro n s h
    cases n with
    | zero =>
      have : (b :: l).drop 32 = [] := List.drop_of_length_le (by omega)
      rw [this]
      simp [run, foldb]
    | succ n =>
      simp only [List.length_cons] at h
      have hl : l.length = n + 32 := by omega
      have hd : (b :: l).drop 32 = l.getD 31 false :: l.drop 32 := by
        rw [List.drop_succ_cons, List.drop_eq_getElem_cons (show 31 < l.length by omega), List.getD_eq_getElem?_getD, List.getElem?_eq_getElem (show 31 < l.length by omega)]
        rfl
      rw [hd, run, T_xor, BitVec.xor_assoc, T_bits b l (by omega), ← BitVec.xor_assoc, ← T_xor, ih n _ hl, List.take_succ_cons, List.drop_succ_cons, foldb]
theorem run_zeros (n : Nat) : ∀ w, run w (List.replicate n false) = Tn n w := by
  induction n with
  | zero => intro w; rfl
  | succ n ih => intro w; simp only [List.replicate_succ, run, Bool.false_eq_true, if_false, BitVec.xor_zero, ih, Tn]

/-! ### a byte's bits -/
def bits : Nat → Int → List Bool
  | 0, _ => []
  | n + 1, x => (Int.tmod x 2 == 1) :: bits n (Int.tdiv x 2)
theorem bits_len (n : Nat) : ∀ x, (bits n x).length = n := by
  induction n with
  | zero => intro x; rfl
  | succ n ih => intro x; simp [bits, ih]
theorem bv_bit (x : Int) (h0 : 0 ≤ x) (h1 : x < 4294967296) : T (bv x) = T (bit (Int.tmod x 2 == 1)) ^^^ bv (Int.tdiv x 2) := by
  rw [Int.tmod_eq_emod_of_nonneg h0, Int.tdiv_eq_ediv_of_nonneg h0]
  have e : bv x = bit (x % 2 == 1) ^^^ (bv (x / 2) <<< 1) := by
    obtain ⟨n, rfl⟩ := Int.eq_ofNat_of_zero_le h0
    have h2 : ((n : Int) / 2) = ((n / 2 : Nat) : Int) := by omega
    have h3 : ((n : Int) % 2 == 1) = (n % 2 == 1) := by rw [Bool.eq_iff_iff]; simp; omega
    rw [h2, h3]
    have e4 : ∀ m : Nat, bv (m : Int) = BitVec.ofNat 32 m := fun m => by
      apply BitVec.eq_of_toNat_eq
      unfold bv
      rw [BitVec.toNat_ofInt, BitVec.toNat_ofNat]
      omega
    rw [e4, e4]
    apply BitVec.eq_of_getLsbD_eq
    intro i hi
    rw [BitVec.getLsbD_xor, bit_get, BitVec.getLsbD_shiftLeft, BitVec.getLsbD_ofNat, BitVec.getLsbD_ofNat]
    cases i with
    | zero =>
      simp [Nat.testBit_zero]
      rw [Bool.eq_iff_iff]; simp
    | succ i =>
      have h5 : i < 32 := by omega
      simp [hi, h5, Nat.testBit_succ]
  rw [e, T_xor]
  congr 1
  unfold T
  have h0 : (bv (x / 2) <<< 1).getLsbD 0 = false := by simp
  rw [h0]
  simp only [Bool.false_eq_true, if_false, BitVec.xor_zero]
  have h5 : (bv (x / 2)).toNat < 2147483648 := by
    unfold bv
    rw [BitVec.toNat_ofInt]
    omega
  apply BitVec.eq_of_toNat_eq
  rw [BitVec.toNat_ushiftRight, BitVec.toNat_shiftLeft, Nat.shiftLeft_eq, Nat.shiftRight_eq_div_pow]
  omega
theorem foldb_bits (n : Nat) : ∀ (s : W) (x : Int), 0 ≤ x → x < ((2 ^ n : Nat) : Int) → n ≤ 32 → foldb s (bits n x) = Tn n (s ^^^ bv x) := by
  induction n with
  | zero =>
    intro s x h0 h1 _
    obtain rfl : x = 0 := by simp at h1; omega
    simp [bits, foldb, Tn, bv]
  | succ n ih =>
    intro s x h0 h1 hn
    have h2 : x < 4294967296 := Int.lt_of_lt_of_le h1 (by
      have : (2 : Nat) ^ (n + 1) ≤ 2 ^ 32 := Nat.pow_le_pow_right (by omega) hn
      omega)
    have h3 : Int.tdiv x 2 = x / 2 := Int.tdiv_eq_ediv_of_nonneg h0
    rw [bits, foldb, ih _ _ (by omega) (by rw [h3]; rw [Nat.pow_succ] at h1; omega) (by omega), Tn, T_xor, T_xor, bv_bit x h0 h2, BitVec.xor_assoc]
def allBits (l : List Int) : List Bool := l.flatMap (bits 8)
theorem foldb_all (l : List Int) : ∀ s, Bytes l → foldb s (allBits l) = fold s l := by
  induction l with
  | nil => intro s _; rfl
  | cons x l ih =>
    intro s h
    have hx := h x (by simp)
    rw [allBits, List.flatMap_cons, foldb_append, foldb_bits 8 s x hx.1 (by omega) (by omega), fold_cons]
    exact ih _ (fun y hy => h y (by simp [hy]))
theorem allBits_len (l : List Int) : (allBits l).length = 8 * l.length := by
  induction l with
  | nil => rfl
  | cons x l ih => rw [allBits, List.flatMap_cons, List.length_append, bits_len]; unfold allBits at ih; rw [ih, List.length_cons]; omega

/-! ### the printed functions -/
theorem bits_l1 (l : List Int) (i : Int) (d : Nat) : ∀ (k : Nat) (acc : List Bool) (x : Int), d ≤ 8 → 0 ≤ x → x ≤ 255 → acc.length + d < 140737488355328 →
    keepsakeref01_Bits.l1 (k + d + 1) l acc i x ((8 - d : Nat) : Int) = keepsakeref01_Bits.l0 k l (acc ++ bits d x) (wrap64 (i + 1)) := by
  induction d with
  | zero =>
    intro k acc x _ _ _ _
    rw [Nat.add_zero, keepsakeref01_Bits.l1, if_neg (by omega)]
    simp [bits]
  | succ d ih =>
    intro k acc x hd h0 h1 ha
    have h3 : Int.tdiv x 2 = x / 2 := Int.tdiv_eq_ediv_of_nonneg h0
    rw [show k + (d + 1) + 1 = (k + d + 1) + 1 from by omega, keepsakeref01_Bits.l1, if_pos (by omega), if_pos (by omega), w64 (Int.tdiv x 2) (by omega) (by omega), w64 (((8 - (d + 1) : Nat) : Int) + 1) (by omega) (by omega),
      show ((8 - (d + 1) : Nat) : Int) + 1 = ((8 - d : Nat) : Int) from by omega, ih k _ _ (by omega) (by omega) (by omega) (by simp; omega), bits, List.append_assoc]
    rfl
theorem bits_l0 (l : List Int) (hb : Bytes l) (hl : l.length ≤ 1000) (d : Nat) : ∀ (k i : Nat) (acc : List Bool), l.length = i + d → acc.length + 8 * d < 140737488355328 → 10 * d + 1 ≤ k →
    keepsakeref01_Bits.l0 k l acc i = some (acc ++ allBits (l.drop i)) := by
  induction d with
  | zero =>
    intro k i acc hi _ hk
    obtain ⟨k, rfl⟩ : ∃ m, k = m + 1 := ⟨k - 1, by omega⟩
    rw [keepsakeref01_Bits.l0, if_neg (by omega), List.drop_of_length_le (by omega)]
    simp [allBits]
  | succ d ih =>
    intro k i acc hi ha hk
    obtain ⟨k, rfl⟩ : ∃ m, k = m + 8 + 1 + 1 := ⟨k - 10, by omega⟩
    have hlt : i < l.length := by omega
    obtain ⟨h0, h1⟩ := rd_byte hb i hlt
    have hs := bits_l1 l i 8 k acc (rd l i) (by omega) h0 h1 (by omega)
    rw [show ((8 - 8 : Nat) : Int) = 0 from rfl] at hs
    rw [keepsakeref01_Bits.l0, if_pos (by omega), if_pos (by omega), w64 (rd l i) (by omega) (by omega), hs, w64 _ (by omega) (by omega), show ((i : Int) + 1) = ((i + 1 : Nat) : Int) from by omega,
      ih k (i + 1) _ (by omega) (by rw [List.length_append, bits_len]; omega) (by omega), rd_drop l i hlt, allBits, allBits, List.flatMap_cons, List.append_assoc]
theorem bits_f (l : List Int) (hb : Bytes l) (hl : l.length ≤ 1000) (k : Nat) (hk : 10 * l.length + 1 ≤ k) : keepsakeref01_Bits.f k l = some (allBits l) := by
  unfold keepsakeref01_Bits.f
  have := bits_l0 l hb hl l.length k 0 [] (by omega) (by simp; omega) hk
  simpa using this

theorem xor_one (a : Nat) : a * 2 ^ 1 ^^^ 1 = a * 2 ^ 1 + 1 := by
  apply Nat.eq_of_testBit_eq
  intro i
  rw [Nat.testBit_xor]
  cases i with
  | zero => simp [Nat.testBit_zero]
  | succ i =>
    rw [Nat.testBit_succ, Nat.testBit_succ, Nat.testBit_succ, show 1 / 2 = 0 from rfl, Nat.zero_testBit, Bool.xor_false]
    congr 1
    omega
theorem word_l0 (l : List Bool) (hl : 32 ≤ l.length) (d : Nat) : ∀ (k : Nat) (s : W), d ≤ 32 → d + 1 ≤ k → s = ofBits ((l.drop d).take (32 - d)) →
    keepsakeref01_word.l0 k l (iv s) ((d : Int) - 1) = some (iv (ofBits (l.take 32))) := by
  induction d with
  | zero =>
    intro k s _ hk hs
    obtain ⟨k, rfl⟩ : ∃ m, k = m + 1 := ⟨k - 1, by omega⟩
    rw [keepsakeref01_word.l0, if_neg (by omega), hs]
    simp
  | succ d ih =>
    intro k s hd hk hs
    obtain ⟨k, rfl⟩ : ∃ m, k = m + 1 := ⟨k - 1, by omega⟩
    have hlt : d < l.length := by omega
    have hdrop : (l.drop d).take (32 - d) = l[d] :: (l.drop (d + 1)).take (32 - (d + 1)) := by
      rw [List.drop_eq_getElem_cons hlt, show 32 - d = (32 - (d + 1)) + 1 from by omega, List.take_succ_cons]
    have hrd : rdOf false l (((d + 1 : Nat) : Int) - 1) = l[d] := by
      unfold rdOf
      rw [show (((d + 1 : Nat) : Int) - 1).toNat = d from by omega, List.getD_eq_getElem?_getD, List.getElem?_eq_getElem hlt]
      rfl
    have h31 : s.toNat < 2147483648 := by
      have hb : s.getLsbD 31 = false := by
        rw [hs, ofBits_get _ 31 (by omega), List.getD_eq_getElem?_getD, List.getElem?_eq_none (by rw [List.length_take]; omega)]
        rfl
      have hlt32 := s.isLt
      rcases Nat.lt_or_ge s.toNat 2147483648 with h | h
      · exact h
      · exfalso
        rw [BitVec.getLsbD, Nat.testBit_eq_decide_div_mod_eq] at hb
        simp at hb
        omega
    have hsh : iv (s <<< 1) = 2 * iv s := by
      unfold iv
      rw [BitVec.toNat_shiftLeft, Nat.shiftLeft_eq]
      omega
    have hs2 : 0 ≤ iv s ∧ iv s < 2147483648 := by unfold iv; omega
    rw [keepsakeref01_word.l0, if_pos (by omega), if_pos (by omega), if_pos (by omega), hrd, w64 _ (by omega) (by omega), show ((d + 1 : Nat) : Int) - 1 - 1 = (d : Int) - 1 from by omega]
    cases hbit : l[d]
    · rw [if_neg (by simp), show (2 : Int) * iv s % (4294967296 : Int) = iv (s <<< 1) from by rw [hsh]; omega]
      refine ih k _ (by omega) (by omega) ?_
      rw [hdrop, ofBits, hbit, ← hs]
      simp [bit]
    · rw [if_pos rfl, show ((2 : Int) * iv s % (4294967296 : Int) + (1 : Int)) % (4294967296 : Int) = iv (1#32 ^^^ s <<< 1) from ?_]
      · refine ih k _ (by omega) (by omega) ?_
        rw [hdrop, ofBits, hbit, ← hs]
        simp [bit]
      · have e : 1#32 ^^^ s <<< 1 = s <<< 1 + 1#32 := by
          apply BitVec.eq_of_toNat_eq
          rw [BitVec.toNat_xor, BitVec.toNat_add, BitVec.toNat_shiftLeft, Nat.shiftLeft_eq]
          rw [Nat.mod_eq_of_lt (show s.toNat * 2 ^ 1 < 2 ^ 32 by omega), show (1#32).toNat = 1 from rfl, Nat.mod_eq_of_lt (show s.toNat * 2 ^ 1 + 1 < 2 ^ 32 by omega), Nat.xor_comm]
          exact xor_one (s.toNat) 
        rw [e]
        unfold iv
        rw [BitVec.toNat_add, BitVec.toNat_shiftLeft, Nat.shiftLeft_eq, show (1#32).toNat = 1 from rfl]
        omega
theorem word_f (l : List Bool) (hl : 32 ≤ l.length) (k : Nat) (hk : 33 ≤ k) : keepsakeref01_word.f k l = some (iv (ofBits l)) := by
  unfold keepsakeref01_word.f
  have := word_l0 l hl 32 k 0#32 (by omega) (by omega) (by simp [ofBits])
  rw [ofBits_take] at this
  exact this


theorem ext_getD (l m : List Bool) (hl : l.length = m.length) (h : ∀ i, i < l.length → l.getD i false = m.getD i false) : l = m := by
  apply List.ext_getElem hl
  intro i h1 h2
  have := h i h1
  simpa [List.getD_eq_getElem?_getD, List.getElem?_eq_getElem h1, List.getElem?_eq_getElem h2] using this
theorem getD_set (l : List Bool) (i m : Nat) (b : Bool) (hi : i < l.length) : (l.set i b).getD m false = if m = i then b else l.getD m false := by
  simp only [List.getD_eq_getElem?_getD, List.getElem?_set]
  by_cases h : m = i
  · subst h; simp [hi]
  · rw [if_neg (fun e => h e.symm), if_neg h]
theorem getD_drop (l : List Bool) (i m : Nat) : (l.drop i).getD m false = l.getD (i + m) false := by
  simp only [List.getD_eq_getElem?_getD, List.getElem?_drop]

/-! ### places that are turned over -/
def flips : List Bool → Nat → List Int → List Bool
  | l, _, [] => l
  | l, i, d :: ds => flips (l.set (i + d.toNat) (!(l.getD (i + d.toNat) false))) i ds
def hit (i m : Nat) : List Int → Bool
  | [] => false
  | d :: ds => (decide (m = i + d.toNat)) ^^ hit i m ds
theorem flips_len (ds : List Int) : ∀ l i, (flips l i ds).length = l.length := by
  induction ds with
  | nil => intro l i; rfl
  | cons d ds ih => intro l i; rw [flips, ih, List.length_set]
theorem flips_get (ds : List Int) : ∀ l i m, (∀ d ∈ ds, i + d.toNat < l.length) → (flips l i ds).getD m false = (l.getD m false ^^ hit i m ds) := by
  induction ds with
  | nil => intro l i m _; simp [flips, hit]
  | cons d ds ih =>
    intro l i m h
    rw [flips, ih _ i m (fun e he => by rw [List.length_set]; exact h e (by simp [he])), getD_set _ _ _ _ (h d (by simp)), hit]
    by_cases hm : m = i + d.toNat
    · subst hm; simp
    · simp [hm]
theorem flips_drop (ds : List Int) : ∀ l i n, (∀ d ∈ ds, i + d.toNat < n) → (flips l i ds).drop n = l.drop n := by
  induction ds with
  | nil => intro l i n _; rfl
  | cons d ds ih =>
    intro l i n h
    rw [flips, ih _ i n (fun e he => h e (by simp [he])), List.drop_set_of_lt (h d (by simp))]
theorem hit_shift (ds : List Int) (i m : Nat) : hit i (i + m) ds = hit 0 m ds := by
  induction ds with
  | nil => rfl
  | cons d ds ih =>
    rw [hit, hit, ih]
    congr 1
    simp
def D : List Int := [0, 6, 9, 10, 16, 20, 21, 22, 24, 25, 27, 28, 30, 31, 32]
theorem D_len : D.length = 15 := rfl
theorem D_bd : ∀ d ∈ D, 0 ≤ d ∧ d ≤ 32 := by decide
theorem D_hit : ∀ t, t < 32 → hit 0 (t + 1) D = P.getLsbD t := by decide
theorem D_rd (j : Nat) (hj : j < 15) : 0 ≤ rd D j ∧ rd D j ≤ 32 := by
  unfold rd
  rw [Int.toNat_natCast, List.getD_eq_getElem?_getD, List.getElem?_eq_getElem (by rw [D_len]; exact hj)]
  exact D_bd _ (List.getElem_mem _)
theorem left_l1 (i : Nat) (hi : i ≤ 100000) (d : Nat) : ∀ (k j : Nat) (l : List Bool), j + d = 15 → i + 32 < l.length →
    keepsakeref01_left.l1 (k + d + 1) l D i j = keepsakeref01_left.l0 k (flips l i (D.drop j)) D ((i + 1 : Nat) : Int) := by
  induction d with
  | zero =>
    intro k j l hj hl
    rw [Nat.add_zero, keepsakeref01_left.l1, if_neg (by rw [D_len]; omega), List.drop_of_length_le (by rw [D_len]; omega), w64 _ (by omega) (by omega)]
    rfl
  | succ d ih =>
    intro k j l hj hl
    obtain ⟨h0, h1⟩ := D_rd j (by omega)
    have hw : wrap64 ((i : Int) + rd D j) = ((i + (rd D j).toNat : Nat) : Int) := by rw [w64 _ (by omega) (by omega)]; omega
    rw [show k + (d + 1) + 1 = (k + d + 1) + 1 from by omega, keepsakeref01_left.l1, if_pos (by rw [D_len]; omega), if_pos (by omega), hw, if_pos (by omega), if_pos (by omega), w64 ((j : Int) + 1) (by omega) (by omega),
      Int.toNat_natCast, show ((j : Int) + 1) = ((j + 1 : Nat) : Int) from by omega, ih k (j + 1) _ (by omega) (by rw [List.length_set]; exact hl), rd_drop D j (by rw [D_len]; omega), flips]
    rfl
theorem left_step (l l' : List Bool) (i : Nat) (hl : i + 32 < l.length) (h : ∀ t, t < 32 → l'.getD (i + 1 + t) false = (l.getD (i + 1 + t) false ^^ (l.getD i false && P.getLsbD t))) :
    ofBits (l'.drop (i + 1)) = T (ofBits (l.drop i)) ^^^ (if l.getD (i + 32) false then one else 0#32) := by
  apply BitVec.eq_of_getLsbD_eq
  intro t ht
  rw [ofBits_get _ t ht, getD_drop, h t ht, BitVec.getLsbD_xor, T_bit _ t ht, ofBits_get _ 0 (by omega), getD_drop]
  simp only [Nat.add_zero]
  by_cases h31 : t = 31
  · subst h31
    rw [BitVec.getLsbD_of_ge _ (31 + 1) (by omega), show i + 1 + 31 = i + 32 from by omega]
    have e : (if l.getD (i + 32) false = true then one else 0#32).getLsbD 31 = l.getD (i + 32) false := by
      cases l.getD (i + 32) false <;> simp [one]
    rw [e]
    cases l.getD (i + 32) false <;> cases l.getD i false <;> cases P.getLsbD 31 <;> rfl
  · have e : (if l.getD (i + 32) false = true then one else 0#32).getLsbD t = false := by
      cases l.getD (i + 32) false
      · simp
      · rw [if_pos rfl, one_two, BitVec.getLsbD_twoPow]
        simp; omega
    rw [e, Bool.xor_false, ofBits_get _ (t + 1) (by omega), getD_drop, show i + (t + 1) = i + 1 + t from by omega]
theorem left_l0 (n : Nat) : ∀ (k i : Nat) (l : List Bool), l.length = i + n + 32 → l.length ≤ 100000 → 17 * n + 1 ≤ k →
    ∃ r, keepsakeref01_left.l0 k l D i = some r ∧ r.length = 32 ∧ ofBits r = run (ofBits (l.drop i)) (l.drop (i + 32)) := by
  induction n with
  | zero =>
    intro k i l hl hb hk
    obtain ⟨k, rfl⟩ : ∃ m, k = m + 1 := ⟨k - 1, by omega⟩
    rw [keepsakeref01_left.l0, w64 ((i : Int) + 32) (by omega) (by omega), if_neg (by omega), w64 ((l.length : Int) - 32) (by omega) (by omega), if_pos (by omega), if_pos (by omega)]
    refine ⟨_, rfl, by rw [List.length_drop]; omega, ?_⟩
    rw [List.drop_of_length_le (show l.length ≤ i + 32 by omega), run, show ((l.length : Int) - 32).toNat = i from by omega]
  | succ n ih =>
    intro k i l hl hb hk
    obtain ⟨k, rfl⟩ : ∃ m, k = m + 15 + 1 + 1 := ⟨k - 17, by omega⟩
    have hrd : rdOf false l i = l.getD i false := by unfold rdOf; rw [Int.toNat_natCast]
    have hd32 : l.drop (i + 32) = l.getD (i + 32) false :: l.drop (i + 1 + 32) := by
      rw [List.drop_eq_getElem_cons (show i + 32 < l.length by omega), List.getD_eq_getElem?_getD, List.getElem?_eq_getElem (show i + 32 < l.length by omega), show i + 32 + 1 = i + 1 + 32 from by omega]
      rfl
    rw [keepsakeref01_left.l0, w64 ((i : Int) + 32) (by omega) (by omega), if_pos (by omega), if_pos (by omega), if_pos (by omega), hrd, hd32, run]
    cases hbit : l.getD i false
    · rw [if_neg (by simp), w64 ((i : Int) + 1) (by omega) (by omega), show ((i : Int) + 1) = ((i + 1 : Nat) : Int) from by omega]
      obtain ⟨r, h1, h2, h3⟩ := ih (k + 15 + 1) (i + 1) l (by omega) hb (by omega)
      refine ⟨r, h1, h2, ?_⟩
      rw [h3, ← left_step l l i (by omega) (fun t ht => by rw [hbit]; simp)]
    · have hs := left_l1 i (by omega) 15 k 0 l (by omega) (by omega)
      rw [if_pos rfl, show (0 : Int) = ((0 : Nat) : Int) from rfl, hs, List.drop_zero]
      have hD : ∀ d ∈ D, i + d.toNat < l.length := fun d hd => by have := D_bd d hd; omega
      obtain ⟨r, h1, h2, h3⟩ := ih k (i + 1) (flips l i D) (by rw [flips_len]; omega) (by rw [flips_len]; omega) (by omega)
      refine ⟨r, h1, h2, ?_⟩
      rw [h3, left_step l (flips l i D) i (by omega) (fun t ht => by rw [flips_get D l i _ hD, hbit, show i + 1 + t = i + (t + 1) from by omega, hit_shift, D_hit t ht]; simp),
        flips_drop D l i _ (fun d hd => by have := D_bd d hd; omega)]
theorem left_f (l : List Bool) (h32 : 32 ≤ l.length) (hb : l.length ≤ 100000) (k : Nat) (hk : 17 * l.length ≤ k) :
    ∃ r, keepsakeref01_left.f k l = some r ∧ r.length = 32 ∧ ofBits r = run (ofBits l) (l.drop 32) := by
  unfold keepsakeref01_left.f keepsakeref01_divisor.f
  rw [Option.bind_some]
  show ∃ r, keepsakeref01_left.l0 k l D 0 = some r ∧ _
  have := left_l0 (l.length - 32) k 0 l (by omega) hb (by omega)
  simpa using this

end Go.Proofs.Ytoiiphlhdnlniaa.Refs
