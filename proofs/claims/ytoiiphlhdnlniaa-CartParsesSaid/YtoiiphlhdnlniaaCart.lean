/- What Parse and Make answer, in plain terms, and what the document says. -/
import Derived.Test.YtoiiphlhdnlniaaAx5
import Derived.Test.YtoiiphlhdnlniaaAx3
import Derived.Test.YtoiiphlhdnlniaaAx6
import Derived.Test.YtoiiphlhdnlniaaMade
import Derived.Test.YtoiiphlhdnlniaaPlain
import Derived.Test.YtoiiphlhdnlniaaLay
import Derived.Test.YtoiiphlhdnlniaaRefSum
import Derived.Test.YtoiiphlhdnlniaaSame
set_option linter.unusedVariables false
set_option linter.unusedSimpArgs false
namespace Go.Proofs.Ytoiiphlhdnlniaa.Cart
open Go.RowKit Go.Proofs.Ytoiiphlhdnlniaa.All Go.Proofs.Ytoiiphlhdnlniaa.Given Go.Proofs.Ytoiiphlhdnlniaa.Sums Go.Proofs.Ytoiiphlhdnlniaa.Refs Go.Proofs.Ytoiiphlhdnlniaa.Lay Go.Proofs.Ytoiiphlhdnlniaa.Plain Go.Proofs.YtoiiphlhdnlniaaW.PrintWords Go.Proofs.YtoiiphlhdnlniaaW.PrintLast

theorem bankR_ok (a b c d f : Int) : bankR a b c d f = okB a b c d f := by unfold bankR; rw [right_bank]; rfl
theorem bankL_ok {a b c d f : Int} (h : Ok a b c d f) : bankL a b c d f = b * sz a := by unfold bankL; rw [long_ok h]; rfl
theorem bytes_append {l m : List Int} (hl : Bytes l) (hm : Bytes m) : Bytes (l ++ m) := fun x hx => (List.mem_append.1 hx).elim (hl x) (hm x)
theorem bytes_take {l : List Int} (hl : Bytes l) (n : Nat) : Bytes (l.take n) := fun x hx => hl x (List.mem_of_mem_take hx)
theorem bytes_drop {l : List Int} (hl : Bytes l) (n : Nat) : Bytes (l.drop n) := fun x hx => hl x (List.mem_of_mem_drop hx)
theorem str4 (a b c d : Int) (ha : 0 ≤ a ∧ a ≤ 255) (hb : 0 ≤ b ∧ b ≤ 255) (hc : 0 ≤ c ∧ c ≤ 255) (hd : 0 ≤ d ∧ d ≤ 255) :
    ((strOfNums [a, b, c, d]).toList = ([67, 65, 82, 84] : List UInt8)) ↔ (a = 67 ∧ b = 65 ∧ c = 82 ∧ d = 84) := by
  rw [Lib.strOfNums_toList]
  have key : ∀ (x : Int) (y : Nat), 0 ≤ x ∧ x ≤ 255 → y < 256 → (UInt8.ofNat x.toNat = UInt8.ofNat y ↔ x = y) := by
    intro x y hx hy
    constructor
    · intro h
      have h := congrArg UInt8.toNat h
      rw [UInt8.toNat_ofNat', UInt8.toNat_ofNat'] at h
      omega
    · rintro rfl
      rfl
  show [UInt8.ofNat a.toNat, UInt8.ofNat b.toNat, UInt8.ofNat c.toNat, UInt8.ofNat d.toNat] = [UInt8.ofNat 67, UInt8.ofNat 65, UInt8.ofNat 82, UInt8.ofNat 84] ↔ _
  simp only [List.cons.injEq, and_true]
  rw [key a 67 ha (by omega), key b 65 hb (by omega), key c 82 hc (by omega), key d 84 hd (by omega)]
  rfl
theorem magic {a b c d : Int} (ha : 0 ≤ a ∧ a ≤ 255) (hb : 0 ≤ b ∧ b ≤ 255) (hc : 0 ≤ c ∧ c ≤ 255) (hd : 0 ≤ d ∧ d ≤ 255) :
    ((!(strOfNums [a, b, c, d]).toList == [67, 65, 82, 84]) = true) ↔ ¬ (a = 67 ∧ b = 65 ∧ c = 82 ∧ d = 84) := by
  rw [Bool.not_eq_true', beq_eq_false_iff_ne]
  exact not_congr (str4 a b c d ha hb hc hd)
/-- The cartridge that bytes are, and what is wrong. -/
def cp (l : List Int) : Int × Int × Int × Int × Int × List Int × Int :=
  if l.length < 16 then (0, 0, 0, 0, 0, [], 5)
  else if ¬ (rd l 0 = 67 ∧ rd l 1 = 65 ∧ rd l 2 = 82 ∧ rd l 3 = 84) then (0, 0, 0, 0, 0, [], 6)
  else if ¬ rd l 4 = 1 then (0, 0, 0, 0, 0, [], 7)
  else if okB (rd l 5) (rd l 6) (rd l 7) (rd l 8) (rd l 9) = false then (0, 0, 0, 0, 0, [], 13)
  else if ¬ rd l 10 = 0 then (0, 0, 0, 0, 0, [], 13)
  else if ¬ rd l 11 = 0 then (0, 0, 0, 0, 0, [], 13)
  else if (l.length : Int) < 16 + rd l 6 * sz (rd l 5) then (0, 0, 0, 0, 0, [], 5)
  else if (l.length : Int) > 16 + rd l 6 * sz (rd l 5) then (0, 0, 0, 0, 0, [], 14)
  else if num ((l.take 16).drop 12) = iv (crc (l.take 12 ++ l.drop 16)) then (rd l 5, rd l 6, rd l 7, rd l 8, rd l 9, l.drop 16, 0)
  else (0, 0, 0, 0, 0, [], 8)
theorem seal_num {s g0 g1 g2 g3 : Int} (h0 : 0 ≤ s) (h1 : s < 4294967296) (b0 : 0 ≤ g0 ∧ g0 ≤ 255) (b1 : 0 ≤ g1 ∧ g1 ≤ 255) (b2 : 0 ≤ g2 ∧ g2 ≤ 255) (b3 : 0 ≤ g3 ∧ g3 ≤ 255) : sealIs s g0 g1 g2 g3 = true ↔ num [g0, g1, g2, g3] = s := by
  unfold sealIs
  rw [decide_eq_true_eq]
  simp only [num]
  omega
theorem cp_eq (l : List Int) (hb : Bytes l) : presL l = cp l := by
  unfold presL cp
  by_cases h16 : l.length < 16
  · rw [if_pos h16, if_pos h16]
  rw [if_neg h16, if_neg h16]
  obtain ⟨h0, h1, h2, h3, h4, h5, h6, h7, h8, h9, h10, h11, g0, g1, g2, g3, rom, rfl⟩ := first16 l (by omega)
  have m : ∀ x, x ∈ h0 :: h1 :: h2 :: h3 :: h4 :: h5 :: h6 :: h7 :: h8 :: h9 :: h10 :: h11 :: g0 :: g1 :: g2 :: g3 :: rom → 0 ≤ x ∧ x ≤ 255 := hb
  show pres h0 h1 h2 h3 h4 h5 h6 h7 h8 h9 h10 h11 g0 g1 g2 g3 rom = (if ¬ (h0 = 67 ∧ h1 = 65 ∧ h2 = 82 ∧ h3 = 84) then (0, 0, 0, 0, 0, [], 6)
    else if ¬ h4 = 1 then (0, 0, 0, 0, 0, [], 7)
    else if okB h5 h6 h7 h8 h9 = false then (0, 0, 0, 0, 0, [], 13)
    else if ¬ h10 = 0 then (0, 0, 0, 0, 0, [], 13)
    else if ¬ h11 = 0 then (0, 0, 0, 0, 0, [], 13)
    else if ((rom.length + 16 : Nat) : Int) < 16 + h6 * sz h5 then (0, 0, 0, 0, 0, [], 5)
    else if ((rom.length + 16 : Nat) : Int) > 16 + h6 * sz h5 then (0, 0, 0, 0, 0, [], 14)
    else if num [g0, g1, g2, g3] = iv (crc ([h0, h1, h2, h3, h4, h5, h6, h7, h8, h9, h10, h11] ++ rom)) then (h5, h6, h7, h8, h9, rom, 0)
    else (0, 0, 0, 0, 0, [], 8))
  unfold pres
  have e0 := magic (m h0 (by simp)) (m h1 (by simp)) (m h2 (by simp)) (m h3 (by simp))
  by_cases c0 : h0 = 67 ∧ h1 = 65 ∧ h2 = 82 ∧ h3 = 84
  · have n0 : ¬ ¬ (h0 = 67 ∧ h1 = 65 ∧ h2 = 82 ∧ h3 = 84) := fun h => h c0
    rw [if_neg (fun h => e0.1 h c0), if_neg n0]
    by_cases c1 : h4 = 1
    · have n1 : ¬ ¬ h4 = 1 := fun h => h c1
      have b1 : ¬ (h4 != 1) = true := by simp [c1]
      rw [if_neg b1, if_neg n1, bankR_ok]
      cases c2 : okB h5 h6 h7 h8 h9 with
      | false => rw [if_pos rfl, if_pos rfl]
      | true =>
        rw [if_neg (show ¬ (true = false) by decide), if_neg (show ¬ (true = false) by decide), bankL_ok (okB_ok c2)]
        by_cases c3 : h10 = 0
        · have n3 : ¬ ¬ h10 = 0 := fun h => h c3
          have b3 : ¬ (h10 != 0) = true := by simp [c3]
          rw [if_neg b3, if_neg n3]
          by_cases c4 : h11 = 0
          · have n4 : ¬ ¬ h11 = 0 := fun h => h c4
            have b4 : ¬ (h11 != 0) = true := by simp [c4]
            rw [if_neg b4, if_neg n4]
            by_cases c5 : (rom.length : Int) < h6 * sz h5
            · rw [if_pos c5, if_pos (show ((rom.length + 16 : Nat) : Int) < 16 + h6 * sz h5 by omega)]
            rw [if_neg c5, if_neg (show ¬ ((rom.length + 16 : Nat) : Int) < 16 + h6 * sz h5 by omega)]
            by_cases c6 : h6 * sz h5 < (rom.length : Int)
            · rw [if_pos c6, if_pos (show ((rom.length + 16 : Nat) : Int) > 16 + h6 * sz h5 by omega)]
            rw [if_neg c6, if_neg (show ¬ ((rom.length + 16 : Nat) : Int) > 16 + h6 * sz h5 by omega)]
            have e := seal_num (iv_lo (crc ([h0, h1, h2, h3, h4, h5, h6, h7, h8, h9, h10, h11] ++ rom))) (iv_hi _) (m g0 (by simp)) (m g1 (by simp)) (m g2 (by simp)) (m g3 (by simp))
            by_cases c7 : num [g0, g1, g2, g3] = iv (crc ([h0, h1, h2, h3, h4, h5, h6, h7, h8, h9, h10, h11] ++ rom))
            · rw [if_pos c7]; exact if_pos (e.2 c7)
            · rw [if_neg c7]; exact if_neg (fun h => c7 (e.1 h))
          · have b4 : (h11 != 0) = true := by simpa using c4
            rw [if_pos b4, if_pos c4]
        · have b3 : (h10 != 0) = true := by simpa using c3
          rw [if_pos b3, if_pos c3]
    · have b1 : (h4 != 1) = true := by simpa using c1
      rw [if_pos b1, if_pos c1]
  · rw [if_pos (e0.2 c0), if_pos c0]
theorem parse_f (l : List Int) (hb : Bytes l) (hl : l.length ≤ 100000) : cart_Parse.f l = some (cp l) := by
  unfold cart_Parse.f
  rw [if_pos ⟨hl, (byteB_iff l).2 hb⟩, cp_eq l hb]
/-- The bytes of a cartridge. -/
def mk (a b c d f : Int) (rom : List Int) : List Int × Int :=
  if okB a b c d f = true ∧ (rom.length : Int) = b * sz a then (headL a b c d f ++ (sum4 (iv (crc (headL a b c d f ++ rom))) ++ rom), 0) else ([], 13)
theorem mk_eq (a b c d f : Int) (rom : List Int) : makeL a b c d f rom = mk a b c d f rom := by
  unfold makeL mk
  rw [bankR_ok]
  cases h : okB a b c d f with
  | false => rw [if_neg (fun h => by cases h.1), if_neg (fun h => by cases h.1)]
  | true =>
    rw [bankL_ok (okB_ok h)]
    rfl
theorem make_f (a b c d f : Int) (rom : List Int) (hb : Bytes rom) (hl : rom.length ≤ 100000) : cart_Make.f a b c d f rom = some (mk a b c d f rom) := by
  unfold cart_Make.f
  rw [if_pos ⟨hl, (byteB_iff rom).2 hb⟩, mk_eq]
theorem sum4_le (s : Int) : sum4 s = le 4 s := by
  simp only [sum4, le]
  congr 1
  congr 1
  congr 1
  · omega
  · congr 1; omega
theorem parse_ref_j0 (l : List Int) (hb : Bytes l) (k : Nat) (hk : 100000 ≤ k) (h16 : ¬ l.length < 16) (hl : l.length ≤ 640) (hm : rd l 0 = 67 ∧ rd l 1 = 65 ∧ rd l 2 = 82 ∧ rd l 3 = 84) :
    keepsakeref21_Parse.j0 (k + 2) l false = some (cp l) := by
  have nm : ¬ ¬ (rd l 0 = 67 ∧ rd l 1 = 65 ∧ rd l 2 = 82 ∧ rd l 3 = 84) := fun h => h hm
  have w : ∀ i : Nat, i < l.length → wrap64 (rd l (i : Int)) = rd l (i : Int) := fun i hi => by have := rd_byte hb i hi; exact Sums.w64 _ (by omega) (by omega)
  have w5 : wrap64 (rd l 5) = rd l 5 := w 5 (by omega)
  have w6 : wrap64 (rd l 6) = rd l 6 := w 6 (by omega)
  have w7 : wrap64 (rd l 7) = rd l 7 := w 7 (by omega)
  have w8 : wrap64 (rd l 8) = rd l 8 := w 8 (by omega)
  have w9 : wrap64 (rd l 9) = rd l 9 := w 9 (by omega)
  unfold cp
  rw [keepsakeref21_Parse.j0, if_neg (by decide), if_pos (by omega), if_neg h16, if_neg nm]
  by_cases hv : rd l 4 = 1
  · rw [if_pos hv, if_neg (show ¬ ¬ rd l 4 = 1 from fun h => h hv), if_pos (by omega), if_pos (by omega), if_pos (by omega), if_pos (by omega), if_pos (by omega), w5, w6, w7, w8, w9, right_doc, Option.bind_some]
    cases c2 : okB (rd l 5) (rd l 6) (rd l 7) (rd l 8) (rd l 9) with
    | false => rw [if_neg (show ¬ (false = true) by decide), if_pos rfl, keepsakeref21_Parse.j1, if_pos rfl]
    | true =>
      have ho := okB_ok c2
      rw [if_pos rfl, if_neg (show ¬ (true = false) by decide), if_pos (by omega)]
      by_cases c3 : rd l 10 = 0
      · rw [if_pos c3, if_neg (show ¬ ¬ rd l 10 = 0 from fun h => h c3), if_pos (by omega)]
        by_cases c4 : rd l 11 = 0
        · have hh := mul_hi (rd l 6) (rd l 5) (by have := ho.b0; omega) ho.b1
          rw [if_neg (show ¬ ¬ rd l 11 = 0 from fun h => h c4), show (rd l 11 != 0) = false by rw [c4]; rfl, keepsakeref21_Parse.j1, if_neg (by decide), long_doc ho, Option.bind_some, Sums.w64 _ (by omega) (by omega)]
          by_cases c5 : (l.length : Int) < 16 + rd l 6 * sz (rd l 5)
          · rw [if_pos c5, if_pos c5]
          rw [if_neg c5, if_neg c5, Option.bind_some, Sums.w64 _ (by omega) (by omega)]
          by_cases c6 : (l.length : Int) > 16 + rd l 6 * sz (rd l 5)
          · rw [if_pos c6, if_pos c6]
          have l12 : (l.take 12).length = 12 := by rw [List.length_take]; omega
          have l16 : (l.drop 16).length = l.length - 16 := List.length_drop
          have hs0 := iv_lo (crc (l.take 12 ++ l.drop 16))
          have hs1 := iv_hi (crc (l.take 12 ++ l.drop 16))
          rw [if_neg c6, if_neg c6, Option.bind_some, if_pos (by omega), if_pos (by rw [l12]; decide), Option.bind_some, List.nil_append, if_pos (by omega), if_pos (by rw [l12, l16]; omega), if_pos (by decide),
            number _ (bytes_drop (bytes_take hb 16) 12) (by rw [List.length_drop, List.length_take]; omega) k (by omega), Option.bind_some,
            refSum_f _ (bytes_append (bytes_take hb 12) (bytes_drop hb 16)) (by rw [List.length_append, l12, l16]; omega) k hk, Option.bind_some,
            show IntKind.u64.wrap (iv (crc (l.take 12 ++ l.drop 16))) = iv (crc (l.take 12 ++ l.drop 16)) by rw [IntKind.wrap_u64]; omega]
          by_cases c7 : num ((l.take 16).drop 12) = iv (crc (l.take 12 ++ l.drop 16))
          · rw [if_pos c7, if_pos c7, Option.bind_some, List.nil_append, if_pos (by rw [l16]; show 0 + _ < _; omega)]
          · rw [if_neg c7, if_neg c7]
        · rw [if_pos c4, show (rd l 11 != 0) = true by simpa using c4, keepsakeref21_Parse.j1, if_pos rfl]
      · rw [if_neg c3, if_pos c3, keepsakeref21_Parse.j1, if_pos rfl]
  · rw [if_neg hv, if_pos hv]
theorem parse_ref (l : List Int) (hb : Bytes l) (k : Nat) (hk : 100000 ≤ k) (hl : l.length ≤ 640) : keepsakeref21_Parse.f (k + 2) l = some (cp l) := by
  by_cases h16 : l.length < 16
  · unfold keepsakeref21_Parse.f cp
    rw [if_pos (by omega), if_pos h16]
  have hno : ¬ (rd l 0 = 67 ∧ rd l 1 = 65 ∧ rd l 2 = 82 ∧ rd l 3 = 84) → keepsakeref21_Parse.j0 (k + 2) l true = some (cp l) := by
    intro hm
    unfold cp
    rw [keepsakeref21_Parse.j0, if_pos rfl, if_neg h16, if_pos hm]
  unfold keepsakeref21_Parse.f
  rw [if_neg (by omega), if_pos (by omega)]
  by_cases h0 : rd l 0 = 67
  · rw [if_pos h0, if_pos (by omega)]
    by_cases h1 : rd l 1 = 65
    · rw [if_pos h1, if_pos (by omega)]
      by_cases h2 : rd l 2 = 82
      · rw [if_pos h2, if_pos (by omega)]
        by_cases h3 : rd l 3 = 84
        · rw [show (rd l 3 != 84) = false by rw [h3]; rfl]
          exact parse_ref_j0 l hb k hk h16 hl ⟨h0, h1, h2, h3⟩
        · rw [show (rd l 3 != 84) = true by simpa using h3]
          exact hno (fun h => h3 h.2.2.2)
      · rw [if_neg h2]; exact hno (fun h => h2 h.2.2.1)
    · rw [if_neg h1]; exact hno (fun h => h1 h.2.1)
  · rw [if_neg h0]; exact hno (fun h => h0 h.1)
/-! ### what is made is parsed -/
theorem cp_cons (h0 h1 h2 h3 h4 h5 h6 h7 h8 h9 h10 h11 g0 g1 g2 g3 : Int) (rom : List Int) : cp (h0 :: h1 :: h2 :: h3 :: h4 :: h5 :: h6 :: h7 :: h8 :: h9 :: h10 :: h11 :: g0 :: g1 :: g2 :: g3 :: rom) =
    (if ¬ (h0 = 67 ∧ h1 = 65 ∧ h2 = 82 ∧ h3 = 84) then (0, 0, 0, 0, 0, [], 6)
    else if ¬ h4 = 1 then (0, 0, 0, 0, 0, [], 7)
    else if okB h5 h6 h7 h8 h9 = false then (0, 0, 0, 0, 0, [], 13)
    else if ¬ h10 = 0 then (0, 0, 0, 0, 0, [], 13)
    else if ¬ h11 = 0 then (0, 0, 0, 0, 0, [], 13)
    else if ((rom.length + 16 : Nat) : Int) < 16 + h6 * sz h5 then (0, 0, 0, 0, 0, [], 5)
    else if ((rom.length + 16 : Nat) : Int) > 16 + h6 * sz h5 then (0, 0, 0, 0, 0, [], 14)
    else if num [g0, g1, g2, g3] = iv (crc ([h0, h1, h2, h3, h4, h5, h6, h7, h8, h9, h10, h11] ++ rom)) then (h5, h6, h7, h8, h9, rom, 0)
    else (0, 0, 0, 0, 0, [], 8)) := by
  unfold cp
  rw [if_neg (show ¬ (h0 :: h1 :: h2 :: h3 :: h4 :: h5 :: h6 :: h7 :: h8 :: h9 :: h10 :: h11 :: g0 :: g1 :: g2 :: g3 :: rom).length < 16 by simp only [List.length_cons]; omega)]
  rfl
/-- A cartridge's bytes with any ROM and any four bytes of a sum. -/
def lay (a b c d f : Int) (g : List Int) (rom : List Int) : List Int := headL a b c d f ++ (g ++ rom)
theorem cp_lay (a b c d f g0 g1 g2 g3 : Int) (rom : List Int) (ho : okB a b c d f = true) : cp (lay a b c d f [g0, g1, g2, g3] rom) =
    (if ((rom.length + 16 : Nat) : Int) < 16 + b * sz a then (0, 0, 0, 0, 0, [], 5)
    else if ((rom.length + 16 : Nat) : Int) > 16 + b * sz a then (0, 0, 0, 0, 0, [], 14)
    else if num [g0, g1, g2, g3] = iv (crc (headL a b c d f ++ rom)) then (a, b, c, d, f, rom, 0)
    else (0, 0, 0, 0, 0, [], 8)) := by
  have h := okB_ok ho
  have := h.s0; have := h.s1; have := h.b0; have := h.b1; have := h.e0; have := h.e1; have := h.f0; have := h.f1; have := h.r0; have := h.r1
  have ea : a % 256 = a := by omega
  have eb : b % 256 = b := by omega
  have ec : c % 256 = c := by omega
  have ed : d % 256 = d := by omega
  have ef : f % 256 = f := by omega
  have eh : headL a b c d f = [67, 65, 82, 84, 1, a, b, c, d, f, 0, 0] := by unfold headL; rw [ea, eb, ec, ed, ef]
  unfold lay
  rw [eh]
  show cp (67 :: 65 :: 82 :: 84 :: 1 :: a :: b :: c :: d :: f :: 0 :: 0 :: g0 :: g1 :: g2 :: g3 :: rom) = _
  rw [cp_cons, if_neg (fun h => h ⟨rfl, rfl, rfl, rfl⟩), if_neg (fun h => h rfl), ho, if_neg (by decide), if_neg (fun h => h rfl), if_neg (fun h => h rfl)]
theorem cp_mk (a b c d f : Int) (rom : List Int) (ho : okB a b c d f = true) (hL : (rom.length : Int) = b * sz a) : mk a b c d f rom = (lay a b c d f (sum4 (iv (crc (headL a b c d f ++ rom)))) rom, 0) ∧ cp (mk a b c d f rom).1 = (a, b, c, d, f, rom, 0) := by
  have e : mk a b c d f rom = (lay a b c d f (sum4 (iv (crc (headL a b c d f ++ rom)))) rom, 0) := by unfold mk lay; rw [if_pos ⟨ho, hL⟩]
  refine ⟨e, ?_⟩
  rw [e]
  have hs0 := iv_lo (crc (headL a b c d f ++ rom))
  have hs1 := iv_hi (crc (headL a b c d f ++ rom))
  have hn : num (sum4 (iv (crc (headL a b c d f ++ rom)))) = iv (crc (headL a b c d f ++ rom)) := by rw [sum4_le]; exact num_le 4 _ hs0 (by omega)
  unfold sum4 at hn ⊢
  rw [cp_lay a b c d f _ _ _ _ rom ho, if_neg (by omega), if_neg (by omega), if_pos hn]
theorem bytes_lay (a b c d f s : Int) (rom : List Int) (hb : Bytes rom) : Bytes (lay a b c d f (sum4 s) rom) := bytes_append (bytes_head a b c d f) (bytes_append (by rw [sum4_le]; exact le_bytes 4 s) hb)
theorem lay_len (a b c d f g0 g1 g2 g3 : Int) (rom : List Int) : (lay a b c d f [g0, g1, g2, g3] rom).length = rom.length + 16 := by
  unfold lay headL
  simp only [List.length_append, List.length_cons, List.length_nil]
  omega
theorem awake : keepsakelaw21_awake.f = some true := by
  have hb : Bytes (List.replicate 256 0) := fun x hx => by rw [(List.mem_replicate.1 hx).2]; decide
  have hl : (List.replicate 256 (0 : Int)).length = 256 := List.length_replicate
  have ho : okB 8 1 0 0 0 = true := by decide
  obtain ⟨e1, e2⟩ := cp_mk 8 1 0 0 0 (List.replicate 256 0) ho (by rw [hl]; decide)
  unfold keepsakelaw21_awake.f
  rw [if_pos (by decide), make_f 8 1 0 0 0 _ hb (by rw [hl]; decide), Option.bind_some]
  rw [e1] at e2 ⊢
  have hll := lay_len 8 1 0 0 0 (iv (crc (headL 8 1 0 0 0 ++ List.replicate 256 0)) % 256) (iv (crc (headL 8 1 0 0 0 ++ List.replicate 256 0)) / 256 % 256) (iv (crc (headL 8 1 0 0 0 ++ List.replicate 256 0)) / 65536 % 256) (iv (crc (headL 8 1 0 0 0 ++ List.replicate 256 0)) / 16777216 % 256) (List.replicate 256 0)
  have hbb := bytes_lay 8 1 0 0 0 (iv (crc (headL 8 1 0 0 0 ++ List.replicate 256 0))) (List.replicate 256 0) hb
  unfold sum4 at hbb e2 ⊢
  rw [hl] at hll
  rw [parse_f _ hbb (by omega), Option.bind_some, e2, if_pos rfl, if_pos rfl, if_pos (by rw [hll]; rfl), if_pos (by rw [hll]; decide), if_pos rfl, if_pos rfl]
  refine Eq.trans (if_pos ?_) ?_
  · rfl
  show some (((List.replicate 256 (0 : Int)).length : Int) == 256) = _
  rw [hl]
  rfl
theorem same_cart (a b c d f : Int) (l : List Int) (hl : l.length ≤ 9223372036854775806) (k : Nat) (hk : l.length + 1 ≤ k) (a' b' c' d' f' : Int) (l' : List Int) :
    keepsakeref21_Same.f k a b c d f l a' b' c' d' f' l' = some (decide (a = a' ∧ b = b' ∧ c = c' ∧ d = d' ∧ f = f' ∧ l = l')) := by
  unfold keepsakeref21_Same.f
  rw [Same.same_f l l' hl k hk]
  by_cases h1 : a = a' <;> by_cases h2 : b = b' <;> by_cases h3 : c = c' <;> by_cases h4 : d = d' <;> by_cases h5 : f = f' <;> simp [h1, h2, h3, h4, h5]

end Go.Proofs.Ytoiiphlhdnlniaa.Cart
