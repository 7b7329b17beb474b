/- What Decode answers, in plain terms. -/
import Derived.Test.YtlinaijndlcfjaaDoorAx5
import Derived.Test.YtlinaijndlcfjaaDoorEnc
import Derived.Lib.Bytes
set_option linter.unusedVariables false
set_option linter.unusedSimpArgs false
namespace Go.Proofs.YtlinaijndlcfjaaDoor.Enc
open Go.RowKit Go.Proofs.YtlinaijndlcfjaaDoor.All Go.Proofs.YtlinaijndlcfjaaDoor.Given Go.Proofs.YtlinaijndlcfjaaDoor.Sums Go.Proofs.YtlinaijndlcfjaaDoor.Refs Go.Proofs.YtlinaijndlcfjaaDoor.Math Go.Proofs.YtlinaijndlcfjaaDoor.Lay Go.Proofs.YtlinaijndlcfjaaDoor.Chips Go.Proofs.YtlinaijndlcfjaaDoorW.PrintWords Go.Proofs.YtlinaijndlcfjaaDoorW.PrintLast

/-- A head out of bytes that are well. -/
def dec (l : List Int) : Int × Int × Int × Int × Int × Int × Int :=
  if l.length < 28 then (0, 0, 0, 0, 0, 0, 5)
  else if ¬ (rd l 0 = 75 ∧ rd l 1 = 69 ∧ rd l 2 = 69 ∧ rd l 3 = 80) then (0, 0, 0, 0, 0, 0, 6)
  else if ¬ rd l 4 = 1 then (0, 0, 0, 0, 0, 0, 7)
  else if ¬ iv (crc (l.take 24)) = num ((l.take 28).drop 24) then (0, 0, 0, 0, 0, 0, 8)
  else if canB (rd l 5) (rd l 6) (rd l 7) (num ((l.take 12).drop 8)) then
    (rd l 5, rd l 6, rd l 7, num ((l.take 12).drop 8), num ((l.take 20).drop 12), num ((l.take 24).drop 20), 0)
  else (0, 0, 0, 0, 0, 0, 9)
theorem str_four (a b c d : Int) (ha : 0 ≤ a ∧ a ≤ 255) (hb : 0 ≤ b ∧ b ≤ 255) (hc : 0 ≤ c ∧ c ≤ 255) (hd : 0 ≤ d ∧ d ≤ 255) :
    ((strOfNums [a, b, c, d]).toList = ([75, 69, 69, 80] : List UInt8)) ↔ (a = 75 ∧ b = 69 ∧ c = 69 ∧ d = 80) := by
  rw [Lib.strOfNums_toList]
  have key : ∀ (x : Int) (y : Nat), 0 ≤ x ∧ x ≤ 255 → y < 256 → (UInt8.ofNat x.toNat = UInt8.ofNat y ↔ x = y) := by
    intro x y hx hy
    constructor
    · intro h
      have h := congrArg UInt8.toNat h
      rw [UInt8.toNat_ofNat', UInt8.toNat_ofNat'] at h
      omega
    · rintro rfl
      rfl
  show [UInt8.ofNat a.toNat, UInt8.ofNat b.toNat, UInt8.ofNat c.toNat, UInt8.ofNat d.toNat] = [UInt8.ofNat 75, UInt8.ofNat 69, UInt8.ofNat 69, UInt8.ofNat 80] ↔ _
  simp only [List.cons.injEq, and_true]
  rw [key a 75 ha (by omega), key b 69 hb (by omega), key c 69 hc (by omega), key d 80 hd (by omega)]
  rfl
theorem take_four (l : List Int) (h : 4 ≤ l.length) : l.take 4 = [rd l 0, rd l 1, rd l 2, rd l 3] := by
  match l, h with
  | a :: b :: c :: d :: l, _ => rfl
theorem decode_f (l : List Int) (hb : Bytes l) (k : Nat) (hk : 300 ≤ k) (hl : l.length ≤ 1000) : head_Decode.f k l = some (dec l) := by
  unfold head_Decode.f dec
  by_cases h28 : l.length < 28
  · rw [if_pos (by omega), if_pos h28]
  rw [if_neg (by omega), if_neg h28, if_pos (by omega), take_four l (by omega)]
  have r0 : 0 ≤ rd l 0 ∧ rd l 0 ≤ 255 := rd_byte hb 0 (by omega)
  have r1 : 0 ≤ rd l 1 ∧ rd l 1 ≤ 255 := rd_byte hb 1 (by omega)
  have r2 : 0 ≤ rd l 2 ∧ rd l 2 ≤ 255 := rd_byte hb 2 (by omega)
  have r3 : 0 ≤ rd l 3 ∧ rd l 3 ≤ 255 := rd_byte hb 3 (by omega)
  by_cases hm : rd l 0 = 75 ∧ rd l 1 = 69 ∧ rd l 2 = 69 ∧ rd l 3 = 80
  · rw [if_pos ((str_four _ _ _ _ r0 r1 r2 r3).2 hm), if_neg (show ¬ ¬ (rd l 0 = 75 ∧ rd l 1 = 69 ∧ rd l 2 = 69 ∧ rd l 3 = 80) from fun h => h hm), if_pos (by omega)]
    by_cases hv : rd l 4 = 1
    · rw [if_pos hv, if_neg (show ¬ ¬ rd l 4 = 1 from fun h => h hv), if_pos (by omega), sum_f _ (bytes_take hb 24) (by rw [List.length_take]; omega) k (by rw [List.length_take]; omega), Option.bind_some, if_pos (by decide), if_pos (by omega),
        take32 _ (bytes_drop (bytes_take hb 28) 24) (by rw [List.length_drop, List.length_take]; omega) k (by omega), Option.bind_some]
      by_cases hs : iv (crc (l.take 24)) = num ((l.take 28).drop 24)
      · have r5 : 0 ≤ rd l 5 ∧ rd l 5 ≤ 255 := rd_byte hb 5 (by omega)
        have r6 : 0 ≤ rd l 6 ∧ rd l 6 ≤ 255 := rd_byte hb 6 (by omega)
        have r7 : 0 ≤ rd l 7 ∧ rd l 7 ≤ 255 := rd_byte hb 7 (by omega)
        rw [if_pos hs, if_neg (show ¬ ¬ iv (crc (l.take 24)) = num ((l.take 28).drop 24) from fun h => h hs), if_pos (by omega), if_pos (by omega), if_pos (by omega), if_pos (by decide), if_pos (by omega),
          take32 _ (bytes_drop (bytes_take hb 12) 8) (by rw [List.length_drop, List.length_take]; omega) k (by omega), Option.bind_some, if_pos (by decide), if_pos (by omega),
          take64 _ (bytes_drop (bytes_take hb 20) 12) (by rw [List.length_drop, List.length_take]; omega) k (by omega), Option.bind_some, if_pos (by decide),
          take32 _ (bytes_drop (bytes_take hb 24) 20) (by rw [List.length_drop, List.length_take]; omega) k (by omega), Option.bind_some]
        have nb := num_bd ((l.take 12).drop 8) (bytes_drop (bytes_take hb 12) 8)
        have e4 : ((l.take 12).drop 8).length = 4 := by rw [List.length_drop, List.length_take]; omega
        rw [e4] at nb
        have nb1 : num ((l.take 12).drop 8) < 4294967296 := nb.2
        rw [Sums.w64 (rd l 5) (by omega) (by omega), Sums.w64 (rd l 6) (by omega) (by omega), Sums.w64 (rd l 7) (by omega) (by omega), Sums.w64 (num ((l.take 12).drop 8)) (by omega) (by omega), can_f, Option.bind_some]
        cases canB (rd l 5) (rd l 6) (rd l 7) (num ((l.take 12).drop 8)) <;> rfl
      · rw [if_neg hs, if_pos hs]
    · rw [if_neg hv, if_pos hv]
  · rw [if_neg (fun h => hm ((str_four _ _ _ _ r0 r1 r2 r3).1 h)), if_pos hm]

end Go.Proofs.YtlinaijndlcfjaaDoor.Enc
