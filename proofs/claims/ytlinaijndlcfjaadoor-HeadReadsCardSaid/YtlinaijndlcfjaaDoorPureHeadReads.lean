/- The head that any bytes begin with, or what is wrong, is as the document says. -/
import Derived.Test.YtlinaijndlcfjaaDoorAx12
import Derived.Test.YtlinaijndlcfjaaDoorAx11
import Derived.Test.YtlinaijndlcfjaaDoorDec
import Derived.Test.YtlinaijndlcfjaaDoorAwake
import Derived.Test.YtlinaijndlcfjaaDoorRefSum
set_option linter.unusedVariables false
set_option linter.unusedSimpArgs false
namespace Go.Proofs.YtlinaijndlcfjaaDoor.Pure
open Go.RowKit Go.Proofs.YtlinaijndlcfjaaDoor.All Go.Proofs.YtlinaijndlcfjaaDoor.Given Go.Proofs.YtlinaijndlcfjaaDoor.Sums Go.Proofs.YtlinaijndlcfjaaDoor.Refs Go.Proofs.YtlinaijndlcfjaaDoor.Enc Go.Proofs.YtlinaijndlcfjaaDoor.Chips Go.Proofs.YtlinaijndlcfjaaDoor.Lay Go.Proofs.YtlinaijndlcfjaaDoorW.PrintWords Go.Proofs.YtlinaijndlcfjaaDoorW.PrintLast

theorem dec_ref_j0 (l : List Int) (hb : Bytes l) (k : Nat) (hk : 40000 ≤ k) (h28 : ¬ l.length < 28) (hl : l.length ≤ 1000) (hm : rd l 0 = 75 ∧ rd l 1 = 69 ∧ rd l 2 = 69 ∧ rd l 3 = 80) :
    keepsakeref04_Decode.j0 (k + 1) l false = some (dec l) := by
  have nm : ¬ ¬ (rd l 0 = 75 ∧ rd l 1 = 69 ∧ rd l 2 = 69 ∧ rd l 3 = 80) := fun h => h hm
  unfold dec
  rw [keepsakeref04_Decode.j0, if_neg (by decide), if_pos (by omega), if_neg h28, if_neg nm]
  by_cases hv : rd l 4 = 1
  · have l24 : (l.take 24).length = 24 := by rw [List.length_take]; omega
    have nv : ¬ ¬ rd l 4 = 1 := fun h => h hv
    rw [if_pos hv, if_neg nv, if_pos (by decide), if_pos (by omega), number _ (bytes_drop (bytes_take hb 28) 24) (by rw [List.length_drop, List.length_take]; omega) k (by omega), Option.bind_some, if_pos (by omega),
      refSum_f _ (bytes_take hb 24) (by omega) k hk, Option.bind_some, show IntKind.u64.wrap (iv (crc (l.take 24))) = iv (crc (l.take 24)) by have := iv_lo (crc (l.take 24)); have := iv_hi (crc (l.take 24)); rw [IntKind.wrap_u64]; omega]
    by_cases hs : iv (crc (l.take 24)) = num ((l.take 28).drop 24)
    · have r5 : 0 ≤ rd l 5 ∧ rd l 5 ≤ 255 := rd_byte hb 5 (by omega)
      have r6 : 0 ≤ rd l 6 ∧ rd l 6 ≤ 255 := rd_byte hb 6 (by omega)
      have r7 : 0 ≤ rd l 7 ∧ rd l 7 ≤ 255 := rd_byte hb 7 (by omega)
      have nb := num_bd ((l.take 12).drop 8) (bytes_drop (bytes_take hb 12) 8)
      have e4 : ((l.take 12).drop 8).length = 4 := by rw [List.length_drop, List.length_take]; omega
      rw [e4] at nb
      have nb1 : num ((l.take 12).drop 8) < 4294967296 := nb.2
      have mb := num_bd ((l.take 24).drop 20) (bytes_drop (bytes_take hb 24) 20)
      have e5 : ((l.take 24).drop 20).length = 4 := by rw [List.length_drop, List.length_take]; omega
      rw [e5] at mb
      have mb1 : num ((l.take 24).drop 20) < 4294967296 := mb.2
      have ns : ¬ ¬ iv (crc (l.take 24)) = num ((l.take 28).drop 24) := fun h => h hs
      rw [if_pos hs.symm, if_neg ns, if_pos (by omega), if_pos (by omega), if_pos (by omega), if_pos (by decide), if_pos (by omega),
        number _ (bytes_drop (bytes_take hb 12) 8) (by omega) k (by omega), Option.bind_some, if_pos (by decide), if_pos (by omega),
        number _ (bytes_drop (bytes_take hb 20) 12) (by rw [List.length_drop, List.length_take]; omega) k (by omega), Option.bind_some, if_pos (by decide),
        number _ (bytes_drop (bytes_take hb 24) 20) (by omega) k (by omega), Option.bind_some,
        Sums.w64 (rd l 5) (by omega) (by omega), Sums.w64 (rd l 6) (by omega) (by omega), Sums.w64 (rd l 7) (by omega) (by omega), Sums.w64 (num ((l.take 12).drop 8)) (by omega) (by omega), show num ((l.take 24).drop 20) % 4294967296 = num ((l.take 24).drop 20) by omega,
        ← can_eq, can_f, Option.bind_some]
      cases canB (rd l 5) (rd l 6) (rd l 7) (num ((l.take 12).drop 8)) <;> rfl
    · rw [if_neg (fun h => hs h.symm), if_pos hs]
  · rw [if_neg hv, if_pos hv]
theorem dec_ref (l : List Int) (hb : Bytes l) (k : Nat) (hk : 40000 ≤ k) (hl : l.length ≤ 1000) : keepsakeref04_Decode.f (k + 1) l = some (dec l) := by
  by_cases h28 : l.length < 28
  · unfold keepsakeref04_Decode.f dec
    rw [if_pos (by omega), if_pos h28]
  have hno : ¬ (rd l 0 = 75 ∧ rd l 1 = 69 ∧ rd l 2 = 69 ∧ rd l 3 = 80) → keepsakeref04_Decode.j0 (k + 1) l true = some (dec l) := by
    intro hm
    unfold dec
    rw [keepsakeref04_Decode.j0, if_pos rfl, if_neg h28, if_pos hm]
  unfold keepsakeref04_Decode.f
  rw [if_neg (by omega), if_pos (by omega)]
  by_cases h0 : rd l 0 = 75
  · rw [if_pos h0, if_pos (by omega)]
    by_cases h1 : rd l 1 = 69
    · rw [if_pos h1, if_pos (by omega)]
      by_cases h2 : rd l 2 = 69
      · rw [if_pos h2, if_pos (by omega)]
        by_cases h3 : rd l 3 = 80
        · rw [show (rd l 3 != 80) = false by rw [h3]; rfl]
          exact dec_ref_j0 l hb k hk h28 hl ⟨h0, h1, h2, h3⟩
        · rw [show (rd l 3 != 80) = true by simpa using h3]
          exact hno (fun h => h3 h.2.2.2)
      · rw [if_neg h2]; exact hno (fun h => h2 h.2.2.1)
    · rw [if_neg h1]; exact hno (fun h => h1 h.2.1)
  · rw [if_neg h0]; exact hno (fun h => h0 h.1)
theorem HeadReads : keepsakelaw04_HeadReads.Pure := by
  intro l hl _ hw
  have hb := bytes_of_wf hw
  refine ⟨300 + 40002, ?_⟩
  unfold keepsakelaw04_HeadReads.f
  rw [awake, Option.bind_some]
  by_cases h60 : (l.length : Int) > 60
  · rw [if_pos h60]
  rw [if_neg h60, decode_f l hb _ (by omega) (by omega), Option.bind_some, show (300 + 40002 : Nat) = 40301 + 1 from rfl, dec_ref l hb 40301 (by omega) (by omega), Option.bind_some]
  generalize dec l = r
  rw [if_neg (by simp), show (r.2.2.2.2.2.2 != r.2.2.2.2.2.2) = false by simp, keepsakelaw04_HeadReads.j0, if_neg (by decide)]
  by_cases h24 : (l.length : Int) < 24
  · rw [if_pos h24]
  have l24 : (l.take 24).length = 24 := by rw [List.length_take]; omega
  have c0 := Given.iv_lo (crc (l.take 24)); have c1 := Given.iv_hi (crc (l.take 24))
  have e4 := bytes_f 40301 4 (Given.iv (crc (l.take 24))) (by omega) (by omega) c0 (by omega)
  rw [show ((4 : Nat) : Int) = 4 from rfl] at e4
  have hb2 : Bytes (l.take 24 ++ le 4 (Given.iv (crc (l.take 24)))) := bytes_append (bytes_take hb 24) (le_bytes 4 _)
  have hl2 : (l.take 24 ++ le 4 (Given.iv (crc (l.take 24)))).length = 28 := by rw [List.length_append, l24, le_len]
  rw [if_neg h24, Option.bind_some, if_pos (by omega), if_pos (by rw [l24]; decide), Option.bind_some, List.nil_append, sum_f _ (bytes_take hb 24) (by rw [l24]; decide) 40301 (by rw [l24]; decide), Option.bind_some,
    show IntKind.u64.wrap (Given.iv (crc (l.take 24))) = Given.iv (crc (l.take 24)) by rw [IntKind.wrap_u64]; omega, e4, Option.bind_some, if_pos (by rw [l24, le_len]; decide), Option.bind_some,
    decode_f _ hb2 _ (by omega) (by omega), Option.bind_some, show (40301 : Nat) = 40300 + 1 from rfl, dec_ref _ hb2 40300 (by omega) (by omega), Option.bind_some]
  generalize dec (l.take 24 ++ le 4 (Given.iv (crc (l.take 24)))) = q
  simp

end Go.Proofs.YtlinaijndlcfjaaDoor.Pure
