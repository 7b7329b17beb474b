/- What is decoded is encoded as it was. -/
import Derived.Test.YtlinaijndlcfjaaDoorAx15
import Derived.Test.YtlinaijndlcfjaaDoorDec
import Derived.Test.YtlinaijndlcfjaaDoorAwake
import Derived.Test.YtlinaijndlcfjaaDoorSame
set_option linter.unusedVariables false
set_option linter.unusedSimpArgs false
namespace Go.Proofs.YtlinaijndlcfjaaDoor.Pure
open Go.RowKit Go.Proofs.YtlinaijndlcfjaaDoor.All Go.Proofs.YtlinaijndlcfjaaDoor.Given Go.Proofs.YtlinaijndlcfjaaDoor.Sums Go.Proofs.YtlinaijndlcfjaaDoor.Enc Go.Proofs.YtlinaijndlcfjaaDoor.Chips Go.Proofs.YtlinaijndlcfjaaDoor.Lay Go.Proofs.YtlinaijndlcfjaaDoor.Same Go.Proofs.YtlinaijndlcfjaaDoorW.PrintWords Go.Proofs.YtlinaijndlcfjaaDoorW.PrintLast

theorem take_eight (l : List Int) (h : 8 ≤ l.length) : l.take 8 = [rd l 0, rd l 1, rd l 2, rd l 3, rd l 4, rd l 5, rd l 6, rd l 7] := by
  match l, h with
  | a :: b :: c :: d :: e :: f :: g :: i :: l, _ => rfl
theorem piece (l : List Int) (hb : Bytes l) (i j m : Nat) (hm : j = i + m) (h : j ≤ l.length) : le m (num ((l.take j).drop i)) = (l.take j).drop i := by
  have e : ((l.take j).drop i).length = m := by rw [List.length_drop, List.length_take]; omega
  have := le_num ((l.take j).drop i) (bytes_drop (bytes_take hb j) i)
  rw [e] at this
  exact this
theorem join (l : List Int) (i j : Nat) (h : i ≤ j) : l.take i ++ (l.take j).drop i = l.take j := by
  have := List.take_append_drop i (l.take j)
  rw [List.take_take, Nat.min_eq_left h] at this
  exact this
theorem enc_dec (l : List Int) (hb : Bytes l) (h28 : 28 ≤ l.length) (hm : rd l 0 = 75 ∧ rd l 1 = 69 ∧ rd l 2 = 69 ∧ rd l 3 = 80) (hv : rd l 4 = 1) (hs : Given.iv (crc (l.take 24)) = num ((l.take 28).drop 24)) :
    enc (rd l 5) (rd l 6) (rd l 7) (num ((l.take 12).drop 8)) (num ((l.take 20).drop 12)) (num ((l.take 24).drop 20)) = l.take 28 := by
  have r5 : 0 ≤ rd l 5 ∧ rd l 5 ≤ 255 := rd_byte hb 5 (by omega)
  have r6 : 0 ≤ rd l 6 ∧ rd l 6 ≤ 255 := rd_byte hb 6 (by omega)
  have r7 : 0 ≤ rd l 7 ∧ rd l 7 ≤ 255 := rd_byte hb 7 (by omega)
  have ep : pre (rd l 5) (rd l 6) (rd l 7) (num ((l.take 12).drop 8)) (num ((l.take 20).drop 12)) (num ((l.take 24).drop 20)) = l.take 24 := by
    unfold pre
    rw [piece l hb 8 12 4 rfl (by omega), piece l hb 12 20 8 rfl (by omega), piece l hb 20 24 4 rfl (by omega)]
    have e8 : [75, 69, 69, 80, 1, rd l 5 % 256, rd l 6 % 256, rd l 7 % 256] = l.take 8 := by
      rw [take_eight l (by omega), hm.1, hm.2.1, hm.2.2.1, hm.2.2.2, hv, show rd l 5 % 256 = rd l 5 by omega, show rd l 6 % 256 = rd l 6 by omega, show rd l 7 % 256 = rd l 7 by omega]
    rw [e8, join l 8 12 (by omega), join l 12 20 (by omega), join l 20 24 (by omega)]
  unfold enc shut
  rw [ep, hs, piece l hb 24 28 4 rfl (by omega), join l 24 28 (by omega)]
theorem ref_total (a b c : Int) : keepsakeref03_Total.f a b c = some (tot a b c) := by rw [← total_eq, tot_f]
theorem j1_f (l : List Int) (hb : Bytes l) (h28 : 28 ≤ l.length) (hl : l.length ≤ 1000) (k : Nat) (hk : 300 ≤ k) : keepsakelaw04_HeadAgain.j1 (k + 1) true l = some true := by
  rw [keepsakelaw04_HeadAgain.j1, decode_f l hb k hk hl, Option.bind_some]
  have n28 : ¬ l.length < 28 := by omega
  by_cases hm : rd l 0 = 75 ∧ rd l 1 = 69 ∧ rd l 2 = 69 ∧ rd l 3 = 80
  · by_cases hv : rd l 4 = 1
    · by_cases hs : Given.iv (crc (l.take 24)) = num ((l.take 28).drop 24)
      · cases hc : canB (rd l 5) (rd l 6) (rd l 7) (num ((l.take 12).drop 8))
        · have e : dec l = (0, 0, 0, 0, 0, 0, 9) := by
            unfold dec
            rw [if_neg n28, if_neg (fun h => h hm), if_neg (fun h => h hv), if_neg (fun h => h hs), hc, if_neg (by decide)]
          rw [e]; rfl
        · have e : dec l = (rd l 5, rd l 6, rd l 7, num ((l.take 12).drop 8), num ((l.take 20).drop 12), num ((l.take 24).drop 20), 0) := by
            unfold dec
            rw [if_neg n28, if_neg (fun h => h hm), if_neg (fun h => h hv), if_neg (fun h => h hs), hc, if_pos rfl]
          have hr : rightB (rd l 5) (rd l 6) (rd l 7) = true := by
            have hc := hc
            unfold canB at hc
            rw [Bool.and_eq_true] at hc
            exact hc.1
          obtain ⟨_, _, _, _, _, _, hn, _, _⟩ := can_bd hc
          rw [e, if_pos rfl]
          dsimp only
          rw [encode_ok hc k hk, Option.bind_some, if_pos rfl, if_pos rfl, if_pos (by omega), enc_dec l hb h28 hm hv hs, same_f _ _ (by rw [List.length_take]; omega) k (by rw [List.length_take]; omega), Option.bind_some, if_pos (by simp),
            right_geo, hr, Option.bind_some, if_pos rfl, ref_total, Option.bind_some, ← hn]
          simp
      · have e : dec l = (0, 0, 0, 0, 0, 0, 8) := by
          unfold dec
          rw [if_neg n28, if_neg (fun h => h hm), if_neg (fun h => h hv), if_pos hs]
        rw [e]; rfl
    · have e : dec l = (0, 0, 0, 0, 0, 0, 7) := by
        unfold dec
        rw [if_neg n28, if_neg (fun h => h hm), if_pos hv]
      rw [e]; rfl
  · have e : dec l = (0, 0, 0, 0, 0, 0, 6) := by
      unfold dec
      rw [if_neg n28, if_pos hm]
    rw [e]; rfl
theorem HeadAgain : keepsakelaw04_HeadAgain.Pure := by
  intro l b hl _ hw
  have hb := bytes_of_wf hw
  refine ⟨300 + 102, ?_⟩
  unfold keepsakelaw04_HeadAgain.f
  rw [awake, Option.bind_some, show (300 + 102 : Nat) = 400 + 1 + 1 from rfl]
  by_cases h1 : (l.length : Int) < 28
  · rw [if_pos h1, keepsakelaw04_HeadAgain.j0, if_pos rfl]
  rw [if_neg h1, keepsakelaw04_HeadAgain.j0]
  by_cases h2 : (l.length : Int) > 60
  · rw [if_pos (by simpa using h2)]
  rw [if_neg (by simpa using h2), Option.bind_some, if_pos (by simp; omega)]
  cases b
  · rw [if_neg (by decide), List.nil_append]
    exact j1_f l hb (by omega) (by omega) 400 (by omega)
  · have l24 : (l.take 24).length = 24 := by rw [List.length_take]; omega
    have c0 := Given.iv_lo (crc (l.take 24)); have c1 := Given.iv_hi (crc (l.take 24))
    have e4 := bytes_f 401 4 (Given.iv (crc (l.take 24))) (by omega) (by omega) c0 (by omega)
    rw [show ((4 : Nat) : Int) = 4 from rfl] at e4
    rw [if_pos rfl, Option.bind_some, if_pos (by omega), if_pos (by rw [l24]; decide), Option.bind_some, sum_f _ (bytes_take hb 24) (by rw [l24]; decide) 401 (by rw [l24]; decide), Option.bind_some,
      show IntKind.u64.wrap (Given.iv (crc (l.take 24))) = Given.iv (crc (l.take 24)) by rw [IntKind.wrap_u64]; omega, e4, Option.bind_some, List.nil_append, if_pos (by rw [l24, le_len]; decide)]
    exact j1_f _ (bytes_append (bytes_take hb 24) (le_bytes 4 _)) (by rw [List.length_append, l24, le_len]; omega) (by rw [List.length_append, l24, le_len]; omega) 400 (by omega)

end Go.Proofs.YtlinaijndlcfjaaDoor.Pure
