/- What is encoded is decoded, whatever stands behind it. -/
import Derived.Test.YtlinaijndlcfjaaDoorAx13
import Derived.Test.YtlinaijndlcfjaaDoorDec
import Derived.Test.YtlinaijndlcfjaaDoorAwake
set_option linter.unusedVariables false
set_option linter.unusedSimpArgs false
namespace Go.Proofs.YtlinaijndlcfjaaDoor.Pure
open Go.RowKit Go.Proofs.YtlinaijndlcfjaaDoor.All Go.Proofs.YtlinaijndlcfjaaDoor.Given Go.Proofs.YtlinaijndlcfjaaDoor.Sums Go.Proofs.YtlinaijndlcfjaaDoor.Enc Go.Proofs.YtlinaijndlcfjaaDoor.Chips Go.Proofs.YtlinaijndlcfjaaDoor.Lay Go.Proofs.YtlinaijndlcfjaaDoorW.PrintWords Go.Proofs.YtlinaijndlcfjaaDoorW.PrintLast

theorem num_iv (w : Math.W) : num (le 4 (Given.iv w)) = Given.iv w := num_le 4 _ (Given.iv_lo w) (Given.iv_hi w)
theorem dec_enc {a b c n s m : Int} (h : canB a b c n = true) (s0 : 0 ≤ s) (s1 : s < 18446744073709551616) (m0 : 0 ≤ m) (m1 : m < 4294967296) (r : List Int) : dec (enc a b c n s m ++ r) = (a, b, c, n, s, m, 0) := by
  obtain ⟨a0, a1, b0, b1, c0, c1, hn, n0, n1⟩ := can_bd h
  have hl : ¬ (enc a b c n s m ++ r).length < 28 := by rw [List.length_append, enc_len]; omega
  have e24 : (enc a b c n s m ++ r).take 24 = pre a b c n s m := by
    unfold enc shut
    rw [List.append_assoc]
    exact List.take_left' (pre_len a b c n s m)
  have e28 : ((enc a b c n s m ++ r).take 28).drop 24 = le 4 (Given.iv (crc (pre a b c n s m))) := by
    rw [List.take_left' (enc_len a b c n s m)]
    exact List.drop_left' (pre_len a b c n s m)
  have r5 : rd (enc a b c n s m ++ r) 5 = a % 256 := rfl
  have r6 : rd (enc a b c n s m ++ r) 6 = b % 256 := rfl
  have r7 : rd (enc a b c n s m ++ r) 7 = c % 256 := rfl
  have e12 : ((enc a b c n s m ++ r).take 12).drop 8 = le 4 n := rfl
  have e20 : ((enc a b c n s m ++ r).take 20).drop 12 = le 8 s := rfl
  have e4 : ((enc a b c n s m ++ r).take 24).drop 20 = le 4 m := rfl
  unfold dec
  rw [if_neg hl, if_neg (fun hh => hh ⟨rfl, rfl, rfl, rfl⟩), if_neg (fun hh => hh rfl), e4, e24, e28, num_iv, if_neg (fun hh => hh rfl), r5, r6, r7, e12, e20,
    num_le 4 n n0 (by show n < 4294967296; omega), num_le 8 s s0 s1, num_le 4 m m0 m1, show a % 256 = a by omega, show b % 256 = b by omega, show c % 256 = c by omega, if_pos h]
theorem HeadBack : keepsakelaw04_HeadBack.Pure := by
  intro a0 a1 a2 s m l h0 h1 h2 hs hm hl _ hw
  have hb := bytes_of_wf hw
  obtain ⟨a0l, a0h⟩ := u8_bd h0
  obtain ⟨a1l, a1h⟩ := u8_bd h1
  obtain ⟨a2l, a2h⟩ := u8_bd h2
  obtain ⟨s0, s1⟩ := u64_bd hs
  have hm : 0 ≤ m ∧ m < 4294967296 := by
    simp [Lit.wf, IntKind.min, IntKind.max, IntKind.signed, IntKind.bits] at hm
    omega
  refine ⟨300 + 100, ?_⟩
  unfold keepsakelaw04_HeadBack.f
  rw [awake, Option.bind_some]
  by_cases h20 : (l.length : Int) > 20
  · rw [if_pos h20]
  rw [if_neg h20, Int.tmod_eq_emod_of_nonneg a0l, Int.tmod_eq_emod_of_nonneg a1l, Int.tmod_eq_emod_of_nonneg a2l, Sums.w64 (a0 % 11) (by omega) (by omega), Sums.w64 (a1 % 65) (by omega) (by omega), Sums.w64 (a2 % 129) (by omega) (by omega), tot_f, Option.bind_some]
  have hc : canB (a0 % 11) (a1 % 65) (a2 % 129) (tot (a0 % 11) (a1 % 65) (a2 % 129)) = true := by
    unfold canB rightB
    simp
    omega
  generalize a0 % 11 = a at *
  generalize a1 % 65 = b at *
  generalize a2 % 129 = c at *
  generalize tot a b c = n at *
  have d1 := decode_f (enc a b c n s m ++ l) (bytes_append (enc_bytes a b c n s m) hb) 399 (by omega) (by rw [List.length_append, enc_len]; omega)
  rw [dec_enc hc s0 (by omega) hm.1 hm.2 l] at d1
  have l27 : ((enc a b c n s m).take 27).length = 27 := by rw [List.length_take, enc_len]; rfl
  have d2 := decode_f ((enc a b c n s m).take 27) (bytes_take (enc_bytes a b c n s m) 27) 399 (by omega) (by rw [l27]; omega)
  have d3 : dec ((enc a b c n s m).take 27) = (0, 0, 0, 0, 0, 0, 5) := by unfold dec; rw [if_pos (by rw [l27]; decide)]
  rw [d3] at d2
  rw [encode_ok hc _ (by omega), Option.bind_some, if_pos rfl, show (300 + 100 : Nat) = 399 + 1 from rfl, keepsakelaw04_HeadBack.j0, if_neg (by rw [enc_len]; decide), Option.bind_some, List.nil_append, if_pos (by rw [enc_len]; decide), Option.bind_some,
    if_pos (by rw [enc_len]; omega), d1, Option.bind_some, if_pos (by rw [enc_len]; decide), d2, Option.bind_some, if_pos rfl, if_pos rfl, if_pos (by simp)]
  rfl

end Go.Proofs.YtlinaijndlcfjaaDoor.Pure
