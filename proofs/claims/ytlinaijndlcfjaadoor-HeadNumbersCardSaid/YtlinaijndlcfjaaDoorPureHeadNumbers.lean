/- Two heads that differ by their number alone have their first twelve bytes alike; unlike heads have unlike bytes. -/
import Derived.Test.YtlinaijndlcfjaaDoorAx13
import Derived.Test.YtlinaijndlcfjaaDoorEnc
import Derived.Test.YtlinaijndlcfjaaDoorAwake
import Derived.Test.YtlinaijndlcfjaaDoorSame
set_option linter.unusedVariables false
set_option linter.unusedSimpArgs false
namespace Go.Proofs.YtlinaijndlcfjaaDoor.Pure
open Go.RowKit Go.Proofs.YtlinaijndlcfjaaDoor.All Go.Proofs.YtlinaijndlcfjaaDoor.Given Go.Proofs.YtlinaijndlcfjaaDoor.Sums Go.Proofs.YtlinaijndlcfjaaDoor.Enc Go.Proofs.YtlinaijndlcfjaaDoor.Chips Go.Proofs.YtlinaijndlcfjaaDoor.Lay Go.Proofs.YtlinaijndlcfjaaDoor.Same Go.Proofs.YtlinaijndlcfjaaDoorW.PrintWords Go.Proofs.YtlinaijndlcfjaaDoorW.PrintLast

def first (a b c n : Int) : List Int := [75, 69, 69, 80, 1, a % 256, b % 256, c % 256] ++ le 4 n
theorem first_len (a b c n : Int) : (first a b c n).length = 12 := by simp [first, le_len]
theorem enc_split (a b c n s m : Int) : enc a b c n s m = first a b c n ++ (le 8 s ++ (le 4 m ++ le 4 (Given.iv (Sums.crc (pre a b c n s m))))) := by
  simp [enc, shut, pre, first, List.append_assoc]
theorem enc_take (a b c n s m : Int) : (enc a b c n s m).take 12 = first a b c n := by
  rw [enc_split]; exact List.take_left' (first_len a b c n)
theorem le_inj (k : Nat) {x y : Int} (h : le k x = le k y) (x0 : 0 ≤ x) (x1 : x < ((256 ^ k : Nat) : Int)) (y0 : 0 ≤ y) (y1 : y < ((256 ^ k : Nat) : Int)) : x = y := by
  rw [← num_le k x x0 x1, h, num_le k y y0 y1]
theorem first_inj {a b c n a' b' c' n' : Int} (h : canB a b c n = true) (h' : canB a' b' c' n' = true) (e : first a b c n = first a' b' c' n') : a = a' ∧ b = b' ∧ c = c' ∧ n = n' := by
  obtain ⟨a0, a1, b0, b1, c0, c1, hn, n0, n1⟩ := can_bd h
  obtain ⟨a0', a1', b0', b1', c0', c1', hn', n0', n1'⟩ := can_bd h'
  obtain ⟨e1, e2⟩ := List.append_inj e rfl
  simp only [List.cons.injEq, true_and, and_true] at e1
  exact ⟨by omega, by omega, by omega, le_inj 4 e2 n0 (by show n < 4294967296; omega) n0' (by show n' < 4294967296; omega)⟩
theorem enc_inj {a b c n s m a' b' c' n' s' m' : Int} (h : canB a b c n = true) (h' : canB a' b' c' n' = true) (s0 : 0 ≤ s) (s1 : s < 18446744073709551616) (s0' : 0 ≤ s') (s1' : s' < 18446744073709551616)
    (m0 : 0 ≤ m) (m1 : m < 4294967296) (m0' : 0 ≤ m') (m1' : m' < 4294967296) (e : enc a b c n s m = enc a' b' c' n' s' m') : a = a' ∧ b = b' ∧ c = c' ∧ n = n' ∧ s = s' ∧ m = m' := by
  rw [enc_split, enc_split] at e
  obtain ⟨e1, e2⟩ := List.append_inj e (by rw [first_len, first_len])
  obtain ⟨e2, e3⟩ := List.append_inj e2 (by rw [le_len, le_len])
  obtain ⟨e3, _⟩ := List.append_inj e3 (by rw [le_len, le_len])
  obtain ⟨ea, eb, ec, en⟩ := first_inj h h' e1
  exact ⟨ea, eb, ec, en, le_inj 8 e2 s0 s1 s0' s1', le_inj 4 e3 m0 m1 m0' m1'⟩
theorem u32_bd {m : Int} (hm : (Lit.int .u32 m).wf = true) : 0 ≤ m ∧ m < 4294967296 := by
  simp [Lit.wf, IntKind.min, IntKind.max, IntKind.signed, IntKind.bits] at hm
  omega
theorem HeadNumbers : keepsakelaw04_HeadNumbers.Pure := by
  intro a b c n s m a' b' c' n' s' m' _ _ _ _ hs hm _ _ _ _ hs' hm'
  obtain ⟨s0, s1⟩ := u64_bd hs
  obtain ⟨s0', s1'⟩ := u64_bd hs'
  obtain ⟨m0, m1⟩ := u32_bd hm
  obtain ⟨m0', m1'⟩ := u32_bd hm'
  refine ⟨300 + 100, ?_⟩
  unfold keepsakelaw04_HeadNumbers.f
  rw [awake, Option.bind_some]
  cases h : canB a b c n
  · rw [encode_no h, Option.bind_some]
    obtain ⟨r, hr⟩ : ∃ r, head_Encode.f (300 + 100) a' b' c' n' s' m' = some r := by
      cases h' : canB a' b' c' n'
      · exact ⟨_, encode_no h' _⟩
      · exact ⟨_, encode_ok h' _ (by omega)⟩
    rw [hr, Option.bind_some, if_neg (by decide), show (300 + 100 : Nat) = 399 + 1 from rfl, keepsakelaw04_HeadNumbers.j0, if_pos rfl, if_pos rfl]
    simp [wrap64]
  · rw [encode_ok h _ (by omega), Option.bind_some]
    cases h' : canB a' b' c' n'
    · rw [encode_no h', Option.bind_some, if_pos rfl, show (300 + 100 : Nat) = 399 + 1 from rfl, keepsakelaw04_HeadNumbers.j0, if_pos (by decide), if_pos rfl]
      simp [wrap64]
    · rw [encode_ok h' _ (by omega), Option.bind_some, if_pos rfl, show (300 + 100 : Nat) = 399 + 1 from rfl, keepsakelaw04_HeadNumbers.j0, if_neg (by simp), if_pos (by rw [enc_len]; rfl),
        show (399 : Nat) = 398 + 1 from rfl, keepsakelaw04_HeadNumbers.j1, if_neg (by rw [enc_len]; decide), same_f _ _ (by rw [enc_len]; decide) _ (by rw [enc_len]; decide), Option.bind_some,
        if_pos (by rw [enc_len]; decide), if_pos (by rw [enc_len]; decide), enc_take, enc_take, same_f _ _ (by rw [first_len]; decide) _ (by rw [first_len]; decide), Option.bind_some, if_pos rfl]
      have e1 : decide (enc a b c n s m = enc a' b' c' n' s' m') = ((a == a' && (b == b' && (c == c'))) && (n == n' && (s == s' && (m == m')))) := by
        rw [Bool.eq_iff_iff]
        simp only [decide_eq_true_eq, Bool.and_eq_true, beq_iff_eq]
        constructor
        · intro e
          obtain ⟨ea, eb, ec, en, es, em⟩ := enc_inj h h' s0 (by omega) s0' (by omega) m0 m1 m0' m1' e
          exact ⟨⟨ea, eb, ec⟩, en, es, em⟩
        · rintro ⟨⟨rfl, rfl, rfl⟩, rfl, rfl, rfl⟩
          rfl
      have e2 : decide (first a b c n = first a' b' c' n') = (a == a' && (b == b' && (c == c'))) := by
        rw [Bool.eq_iff_iff]
        simp only [decide_eq_true_eq, Bool.and_eq_true, beq_iff_eq]
        constructor
        · intro e
          obtain ⟨ea, eb, ec, en⟩ := first_inj h h' e
          exact ⟨ea, eb, ec⟩
        · rintro ⟨rfl, rfl, rfl⟩
          obtain ⟨_, _, _, _, _, _, hn, _⟩ := can_bd h
          obtain ⟨_, _, _, _, _, _, hn', _⟩ := can_bd h'
          rw [hn, hn']
      rw [e1, e2, if_pos (by simp)]
      simp

end Go.Proofs.YtlinaijndlcfjaaDoor.Pure
