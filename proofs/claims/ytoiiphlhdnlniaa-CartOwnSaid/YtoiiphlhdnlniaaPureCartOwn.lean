/- What is parsed is memory of its own, and so is what is made. -/
import Derived.Test.YtoiiphlhdnlniaaAx13
import Derived.Test.YtoiiphlhdnlniaaCart
import Derived.Test.YtoiiphlhdnlniaaFill
set_option linter.unusedVariables false
set_option linter.unusedSimpArgs false
namespace Go.Proofs.Ytoiiphlhdnlniaa.Pure
open Go.RowKit Go.Proofs.Ytoiiphlhdnlniaa.All Go.Proofs.Ytoiiphlhdnlniaa.Given Go.Proofs.Ytoiiphlhdnlniaa.Sums Go.Proofs.Ytoiiphlhdnlniaa.Lay Go.Proofs.Ytoiiphlhdnlniaa.Cart Go.Proofs.YtoiiphlhdnlniaaW.PrintWords Go.Proofs.YtoiiphlhdnlniaaW.PrintLast

theorem own_l1 (x : Int) (r : List Int) (hr : r.length ≤ 1000) (d : Nat) : ∀ (k i : Nat) (l : List Int) (a b c e f : Int), i + d = 272 → d + 2000 ≤ k → l.length = 272 →
    keepsakelaw21_CartOwn.l1 k x true r l true i a b c e f r = some true := by
  induction d with
  | zero =>
    intro k i l a b c e f hi hk hl
    obtain ⟨k, rfl⟩ : ∃ m, k = m + 1 := ⟨k - 1, by omega⟩
    rw [keepsakelaw21_CartOwn.l1, if_neg (by omega), if_pos rfl, if_pos rfl, Same.same_f r r (by omega) k (by omega), Option.bind_some]
    simp
  | succ d ih =>
    intro k i l a b c e f hi hk hl
    obtain ⟨k, rfl⟩ : ∃ m, k = m + 1 := ⟨k - 1, by omega⟩
    rw [keepsakelaw21_CartOwn.l1, if_pos (by omega), if_pos (by omega), if_pos (by omega), w64 _ (by omega) (by omega), show ((i : Int) + 1) = ((i + 1 : Nat) : Int) by omega]
    exact ih k (i + 1) _ a b c e f (by omega) (by omega) (by rw [List.length_set]; exact hl)
theorem own_l0 (x : Int) (r l : List Int) (hr : r.length ≤ 1000) (hl : l.length = 272) (a b c e f a' b' c' e' f' : Int) (d : Nat) : ∀ (k i : Nat) (z : List Int), i + d = 256 → d + 4000 ≤ k → z.length = 256 →
    keepsakelaw21_CartOwn.l0 k x true r l l i a b c e f z a' b' c' e' f' r = some true := by
  induction d with
  | zero =>
    intro k i z hi hk hz
    obtain ⟨k, rfl⟩ : ∃ m, k = m + 1 := ⟨k - 1, by omega⟩
    rw [keepsakelaw21_CartOwn.l0, if_neg (by omega), Same.same_f l l (by omega) k (by omega), Option.bind_some, show decide (l = l) = true by simp]
    exact own_l1 x r hr 272 k 0 l a' b' c' e' f' (by omega) (by omega) hl
  | succ d ih =>
    intro k i z hi hk hz
    obtain ⟨k, rfl⟩ : ∃ m, k = m + 1 := ⟨k - 1, by omega⟩
    rw [keepsakelaw21_CartOwn.l0, if_pos (by omega), if_pos (by omega), if_pos (by omega), w64 _ (by omega) (by omega), show ((i : Int) + 1) = ((i + 1 : Nat) : Int) by omega]
    exact ih k (i + 1) _ (by omega) (by omega) (by rw [List.length_set]; exact hz)
theorem CartOwn : keepsakelaw21_CartOwn.Pure := by
  intro l x hl _ hw hx
  have hb := bytes_of_wf hw
  refine ⟨20001, ?_⟩
  unfold keepsakelaw21_CartOwn.f
  rw [awake, Option.bind_some]
  by_cases h40 : (l.length : Int) > 40
  · rw [if_pos h40]
  obtain ⟨r, hf, hr, hbr⟩ := fill_f l hb (by omega) 256 (by omega) 20001 (by omega)
  rw [show ((256 : Nat) : Int) = 256 from rfl] at hf
  obtain ⟨e1, e2⟩ := cp_mk 8 1 0 0 0 r (by decide) (by rw [hr]; decide)
  have hll : (mk 8 1 0 0 0 r).1.length = 272 := by rw [e1]; show (lay 8 1 0 0 0 (sum4 _) r).length = _; unfold sum4; rw [lay_len, hr]
  have hbb : Bytes (mk 8 1 0 0 0 r).1 := by rw [e1]; exact bytes_lay 8 1 0 0 0 _ r hbr
  have e0 : (mk 8 1 0 0 0 r).2 = 0 := by rw [e1]
  rw [if_neg h40, hf, Option.bind_some, Option.bind_some, if_pos (by rw [hr]; decide), Option.bind_some, List.nil_append, make_f 8 1 0 0 0 r hbr (by omega), Option.bind_some, Option.bind_some, if_pos (by rw [hll]; decide), Option.bind_some, List.nil_append,
    parse_f _ hbb (by omega), Option.bind_some, if_pos e0, e2, if_pos rfl, if_pos (by rw [hll]; rfl)]
  generalize (mk 8 1 0 0 0 r).1 = y at hll
  show keepsakelaw21_CartOwn.j0 (20000 + 1) x true r y y ((r.length : Int) != 256) 8 1 0 0 0 r 8 1 0 0 0 r = some true
  rw [hr, show (((256 : Nat) : Int) != 256) = false from rfl, keepsakelaw21_CartOwn.j0, if_neg (by decide)]
  exact own_l0 x r y (by omega) hll 8 1 0 0 0 8 1 0 0 0 256 20000 0 r (by omega) (by omega) hr

end Go.Proofs.Ytoiiphlhdnlniaa.Pure
