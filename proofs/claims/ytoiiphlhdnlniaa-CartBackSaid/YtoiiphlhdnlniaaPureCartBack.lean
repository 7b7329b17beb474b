/- What is made is parsed, and made as it was; with a byte more, or fewer, it isn't. -/
import Derived.Test.YtoiiphlhdnlniaaAx11
import Derived.Test.YtoiiphlhdnlniaaCart
import Derived.Test.YtoiiphlhdnlniaaFill
set_option linter.unusedVariables false
set_option linter.unusedSimpArgs false
namespace Go.Proofs.Ytoiiphlhdnlniaa.Pure
open Go.RowKit Go.Proofs.Ytoiiphlhdnlniaa.All Go.Proofs.Ytoiiphlhdnlniaa.Given Go.Proofs.Ytoiiphlhdnlniaa.Sums Go.Proofs.Ytoiiphlhdnlniaa.Lay Go.Proofs.Ytoiiphlhdnlniaa.Cart Go.Proofs.Ytoiiphlhdnlniaa.Plain Go.Proofs.YtoiiphlhdnlniaaW.PrintWords Go.Proofs.YtoiiphlhdnlniaaW.PrintLast

theorem cp_short {a b c d f g0 g1 g2 g3 : Int} {r : List Int} (ho : okB a b c d f = true) (hr : (r.length : Int) < b * sz a) : (cp (lay a b c d f [g0, g1, g2, g3] r)).2.2.2.2.2.2 = 5 := by
  rw [cp_lay a b c d f g0 g1 g2 g3 r ho, if_pos (by omega)]
theorem cp_long {a b c d f g0 g1 g2 g3 : Int} {r : List Int} (ho : okB a b c d f = true) (hr : (r.length : Int) > b * sz a) : (cp (lay a b c d f [g0, g1, g2, g3] r)).2.2.2.2.2.2 = 14 := by
  rw [cp_lay a b c d f g0 g1 g2 g3 r ho, if_neg (by omega), if_pos (by omega)]
theorem lay_more (a b c d f : Int) (g r : List Int) (x : Int) : lay a b c d f g r ++ [x] = lay a b c d f g (r ++ [x]) := by unfold lay; simp
theorem lay_take (a b c d f g0 g1 g2 g3 : Int) (r : List Int) (hr : 0 < r.length) : (lay a b c d f [g0, g1, g2, g3] r).take (r.length + 15) = lay a b c d f [g0, g1, g2, g3] (r.take (r.length - 1)) := by
  unfold lay headL
  rw [show r.length + 15 = (r.length - 1) + 16 by omega]
  rfl
theorem back_j2 (a b c d f : Int) (r : List Int) (hb : Bytes r) (ho : okB a b c d f = true) (hr : (r.length : Int) = b * sz a) (hl : r.length ≤ 90000) (k : Nat) (hk : 200000 ≤ k) :
    keepsakelaw21_CartBack.j2 (k + 1) true (mk a b c d f r).1 false a b c d f r = some true := by
  have hz := sz_lo a
  have hb0 := (okB_ok ho).b0
  have hr0 : 0 < r.length := by
    have : 1 * 256 ≤ b * sz a := Int.mul_le_mul hb0 hz (by omega) (by omega)
    omega
  obtain ⟨e1, e2⟩ := cp_mk a b c d f r ho hr
  rw [e1] at e2 ⊢
  have hB := bytes_lay a b c d f (Given.iv (crc (headL a b c d f ++ r))) r hb
  rw [keepsakelaw21_CartBack.j2, if_neg (by decide)]
  dsimp only
  dsimp only at e2
  have hL : (lay a b c d f (sum4 (Given.iv (crc (headL a b c d f ++ r)))) r).length = r.length + 16 := by unfold sum4; exact lay_len ..
  rw [parse_f _ hB (by omega), Option.bind_some, e2]
  dsimp only
  rw [make_f a b c d f r hb (by omega), Option.bind_some, e1, Option.bind_some, if_pos (by rw [hL]; show 0 + (r.length + 16) < 140737488355328; omega), Option.bind_some, List.nil_append, if_pos (by rw [hL]; omega),
    parse_f _ (bytes_append hB (fun x hx => by rw [List.mem_singleton.1 hx]; decide)) (by rw [List.length_append, hL]; simp; omega), Option.bind_some, hL,
    Sums.w64 _ (by omega) (by omega), if_pos (by omega), if_pos (by omega), show (((r.length + 16 : Nat) : Int) - 1).toNat = r.length + 15 by omega,
    parse_f _ (bytes_take hB _) (by rw [List.length_take]; omega), Option.bind_some, if_pos rfl, if_pos rfl, if_pos rfl, same_cart a b c d f r (by omega) k (by omega), Option.bind_some, if_pos (by simp),
    Same.same_f _ _ (by omega) k (by omega), Option.bind_some, if_pos (by simp), lay_more]
  unfold sum4
  rw [cp_long ho (by rw [List.length_append]; simp; omega), if_pos rfl, lay_take _ _ _ _ _ _ _ _ _ r hr0, cp_short ho (by rw [List.length_take]; omega)]
  rfl
theorem back_j1 (a b c d f : Int) (l : List Int) (hb : Bytes l) (hl : l.length ≤ 40) (ho : okB a b c d f = true) (ha : a ≤ 9) (hbb : b ≤ 2) (k : Nat) (hk : 200002 ≤ k) :
    keepsakelaw21_CartBack.j1 (k + 1) l true a b c d f = some true := by
  have hz : sz a = 256 ∨ sz a = 512 := by
    have h0 := (okB_ok ho).s0
    rcases (show a = 8 ∨ a = 9 by omega) with h | h <;> (subst h; decide)
  have hb0 := (okB_ok ho).b0
  have hn : 0 ≤ b * sz a ∧ b * sz a ≤ 1024 := by
    rcases (show b = 1 ∨ b = 2 by omega) with h | h <;> (subst h; rcases hz with h | h <;> (rw [h]; decide))
  obtain ⟨n, hn'⟩ := Int.eq_ofNat_of_zero_le hn.1
  obtain ⟨r, hf, hr, hbr⟩ := fill_f l hb (by omega) n (by omega) k (by omega)
  have hrl : (r.length : Int) = b * sz a := by omega
  obtain ⟨e1, e2⟩ := cp_mk a b c d f r ho hrl
  have hL : (mk a b c d f r).1.length = r.length + 16 := by rw [e1]; dsimp only; unfold sum4; exact lay_len ..
  have e0 : (mk a b c d f r).2 = 0 := by rw [e1]
  obtain ⟨k, rfl⟩ : ∃ m, k = m + 1 := ⟨k - 1, by omega⟩
  rw [keepsakelaw21_CartBack.j1, long_doc (okB_ok ho), Option.bind_some, hn', hf, Option.bind_some, make_f a b c d f r hbr (by omega), Option.bind_some, if_pos e0, hL, Sums.w64 _ (by omega) (by omega),
    show (((r.length + 16 : Nat) : Int) != 16 + (r.length : Int)) = false by rw [bne_eq_false_iff_eq]; omega]
  exact back_j2 a b c d f r hbr ho hrl (by omega) k (by omega)
theorem CartBack : keepsakelaw21_CartBack.Pure := by
  intro s t x y z l hx hy hz hl _ hw
  have hb := bytes_of_wf hw
  obtain ⟨x0, x1⟩ := u8_bd hx
  obtain ⟨y0, y1⟩ := u8_bd hy
  obtain ⟨z0, z1⟩ := u8_bd hz
  refine ⟨200005, ?_⟩
  unfold keepsakelaw21_CartBack.f
  rw [awake, Option.bind_some]
  by_cases h40 : (l.length : Int) > 40
  · rw [if_pos h40]
  rw [if_neg h40, Int.tmod_eq_emod_of_nonneg x0, Int.tmod_eq_emod_of_nonneg y0, Int.tmod_eq_emod_of_nonneg z0, Sums.w64 (x % 11) (by omega) (by omega), Sums.w64 (y % 65) (by omega) (by omega), Sums.w64 (z % 129) (by omega) (by omega)]
  have ho : ∀ a b : Int, 8 ≤ a → a ≤ 9 → 1 ≤ b → b ≤ 2 → okB a b (x % 11) (y % 65) (z % 129) = true := fun a b h1 h2 h3 h4 => ok_okB ⟨h1, by omega, h3, by omega, by omega, by omega, by omega, by omega, by omega, by omega⟩
  have h0 : ∀ a : Int, 8 ≤ a → a ≤ 9 → keepsakelaw21_CartBack.j0 200005 t l true a 1 (x % 11) (y % 65) (z % 129) = some true := by
    intro a h1 h2
    rw [show (200005 : Nat) = 200004 + 1 from rfl, keepsakelaw21_CartBack.j0]
    by_cases ht : t = true
    · rw [if_pos ht]
      exact back_j1 a 2 _ _ _ l hb (by omega) (ho a 2 h1 h2 (by decide) (by decide)) h2 (by decide) 200003 (by omega)
    · rw [if_neg ht]
      exact back_j1 a 1 _ _ _ l hb (by omega) (ho a 1 h1 h2 (by decide) (by decide)) h2 (by decide) 200003 (by omega)
  by_cases hs : s = true
  · rw [if_pos hs]
    exact h0 9 (by decide) (by decide)
  · rw [if_neg hs]
    exact h0 8 (by decide) (by decide)

end Go.Proofs.Ytoiiphlhdnlniaa.Pure
