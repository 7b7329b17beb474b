/- Each address lies within what it is of. -/
import Derived.Test.YtogmbgmepkhnaaaAx7
import Derived.Test.YtogmbgmepkhnaaaPlain
set_option linter.unusedVariables false
set_option linter.unusedSimpArgs false
namespace Go.Proofs.Ytogmbgmepkhnaaa.Pure
open Go.RowKit Go.Proofs.Ytogmbgmepkhnaaa.All Go.Proofs.Ytogmbgmepkhnaaa.Plain Go.Proofs.YtogmbgmepkhnaaaW.PrintWords Go.Proofs.YtogmbgmepkhnaaaW.PrintLast

theorem in_prod (a0 q n : Int) (h0 : 0 ≤ q) (h1 : q < n) (r : Int) (r0 : 0 ≤ r) (r1 : r < sz a0) : 0 ≤ r + sz a0 * q ∧ r + sz a0 * q < n * sz a0 := by
  rcases sz_cases a0 with h | h | h | h | h | h | h <;> rw [h] at r1 ⊢ <;> omega
theorem BankBounds : keepsakelaw20_BankBounds.Pure := by
  intro a0 a1 a2 a3 b0 b1 a h0 h1 h2 h3 hb0 hb1 ha
  obtain ⟨a0l, a0h⟩ := u8 h0
  obtain ⟨a1l, a1h⟩ := u8 h1
  obtain ⟨a2l, a2h⟩ := u8 h2
  obtain ⟨a3l, a3h⟩ := u8 h3
  obtain ⟨b0l, b0h⟩ := u8 hb0
  obtain ⟨b1l, b1h⟩ := u8 hb1
  obtain ⟨al, ah⟩ := u16 ha
  refine ⟨0 + 8, ?_⟩
  unfold keepsakelaw20_BankBounds.f
  obtain ⟨ec, ok⟩ := cart a0 a1 a2 a3 a0l a0h a1l a1h a2l a2h a3l a3h
  rw [awake, Option.bind_some, ec, Option.bind_some, where_ok ok _ _ _ _ b0l b0h b1l b1h al ah, Option.bind_some, long_ok ok, Option.bind_some, Option.bind_some]
  have hs := ok.r0; have hs' := ok.r1; have hf := ok.f0; have hf' := ok.f1; have hn := ok.b0; have hn' := ok.b1
  clear ec ok h0 h1 h2 h3 hb0 hb1 ha
  generalize 8 + a0 % 7 = s at *
  generalize 1 + a1 % 64 = n at *
  generalize a2 % 65 = f at *
  generalize a3 % 129 = r at *
  dsimp only
  rw [w64 (64 * r) (by omega) (by omega), w64 (256 * f) (by omega) (by omega)]
  have hz := sz_lo s; have hz' := sz_hi s
  have key : ∀ (g x m : Int) (l : List Int), 0 ≤ g → g ≤ 5 → l.length = 6 → rd l g = m → 0 ≤ x → x < m →
      (if g < 0 then none else if g > 5 then none else if true = true then if x ≥ 0 then if 0 ≤ g then if g < (l.length : Int) then some (decide (x < rd l g)) else none else none else none else none) = some true := by
    intro g x m l hg hg' hl hr hx hm
    rw [if_neg (by omega), if_neg (by omega), if_pos rfl, if_pos (by omega), if_pos hg, if_pos (by omega), hr, decide_eq_true hm]
  unfold wh
  by_cases c1 : a < 8192
  · rw [if_pos c1]; exact key 1 _ 2048 _ (by decide) (by decide) rfl rfl (by omega) (by omega)
  rw [if_neg c1]
  by_cases c2 : a < 16384
  · rw [if_pos c2]; exact key 2 _ 16 _ (by decide) (by decide) rfl rfl (by omega) (by omega)
  rw [if_neg c2]
  by_cases c3 : a < 24576
  · rw [if_pos c3]
    by_cases c : r = 0
    · rw [if_pos c]; exact key 0 _ 1 _ (by decide) (by decide) rfl rfl (by decide) (by decide)
    · rw [if_neg c]; exact key 3 _ (64 * r) _ (by decide) (by decide) rfl rfl (Int.emod_nonneg _ (by omega)) (Int.emod_lt_of_pos _ (by omega))
  rw [if_neg c3]
  by_cases c4 : a < 32768
  · rw [if_pos c4]
    by_cases c : f = 0
    · rw [if_pos c]; exact key 0 _ 1 _ (by decide) (by decide) rfl rfl (by decide) (by decide)
    · rw [if_neg c]; exact key 4 _ (256 * f) _ (by decide) (by decide) rfl rfl (Int.emod_nonneg _ (by omega)) (Int.emod_lt_of_pos _ (by omega))
  rw [if_neg c4]
  by_cases c5 : a < 49152
  · rw [if_pos c5]
    obtain ⟨p, q⟩ := in_prod s (b0 % n) n (Int.emod_nonneg _ (by omega)) (Int.emod_lt_of_pos _ (by omega)) ((a - 32768) % sz s) (Int.emod_nonneg _ (by omega)) (Int.emod_lt_of_pos _ (by omega))
    exact key 5 _ (n * sz s) _ (by decide) (by decide) rfl rfl p q
  rw [if_neg c5]
  obtain ⟨p, q⟩ := in_prod s (n - 1) n (by omega) (by omega) ((a - 49152) % sz s) (Int.emod_nonneg _ (by omega)) (Int.emod_lt_of_pos _ (by omega))
  exact key 5 _ (n * sz s) _ (by decide) (by decide) rfl rfl p q

end Go.Proofs.Ytogmbgmepkhnaaa.Pure
