/- The last addresses are the ROM's last places, whatever banks are to be seen; no bank plays a part outside of its rows. -/
import Derived.Test.YtogmbgmepkhnaaaAx8
import Derived.Test.YtogmbgmepkhnaaaPlain
set_option linter.unusedVariables false
set_option linter.unusedSimpArgs false
namespace Go.Proofs.Ytogmbgmepkhnaaa.Pure
open Go.RowKit Go.Proofs.Ytogmbgmepkhnaaa.All Go.Proofs.Ytogmbgmepkhnaaa.Plain Go.Proofs.YtogmbgmepkhnaaaW.PrintWords Go.Proofs.YtogmbgmepkhnaaaW.PrintLast

theorem last (s back : Int) (h0 : 0 ≤ back) (h1 : back < 256) : (65535 - back - 49152) % sz s = sz s - 1 - back := by
  rcases sz_cases s with h | h | h | h | h | h | h <;> rw [h] <;> omega
theorem BankEnds : keepsakelaw20_BankEnds.Pure := by
  intro a0 a1 a2 a3 b0 b1 d0 d1 a back h0 h1 h2 h3 hb0 hb1 hd0 hd1 ha hk
  obtain ⟨a0l, a0h⟩ := u8 h0
  obtain ⟨a1l, a1h⟩ := u8 h1
  obtain ⟨a2l, a2h⟩ := u8 h2
  obtain ⟨a3l, a3h⟩ := u8 h3
  obtain ⟨b0l, b0h⟩ := u8 hb0
  obtain ⟨b1l, b1h⟩ := u8 hb1
  obtain ⟨d0l, d0h⟩ := u8 hd0
  obtain ⟨d1l, d1h⟩ := u8 hd1
  obtain ⟨al, ah⟩ := u16 ha
  obtain ⟨kl, kh⟩ := u8 hk
  refine ⟨1 + 8, ?_⟩
  unfold keepsakelaw20_BankEnds.f
  obtain ⟨ec, ok⟩ := cart a0 a1 a2 a3 a0l a0h a1l a1h a2l a2h a3l a3h
  rw [awake, Option.bind_some, ec, Option.bind_some, long_ok ok]
  clear ec h0 h1 h2 h3 hb0 hb1 hd0 hd1 ha hk
  have hn := ok.b0; have hn' := ok.b1
  generalize 8 + a0 % 7 = s at *
  generalize 1 + a1 % 64 = n at *
  generalize a2 % 65 = f at *
  generalize a3 % 129 = r at *
  dsimp only
  have hz := sz_lo s; have hz' := sz_hi s
  have hm := mul_hi n s (by omega) hn'
  have e1 : IntKind.u16.wrap back = back := by rw [IntKind.wrap_u16]; omega
  have e2 : IntKind.u16.wrap (65535 - back) = 65535 - back := by rw [IntKind.wrap_u16]; omega
  have el : wh s n f r b0 b1 (65535 - back) = (5, n * sz s - 1 - back) := by
    unfold wh
    rw [if_neg (by omega), if_neg (by omega), if_neg (by omega), if_neg (by omega), if_neg (by omega), last s back kl kh]
    refine congrArg (Prod.mk 5) ?_
    rcases sz_cases s with h | h | h | h | h | h | h <;> rw [h] <;> omega
  rw [e1, e2, where_ok ok _ _ _ _ b0l b0h b1l b1h (by omega) (by omega), Option.bind_some, Option.bind_some, el, w64 (n * sz s - 1) (by omega) (by omega), w64 back (by omega) (by omega), w64 _ (by omega) (by omega), if_neg (by simp)]
  have same : ∀ (x y : Int) (x' y' : Int), wh s n f r x y a = wh s n f r x' y' a → 0 ≤ x → x < 256 → 0 ≤ y → y < 256 → 0 ≤ x' → x' < 256 → 0 ≤ y' → y' < 256 →
      ((bank_Where.f (0 + 8) s n 0 f r [] x y a).bind fun bt => ((bank_Where.f (0 + 8) s n 0 f r [] x' y' a).bind fun bu => (some (bt.1 == bu.1 && (bt.2 == bu.2))))) = some true := by
    intro x y x' y' h x0 x1 y0 y1 x0' x1' y0' y1'
    rw [where_ok ok _ _ _ _ x0 x1 y0 y1 al ah, where_ok ok _ _ _ _ x0' x1' y0' y1' al ah, h, Option.bind_some, Option.bind_some]
    simp
  by_cases c1 : a < 24576
  · rw [if_pos c1, show (1 + 8 : Nat) = (0 + 8) + 1 from rfl, keepsakelaw20_BankEnds.j0, if_pos rfl, if_pos rfl]
    refine same b0 b1 d0 d1 ?_ b0l b0h b1l b1h d0l d0h d1l d1h
    unfold wh
    by_cases c2 : a < 8192
    · rw [if_pos c2, if_pos c2]
    rw [if_neg c2, if_neg c2]
    by_cases c3 : a < 16384
    · rw [if_pos c3, if_pos c3]
    rw [if_neg c3, if_neg c3, if_pos c1, if_pos c1]
  rw [if_neg c1, show (1 + 8 : Nat) = (0 + 8) + 1 from rfl, keepsakelaw20_BankEnds.j0]
  by_cases c2 : a ≥ 49152
  · rw [if_pos (by simp; omega), if_pos rfl]
    refine same b0 b1 d0 d1 ?_ b0l b0h b1l b1h d0l d0h d1l d1h
    simp only [wh, if_neg (show ¬ a < 8192 by omega), if_neg (show ¬ a < 16384 by omega), if_neg (show ¬ a < 24576 by omega), if_neg (show ¬ a < 32768 by omega), if_neg (show ¬ a < 49152 by omega)]
  rw [if_neg (by simp; omega)]
  by_cases c3 : a ≥ 32768
  · rw [if_pos c3, if_pos rfl]
    refine same b0 b1 b0 d1 ?_ b0l b0h b1l b1h b0l b0h d1l d1h
    simp only [wh, if_neg (show ¬ a < 8192 by omega), if_neg (show ¬ a < 16384 by omega), if_neg (show ¬ a < 24576 by omega), if_neg (show ¬ a < 32768 by omega), if_pos (show a < 49152 by omega)]
  rw [if_neg c3, if_pos rfl]
  refine same b0 b1 d0 b1 ?_ b0l b0h b1l b1h d0l d0h b1l b1h
  simp only [wh, if_neg (show ¬ a < 8192 by omega), if_neg (show ¬ a < 16384 by omega), if_neg (show ¬ a < 24576 by omega), if_pos (show a < 32768 by omega)]

end Go.Proofs.Ytogmbgmepkhnaaa.Pure
