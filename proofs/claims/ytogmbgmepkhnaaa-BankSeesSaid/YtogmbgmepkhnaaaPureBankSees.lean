/- Each place of the ROM is to be seen, by its bank, from 8000 (hexadecimal) on. -/
import Derived.Test.YtogmbgmepkhnaaaAx9
import Derived.Test.YtogmbgmepkhnaaaPlain
set_option linter.unusedVariables false
set_option linter.unusedSimpArgs false
namespace Go.Proofs.Ytogmbgmepkhnaaa.Pure
open Go.RowKit Go.Proofs.Ytogmbgmepkhnaaa.All Go.Proofs.Ytogmbgmepkhnaaa.Plain Go.Proofs.YtogmbgmepkhnaaaW.PrintWords Go.Proofs.YtogmbgmepkhnaaaW.PrintLast

theorem td (a b : Int) (h : 0 ≤ a) : Int.tdiv a b = a / b := Int.tdiv_eq_ediv_of_nonneg h
theorem div_sz (a0 n : Int) : n * sz a0 / n = sz a0 ∨ n = 0 := by
  by_cases h : n = 0
  · exact Or.inr h
  · exact Or.inl (Int.mul_ediv_cancel_left _ h)
theorem BankSees : keepsakelaw20_BankSees.Pure := by
  intro a0 a1 a2 a3 a h0 h1 h2 h3 ha
  obtain ⟨a0l, a0h⟩ := u8 h0
  obtain ⟨a1l, a1h⟩ := u8 h1
  obtain ⟨a2l, a2h⟩ := u8 h2
  obtain ⟨a3l, a3h⟩ := u8 h3
  obtain ⟨al, ah⟩ := u32 ha
  refine ⟨0 + 8, ?_⟩
  unfold keepsakelaw20_BankSees.f
  obtain ⟨ec, ok⟩ := cart a0 a1 a2 a3 a0l a0h a1l a1h a2l a2h a3l a3h
  rw [awake, Option.bind_some, ec, Option.bind_some, long_ok ok, Option.bind_some]
  clear ec h0 h1 h2 h3 ha
  have hn := ok.b0; have hn' := ok.b1
  generalize 8 + a0 % 7 = s at *
  generalize 1 + a1 % 64 = n at *
  generalize a2 % 65 = f at *
  generalize a3 % 129 = r at *
  dsimp only
  have hz := sz_lo s; have hz' := sz_hi s
  have hm := mul_hi n s (by omega) hn'
  have hd : n * sz s / n = sz s := Int.mul_ediv_cancel_left _ (by omega)
  have hp : 256 ≤ n * sz s := by rcases sz_cases s with h | h | h | h | h | h | h <;> rw [h] <;> omega
  rw [td _ _ hm.1, hd, w64 (sz s) (by omega) (by omega), w64 a (by omega) (by omega), tm _ _ al]
  have k0 := Int.emod_nonneg a (show n * sz s ≠ 0 by omega)
  have k1 := Int.emod_lt_of_pos a (show 0 < n * sz s by omega)
  generalize hk : a % (n * sz s) = k at *
  rw [td _ _ k0, tm _ _ k0]
  have q0 : 0 ≤ k / sz s := Int.ediv_nonneg k0 (by omega)
  have q1 : k / sz s < n := Int.ediv_lt_of_lt_mul (by omega) k1
  have r0 := Int.emod_nonneg k (show sz s ≠ 0 by omega)
  have r1 := Int.emod_lt_of_pos k (show 0 < sz s by omega)
  have split := Int.emod_add_mul_ediv k (sz s)
  rw [if_neg (by omega), if_neg (by omega), if_neg (by omega), if_neg (by omega), w64 (k / sz s) (by omega) (by omega), w64 (32768 + k % sz s) (by omega) (by omega), show (k / sz s) % 256 = k / sz s by omega,
    show IntKind.u16.wrap (32768 + k % sz s) = 32768 + k % sz s by rw [IntKind.wrap_u16]; omega,
    where_ok ok _ _ _ _ q0 (by omega) (by omega) (by omega) (by omega) (by omega), Option.bind_some, if_pos rfl]
  unfold wh
  rw [if_neg (by omega), if_neg (by omega), if_neg (by omega), if_neg (by omega), if_pos (by omega), show 32768 + k % sz s - 32768 = k % sz s by omega, Int.emod_emod_of_dvd _ (Int.dvd_refl _), Int.emod_eq_of_lt q0 q1, split]
  simp

end Go.Proofs.Ytogmbgmepkhnaaa.Pure
