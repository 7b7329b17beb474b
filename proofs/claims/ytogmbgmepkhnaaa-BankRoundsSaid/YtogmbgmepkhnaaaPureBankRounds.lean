/- Addresses come round: memory each 800, registers each 10 (hexadecimal), the ROM each bank's bytes, within their rows. -/
import Derived.Test.YtogmbgmepkhnaaaAx9
import Derived.Test.YtogmbgmepkhnaaaPlain
set_option linter.unusedVariables false
set_option linter.unusedSimpArgs false
namespace Go.Proofs.Ytogmbgmepkhnaaa.Pure
open Go.RowKit Go.Proofs.Ytogmbgmepkhnaaa.All Go.Proofs.Ytogmbgmepkhnaaa.Plain Go.Proofs.YtogmbgmepkhnaaaW.PrintWords Go.Proofs.YtogmbgmepkhnaaaW.PrintLast

theorem shl256 (m : Int) (h0 : 0 ≤ m) (h1 : m < 7) : shl .i64 256 m = sz (8 + m) := by
  rcases (show m = 0 ∨ m = 1 ∨ m = 2 ∨ m = 3 ∨ m = 4 ∨ m = 5 ∨ m = 6 by omega) with h | h | h | h | h | h | h <;> (subst h; decide)
theorem round (s x : Int) : ((x + sz s) % 16384) % sz s = (x % 16384) % sz s := by
  rcases sz_cases s with h | h | h | h | h | h | h <;> rw [h] <;> omega
theorem wh_ram {s n f r b0 b1 a : Int} (h0 : 0 ≤ a) (h : a < 8192) : wh s n f r b0 b1 a = (1, a % 2048) := by
  unfold wh; rw [if_pos h]
theorem wh_io {s n f r b0 b1 a : Int} (h0 : ¬ a < 8192) (h : a < 16384) : wh s n f r b0 b1 a = (2, a % 16) := by
  unfold wh; rw [if_neg h0, if_pos h]
theorem wh_low {s n f r b0 b1 a : Int} (h0 : ¬ a < 32768) (h : a < 49152) : wh s n f r b0 b1 a = (5, (a - 32768) % sz s + sz s * (b0 % n)) := by
  unfold wh; rw [if_neg (by omega), if_neg (by omega), if_neg (by omega), if_neg h0, if_pos h]
theorem wh_high {s n f r b0 b1 a : Int} (h0 : ¬ a < 49152) : wh s n f r b0 b1 a = (5, (a - 49152) % sz s + sz s * (n - 1)) := by
  unfold wh; rw [if_neg (by omega), if_neg (by omega), if_neg (by omega), if_neg (by omega), if_neg h0]
theorem u16w (a : Int) (h0 : 0 ≤ a) (h1 : a < 65536) : IntKind.u16.wrap a = a := by rw [IntKind.wrap_u16]; omega
theorem BankRounds : keepsakelaw20_BankRounds.Pure := by
  intro a0 a1 a2 a3 b0 b1 x h0 h1 h2 h3 hb0 hb1 hx
  obtain ⟨a0l, a0h⟩ := u8 h0
  obtain ⟨a1l, a1h⟩ := u8 h1
  obtain ⟨a2l, a2h⟩ := u8 h2
  obtain ⟨a3l, a3h⟩ := u8 h3
  obtain ⟨b0l, b0h⟩ := u8 hb0
  obtain ⟨b1l, b1h⟩ := u8 hb1
  obtain ⟨xl, xh⟩ := u16 hx
  refine ⟨0 + 8, ?_⟩
  unfold keepsakelaw20_BankRounds.f
  obtain ⟨ec, ok⟩ := cart a0 a1 a2 a3 a0l a0h a1l a1h a2l a2h a3l a3h
  rw [awake, Option.bind_some, ec, Option.bind_some, tm a0 7 a0l, if_pos (by omega), shl256 (a0 % 7) (by omega) (by omega)]
  clear ec h0 h1 h2 h3 hb0 hb1 hx
  generalize 8 + a0 % 7 = s at *
  generalize 1 + a1 % 64 = n at *
  generalize a2 % 65 = f at *
  generalize a3 % 129 = r at *
  dsimp only
  have hz := sz_lo s; have hz' := sz_hi s
  have e : ∀ a, 0 ≤ a → a < 65536 → bank_Where.f (0 + 8) s n 0 f r [] b0 b1 a = some (wh s n f r b0 b1 a) := fun a l h => where_ok ok _ _ _ _ b0l b0h b1l b1h l h 0
  rw [w64 x (by omega) (by omega), tm x 8192 xl, tm x 16384 xl, w64 (x + 2048) (by omega) (by omega), w64 (x + 16) (by omega) (by omega), w64 (x + sz s) (by omega) (by omega),
    tm (x + 2048) 8192 (by omega), tm (x + 16) 8192 (by omega), tm (x + sz s) 16384 (by omega),
    w64 (8192 + x % 8192) (by omega) (by omega), w64 (32768 + x % 16384) (by omega) (by omega), w64 (49152 + x % 16384) (by omega) (by omega),
    w64 (8192 + (x + 16) % 8192) (by omega) (by omega), w64 (32768 + (x + sz s) % 16384) (by omega) (by omega), w64 (49152 + (x + sz s) % 16384) (by omega) (by omega),
    u16w (x % 8192) (by omega) (by omega), u16w (8192 + x % 8192) (by omega) (by omega), u16w (32768 + x % 16384) (by omega) (by omega), u16w (49152 + x % 16384) (by omega) (by omega),
    u16w ((x + 2048) % 8192) (by omega) (by omega), u16w (8192 + (x + 16) % 8192) (by omega) (by omega), u16w (32768 + (x + sz s) % 16384) (by omega) (by omega), u16w (49152 + (x + sz s) % 16384) (by omega) (by omega),
    e (x % 8192) (by omega) (by omega), e (8192 + x % 8192) (by omega) (by omega), e (32768 + x % 16384) (by omega) (by omega), e (49152 + x % 16384) (by omega) (by omega),
    e ((x + 2048) % 8192) (by omega) (by omega), e (8192 + (x + 16) % 8192) (by omega) (by omega), e (32768 + (x + sz s) % 16384) (by omega) (by omega), e (49152 + (x + sz s) % 16384) (by omega) (by omega),
    wh_ram (a := x % 8192) (by omega) (by omega), wh_ram (a := (x + 2048) % 8192) (by omega) (by omega), wh_io (a := 8192 + x % 8192) (by omega) (by omega), wh_io (a := 8192 + (x + 16) % 8192) (by omega) (by omega),
    wh_low (a := 32768 + x % 16384) (by omega) (by omega), wh_low (a := 32768 + (x + sz s) % 16384) (by omega) (by omega), wh_high (a := 49152 + x % 16384) (by omega), wh_high (a := 49152 + (x + sz s) % 16384) (by omega),
    show 32768 + x % 16384 - 32768 = x % 16384 by omega, show 32768 + (x + sz s) % 16384 - 32768 = (x + sz s) % 16384 by omega, show 49152 + x % 16384 - 49152 = x % 16384 by omega, show 49152 + (x + sz s) % 16384 - 49152 = (x + sz s) % 16384 by omega,
    round s x, show (x + 2048) % 8192 % 2048 = x % 8192 % 2048 by omega, show (8192 + (x + 16) % 8192) % 16 = (8192 + x % 8192) % 16 by omega]
  simp

end Go.Proofs.Ytogmbgmepkhnaaa.Pure
