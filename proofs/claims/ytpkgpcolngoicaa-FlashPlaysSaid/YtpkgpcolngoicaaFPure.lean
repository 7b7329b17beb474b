/- What writes and cycles make of a flash chip's state: plain. -/
import Derived.Test.YtpkgpcolngoicaaFlash
set_option linter.unusedVariables false
set_option linter.unusedSimpArgs false
namespace Go.Proofs.Ytpkgpcolngoicaa.Given
open Go.RowKit Go.Proofs.Ytpkgpcolngoicaa.All Go.Proofs.Ytpkgpcolngoicaa.Sep Go.Proofs.YtpkgpcolngoicaaW.PrintWords Go.Proofs.YtpkgpcolngoicaaW.PrintLast Go.Proofs.YtpkgpcolngoicaaW.PrintMore

theorem place_small (xs : List Int) (a : Int) (h0 : 0 ≤ a) (h1 : a < xs.length) : place xs a = a := by
  unfold place mx
  split
  · exact Int.emod_eq_of_lt h0 h1
  · have : a = 0 := by omega
    subst this
    simp
/-- An idle chip. -/
structure Idle (s : FS) : Prop where
  l : s.left = 0
  n : 256 ≤ s.data.length
  m : s.data.length ≤ 1024
def st (s : FS) (x : Stp) : FS := { s with raw := false, step := x }
def stp (s : FS) : FS := { s with step := .prog, raw := true }
def stn (s : FS) : FS := { s with raw := false, step := .first .cmd, named := true }
theorem Idle.st {s : FS} (h : Idle s) (x : Stp) : Idle (st s x) := ⟨h.l, h.n, h.m⟩
theorem Idle.stp {s : FS} (h : Idle s) : Idle (stp s) := ⟨h.l, h.n, h.m⟩
section
variable {s : FS}
theorem write_first (h : Idle s) {t : Tgt} (hs : s.step = .first t) : writeS s 85 170 = st s (.second t) := by
  have := h.n
  unfold writeS takeS
  rw [if_neg (by rw [h.l]; decide), place_small _ _ (by omega) (by omega), if_neg (by omega), hs]
  rfl
theorem write_second (h : Idle s) {t : Tgt} (hs : s.step = .second t) : writeS s 170 85 = st s (.on_ t) := by
  have := h.n
  unfold writeS takeS
  rw [if_neg (by rw [h.l]; decide), place_small _ _ (by omega) (by omega), if_neg (by omega), hs]
  rfl
theorem write_prog (h : Idle s) (hs : s.step = .on_ .cmd) : writeS s 85 160 = stp s := by
  have := h.n
  unfold writeS takeS
  rw [if_neg (by rw [h.l]; decide), place_small _ _ (by omega) (by omega), if_neg (by omega), hs]
  rfl
theorem write_prep (h : Idle s) (hs : s.step = .on_ .cmd) : writeS s 85 128 = st s (.first .erase) := by
  have := h.n
  unfold writeS takeS
  rw [if_neg (by rw [h.l]; decide), place_small _ _ (by omega) (by omega), if_neg (by omega), hs]
  rfl
theorem write_name (h : Idle s) (hs : s.step = .on_ .cmd) : writeS s 85 144 = stn s := by
  have := h.n
  unfold writeS takeS
  rw [if_neg (by rw [h.l]; decide), place_small _ _ (by omega) (by omega), if_neg (by omega), hs]
  rfl
theorem write_byte (h : Idle s) (hs : s.step = .prog) (hr : s.raw = true) (a v : Int) : writeS s a v = beginS (restS s) 1 (place s.data a) 1 v 10 := by
  unfold writeS takeS
  rw [if_neg (by rw [h.l]; decide), if_neg (by rw [hr]; simp), hs]
  rfl
theorem write_sector (h : Idle s) (hs : s.step = .on_ .erase) (a : Int) : writeS s a 48 = beginS (restS s) 2 (place s.data a / 256 * 256) 256 0 100 := by
  unfold writeS takeS
  rw [if_neg (by rw [h.l]; decide), if_neg (by omega), hs]
  rfl
theorem write_all (h : Idle s) (hs : s.step = .on_ .erase) : writeS s 85 16 = beginS (restS s) 2 0 s.data.length 0 200 := by
  have := h.n
  unfold writeS takeS
  rw [if_neg (by rw [h.l]; decide), place_small _ _ (by omega) (by omega), if_neg (by omega), hs]
  rfl
end
/-- What a programmed byte's writes leave. -/
def progS (s : FS) (a v : Int) : FS := { s with step := .first .cmd, raw := false, named := false, turn := 0, wk := 1, wf := place s.data a, wm := 1, wv := v, left := 10 }
theorem prog_puts {s : FS} (h : Idle s) (hs : s.step = .first .cmd) (a v : Int) : putsS s [⟨85, 170⟩, ⟨170, 85⟩, ⟨85, 160⟩, ⟨a, v⟩] = progS s a v := by
  unfold putsS
  simp only [List.foldl_cons, List.foldl_nil]
  rw [write_first h hs, write_second (h.st _) rfl, write_prog ((h.st _).st _) rfl, write_byte (((h.st _).st _).stp) rfl rfl]
  rfl
/-- What a sector's erasing leaves. -/
def eraS (s : FS) (f m n : Int) : FS := { s with step := .first .cmd, raw := false, named := false, turn := 0, wk := 2, wf := f, wm := m, wv := 0, left := n }
theorem sector_puts {s : FS} (h : Idle s) (hs : s.step = .first .cmd) (a : Int) : putsS s [⟨85, 170⟩, ⟨170, 85⟩, ⟨85, 128⟩, ⟨85, 170⟩, ⟨170, 85⟩, ⟨a, 48⟩] = eraS s (place s.data a / 256 * 256) 256 100 := by
  unfold putsS
  simp only [List.foldl_cons, List.foldl_nil]
  rw [write_first h hs, write_second (h.st _) rfl, write_prep ((h.st _).st _) rfl, write_first (((h.st _).st _).st _) rfl, write_second ((((h.st _).st _).st _).st _) rfl, write_sector (((((h.st _).st _).st _).st _).st _) rfl]
  rfl
theorem whole_puts {s : FS} (h : Idle s) (hs : s.step = .first .cmd) : putsS s [⟨85, 170⟩, ⟨170, 85⟩, ⟨85, 128⟩, ⟨85, 170⟩, ⟨170, 85⟩, ⟨85, 16⟩] = eraS s 0 s.data.length 200 := by
  unfold putsS
  simp only [List.foldl_cons, List.foldl_nil]
  rw [write_first h hs, write_second (h.st _) rfl, write_prep ((h.st _).st _) rfl, write_first (((h.st _).st _).st _) rfl, write_second ((((h.st _).st _).st _).st _) rfl, write_all (((((h.st _).st _).st _).st _).st _) rfl]
  rfl
theorem name_puts {s : FS} (h : Idle s) (hs : s.step = .first .cmd) : putsS s [⟨85, 170⟩, ⟨170, 85⟩, ⟨85, 144⟩] = { s with step := .first .cmd, raw := false, named := true } := by
  unfold putsS
  simp only [List.foldl_cons, List.foldl_nil]
  rw [write_first h hs, write_second (h.st _) rfl, write_name ((h.st _).st _) rfl]
  rfl
theorem wrote_left (s : FS) (x : Int) (k : Nat) : wrote { s with left := x } k = wrote s k := by
  induction k with
  | zero => rfl
  | succ k ih => rw [wrote, wrote, ih]; rfl
def doneS (s : FS) : FS := { s with left := 0, data := wrote s s.wm.toNat, wk := 0, wf := 0, wm := 0, wv := 0 }
theorem ticks_less (s : FS) (m : Nat) (hl : s.left = m) (k : Nat) (hk : k < m) : ticksS s k = { s with left := (m : Int) - k } := by
  induction k with
  | zero => rw [ticksS]; cases s; simp_all
  | succ k ih =>
    rw [ticksS, ih (by omega)]
    unfold tickS
    rw [if_neg (by show ¬ (m : Int) - (k : Int) = 0; omega), if_pos (by show 1 < (m : Int) - (k : Int); omega)]
    show ({ s with left := (m : Int) - k - 1 } : FS) = { s with left := (m : Int) - ((k + 1 : Nat) : Int) }
    rw [show (m : Int) - k - 1 = (m : Int) - ((k + 1 : Nat) : Int) by omega]
theorem ticks_all (s : FS) (m : Nat) (hl : s.left = m) (hm : 0 < m) : ticksS s m = doneS s := by
  obtain ⟨m, rfl⟩ : ∃ j, m = j + 1 := ⟨m - 1, by omega⟩
  rw [ticksS, ticks_less s (m + 1) hl m (by omega)]
  unfold tickS
  rw [if_neg (by show ¬ ((m + 1 : Nat) : Int) - (m : Int) = 0; omega), if_neg (by show ¬ 1 < ((m + 1 : Nat) : Int) - (m : Int); omega)]
  unfold doneS
  simp only [wrote_left]
theorem ticks_good (s : FS) (m : Nat) (hl : s.left = m) (hg : Good s) (hm : 0 < m) : ∀ k, k ≤ m → Good (ticksS s k) := by
  intro k hk
  have h1 := hg.l1
  by_cases h : k < m
  · rw [ticks_less s m hl k h]
    exact ⟨by show (0 : Int) ≤ (m : Int) - k; omega, by show (m : Int) - k ≤ 200; omega, hg.f0, hg.m0, hg.fm⟩
  · obtain rfl : k = m := by omega
    rw [ticks_all s k hl hm]
    exact ⟨Int.le_refl _, by show (0 : Int) ≤ 200; omega, Int.le_refl _, Int.le_refl _, by show (0 : Int) + 0 ≤ _; omega⟩
theorem prog_good {s : FS} (h : Idle s) (a v : Int) : Good (progS s a v) := by
  have := h.n
  obtain ⟨h0, h1⟩ := place_bd s.data a (by omega)
  exact ⟨by show (0 : Int) ≤ 10; omega, by show (10 : Int) ≤ 200; omega, h0, by show (0 : Int) ≤ 1; omega, by show place s.data a + 1 ≤ (s.data.length : Int); omega⟩
theorem prog_done {s : FS} (h : Idle s) (a v : Int) : (doneS (progS s a v)).data = s.data.set (place s.data a).toNat (Go.bits .and .u8 (rd s.data (place s.data a)) v) := by
  show wrote (progS s a v) 1 = _
  rw [wrote, wrote]
  show s.data.set (place s.data a + ((0 : Nat) : Int)).toNat (wroteV (progS s a v) (rd s.data (place s.data a + ((0 : Nat) : Int)))) = _
  rw [show place s.data a + ((0 : Nat) : Int) = place s.data a by omega]
  rfl
end Go.Proofs.Ytpkgpcolngoicaa.Given
