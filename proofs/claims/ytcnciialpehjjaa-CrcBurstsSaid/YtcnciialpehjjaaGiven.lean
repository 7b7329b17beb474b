/- What the layer's three inner functions compute: one step, a product, a power; each by its walk. -/
import Derived.Test.YtcnciialpehjjaaMath
import Derived.Test.YtcnciialpehjjaaWWords
import Derived.Test.YtcnciialpehjjaaProg
import Derived.WalkKit
import Derived.WalkSpells
import Derived.RowKit3
import Derived.Deep.QuietTactic
import Derived.BigQuiet
import Derived.Lib.Hide
import Derived.Laws.EntriesVeiled
set_option linter.unusedVariables false
set_option linter.unusedSimpArgs false
namespace Go.Proofs.Ytcnciialpehjjaa.Given
open Go.RowKit Go.Proofs.YtcnciialpehjjaaW.PrintWords Go.Proofs.Ytcnciialpehjjaa.Math

def bv (a : Int) : W := BitVec.ofInt 32 a
def iv (b : W) : Int := (b.toNat : Int)
theorem iv_lo (b : W) : 0 ≤ iv b := by unfold iv; omega
theorem iv_hi (b : W) : iv b < 4294967296 := by unfold iv; have := b.isLt; omega
theorem bv_iv (b : W) : bv (iv b) = b := by
  apply BitVec.eq_of_toNat_eq
  unfold bv iv
  rw [BitVec.toNat_ofInt]
  have := b.isLt
  omega
theorem iv_bv (a : Int) (h0 : 0 ≤ a) (h1 : a < 4294967296) : iv (bv a) = a := by
  unfold bv iv
  rw [BitVec.toNat_ofInt]
  omega
theorem iv_inj (a b : W) (h : iv a = iv b) : a = b := by rw [← bv_iv a, h, bv_iv]
theorem of_iv (a : Int) (h0 : 0 ≤ a) (h1 : a < 4294967296) : ∃ b, a = iv b := ⟨bv a, (iv_bv a h0 h1).symm⟩
theorem wrap_iv (b : W) : IntKind.u32.wrap (b.toNat : Int) = iv b := by
  rw [IntKind.wrap_u32]
  unfold iv
  have := b.isLt
  omega
theorem bits_xor (x y : Int) : Go.bits .xor .u32 x y = iv (bv x ^^^ bv y) := wrap_iv _
theorem bits_and (x y : Int) : Go.bits .and .u32 x y = iv (bv x &&& bv y) := wrap_iv _
theorem xor_iv (x y : W) : Go.bits .xor .u32 (iv x) (iv y) = iv (x ^^^ y) := by rw [bits_xor, bv_iv, bv_iv]
theorem and_iv (x y : W) : Go.bits .and .u32 (iv x) (iv y) = iv (x &&& y) := by rw [bits_and, bv_iv, bv_iv]
theorem half_iv (b : W) : iv b / (2 : Int) = iv (b >>> (1 : Nat)) := by
  unfold iv
  rw [BitVec.toNat_ushiftRight, Nat.shiftRight_eq_div_pow]
  omega
theorem and_one_iv (b : W) : iv (b &&& 1#32) = if b.getLsbD 0 then 1 else 0 := by
  unfold iv
  rw [BitVec.toNat_and, show (1#32).toNat = 2 ^ 1 - 1 from rfl, Nat.and_two_pow_sub_one_eq_mod]
  simp only [BitVec.getLsbD, Nat.testBit_zero]
  split <;> simp_all
theorem times_eq (b : W) : Go.bits .xor .u32 (iv b / 2) (Go.bits .and .u32 3988292384 ((-(Go.bits .and .u32 (iv b) 1)) % 4294967296)) = iv (T b) := by
  have h1 : Go.bits .and .u32 (iv b) 1 = if b.getLsbD 0 then 1 else 0 := by
    rw [show (1 : Int) = iv 1#32 from rfl, and_iv, and_one_iv]; rfl
  rw [h1, half_iv]
  unfold T
  cases b.getLsbD 0
  · rw [show (-(if false = true then 1 else 0 : Int)) % 4294967296 = iv 0#32 from rfl, show (3988292384 : Int) = iv P from rfl, and_iv, xor_iv]
    simp
  · rw [show (-(if true = true then 1 else 0 : Int)) % 4294967296 = iv (BitVec.allOnes 32) from by decide, show (3988292384 : Int) = iv P from rfl, and_iv, xor_iv, BitVec.and_allOnes, if_pos rfl]

theorem ret_int {k : IntKind} {a b : Int} (h : a = b) : Ending.returned (.int k a) = .returned (.int k b) := by rw [h]

/-! ### one step -/
def crc_times.f (a0 : Int) : Option Int := if 0 ≤ a0 ∧ a0 < 4294967296 then some (iv (T (bv a0))) else none
theorem times_iv (b : W) : crc_times.f (iv b) = some (iv (T b)) := by
  unfold crc_times.f
  rw [if_pos ⟨iv_lo b, iv_hi b⟩, bv_iv]
theorem times_walk (b : W) (w : World) : Calls Try.prog 20 #[.int .u32 (iv b)] w fun e w' => e = .returned (.int .u32 (iv (T b))) ∧ w = w' := by
  have h0 := iv_lo b
  have h1 := iv_hi b
  have H := Lib.hid (times_eq b)
  go_enter Try.func20, Try.ntmps20
  go_wp2
  go_ret
  exact ⟨ret_int H.out, rfl⟩
theorem crc_times.calls (a0 : Int) (r : Int) (w : World) (h : crc_times.f a0 = some r) :
    Calls Try.prog 20 #[.int .u32 a0] w fun e w' => e = .returned (.int .u32 r) ∧ Drawn0 w w' := by
  unfold crc_times.f at h
  split at h
  · rename_i hb
    obtain ⟨b, rfl⟩ := of_iv a0 hb.1 hb.2
    rw [bv_iv] at h
    injection h with h
    subst h
    exact (times_walk b w).mono fun e w' ⟨he, hw⟩ => ⟨he, hw ▸ Drawn0.refl _⟩
  · cases h

/-! ### a product -/
def mask : Nat → Int
  | 0 => 0
  | n + 1 => iv (BitVec.twoPow 32 n)
theorem mask_zero : mask 0 = 0 := rfl
theorem mask_succ (n : Nat) : mask (n + 1) = iv (BitVec.twoPow 32 n) := rfl
theorem mask_half (n : Nat) (h : n < 32) : mask (n + 1) / 2 = mask n := by
  rw [mask_succ, half_iv]
  cases n with
  | zero => rfl
  | succ n =>
    rw [mask_succ]
    congr 1
    apply BitVec.eq_of_getLsbD_eq
    intro i hi
    simp only [BitVec.getLsbD_ushiftRight, BitVec.getLsbD_twoPow]
    rw [Bool.eq_iff_iff]
    simp only [Bool.and_eq_true, decide_eq_true_eq]
    omega
theorem mask_pos (n : Nat) (h : n < 32) : 0 < mask (n + 1) := by
  rw [mask_succ]
  unfold iv
  rw [BitVec.toNat_twoPow, Nat.mod_eq_of_lt (Nat.pow_lt_pow_right (by omega) h)]
  have := Nat.two_pow_pos n
  omega
theorem mask_hi (n : Nat) : mask n < 4294967296 := by
  cases n with
  | zero => decide
  | succ n => exact iv_hi _
theorem mask_bit (n : Nat) (a : W) : (Go.bits .and .u32 (iv a) (mask (n + 1)) != 0) = a.getLsbD n := by
  rw [mask_succ, and_iv]
  by_cases hn : n < 32
  · cases h : a.getLsbD n
    · have : a &&& BitVec.twoPow 32 n = 0#32 := by rw [BitVec.and_twoPow, h]; simp
      rw [this]; rfl
    · have : a &&& BitVec.twoPow 32 n = BitVec.twoPow 32 n := by rw [BitVec.and_twoPow, h]; simp
      rw [this]
      have h2 := mask_pos n hn
      rw [mask_succ] at h2
      rw [bne_iff_ne]
      omega
  · have hz : BitVec.twoPow 32 n = 0#32 := by
      apply BitVec.eq_of_getLsbD_eq
      intro i hi
      rw [BitVec.getLsbD_twoPow]
      simp; omega
    rw [hz, BitVec.getLsbD_of_ge _ _ (by omega)]
    simp [iv]
def crc_product.f (a0 a1 : Int) : Option Int := if 0 ≤ a0 ∧ a0 < 4294967296 ∧ 0 ≤ a1 ∧ a1 < 4294967296 then some (iv (prod (bv a0) (bv a1))) else none
theorem product_iv (a b : W) : crc_product.f (iv a) (iv b) = some (iv (prod a b)) := by
  unfold crc_product.f
  rw [if_pos ⟨iv_lo a, iv_hi a, iv_lo b, iv_hi b⟩, bv_iv, bv_iv]
set_option maxHeartbeats 400000 in
theorem product_walk (a b : W) (w : World) : Calls Try.prog 21 #[.int .u32 (iv a), .int .u32 (iv b)] w fun e w' => e = .returned (.int .u32 (iv (prod a b))) ∧ w = w' := by
  have ha0 := iv_lo a
  have ha1 := iv_hi a
  go_enter Try.func21, Try.ntmps21
  go_wp2
  go_loop [1, 5, 6] (fun x o m => ∃ (n : Nat) (c d : W), n ≤ 32 ∧ x = .int .u32 (iv c) ∧ o = .int .u32 (iv d) ∧ m = .int .u32 (mask n) ∧ Hid (d ^^^ prodFrom n a c = prod a b)) (fun _ _ m => (intOf m).toNat)
  case atStart => exact ⟨32, b, 0#32, by omega, rfl, rfl, rfl, Lib.hid (by simp [prod])⟩
  case round =>
    obtain ⟨n, c, d, hn, rfl, rfl, rfl, H⟩ := hrel
    cases n with
    | zero =>
      have hm : (mask 0 != 0) = false := rfl
      go_wp2
      go_ret
      exact ⟨ret_int (by rw [← H.out]; simp [prodFrom]), rfl⟩
    | succ n =>
      have hp := mask_pos n (by omega)
      have hp2 : (mask (n + 1) != 0) = true := by rw [bne_iff_ne]; omega
      have hh := mask_hi (n + 1)
      have HB := Lib.hid (mask_bit n a)
      have HH := Lib.hid (mask_half n (by omega))
      have hlt : mask (n + 1) / 2 < mask (n + 1) := by omega
      have hc0 := iv_lo c
      have hc1 := iv_hi c
      generalize mask (n + 1) = m at hp hp2 hh HB HH hlt ⊢
      cases hbit : a.getLsbD n
      · have ht : (Go.bits .and .u32 (iv a) m != 0) = false := by rw [HB.out, hbit]
        go_wp2_with (go_at_call 20; refine (times_walk _ _).mono ?_; rintro e w' ⟨rfl, rfl⟩)
        go_round
        case rel => exact ⟨n, T c, d, by omega, rfl, rfl, by rw [HH.out], Lib.hid (by rw [← H.out, prodFrom, hbit]; simp)⟩
        case measure => simp [intOf]; omega
      · have ht : (Go.bits .and .u32 (iv a) m != 0) = true := by rw [HB.out, hbit]
        have HX := Lib.hid (xor_iv d c)
        go_wp2_with (go_at_call 20; refine (times_walk _ _).mono ?_; rintro e w' ⟨rfl, rfl⟩)
        go_round
        case rel => exact ⟨n, T c, d ^^^ c, by omega, rfl, by rw [HX.out], by rw [HH.out], Lib.hid (by rw [← H.out, prodFrom, hbit]; simp [BitVec.xor_assoc])⟩
        case measure => simp [intOf]; omega
theorem crc_product.calls (a0 a1 : Int) (r : Int) (w : World) (h : crc_product.f a0 a1 = some r) :
    Calls Try.prog 21 #[.int .u32 a0, .int .u32 a1] w fun e w' => e = .returned (.int .u32 r) ∧ Drawn0 w w' := by
  unfold crc_product.f at h
  split at h
  · rename_i hb
    obtain ⟨a, rfl⟩ := of_iv a0 hb.1 hb.2.1
    obtain ⟨b, rfl⟩ := of_iv a1 hb.2.2.1 hb.2.2.2
    rw [bv_iv, bv_iv] at h
    injection h with h
    subst h
    exact (product_walk a b w).mono fun e w' ⟨he, hw⟩ => ⟨he, hw ▸ Drawn0.refl _⟩
  · cases h

/-! ### a power -/
def crc_power.f (a0 : Int) : Option Int := if 0 ≤ a0 ∧ a0 ≤ 9223372036854775807 then some (iv (xp a0.toNat)) else none
theorem power_step (n : Nat) : (if n % 2 = 1 then T (prod (xp (n / 2)) (xp (n / 2))) else prod (xp (n / 2)) (xp (n / 2))) = xp n := by
  rw [xp_add]
  split
  · rw [xp_succ]; congr 1; omega
  · congr 1; omega
set_option maxHeartbeats 800000 in
theorem power_in (c : Nat) (k : Nat) : ∀ (n : Nat) (w : World), n ≤ k → n ≤ 9223372036854775807 → w.cell? ⟨c, 0, none⟩ = some (.func (.func 24) #[] #[.pointer (some ⟨c, 0, none⟩)]) →
    Calls Try.prog 24 #[.int .i64 n, .pointer (some ⟨c, 0, none⟩)] w fun e w' => e = .returned (.int .u32 (iv (xp n))) ∧ w = w' := by
  induction k with
  | zero =>
    intro n w hk hn hc
    obtain rfl : n = 0 := by omega
    go_enter Try.func24, Try.ntmps24
    go_wp2_with fail
    go_ret
    exact ⟨rfl, rfl⟩
  | succ k ih =>
    intro n w hk hn hc
    by_cases h0 : n = 0
    · subst h0
      go_enter Try.func24, Try.ntmps24
      go_wp2_with fail
      go_ret
      exact ⟨rfl, rfl⟩
    · have hz : ((n : Int) == 0) = false := by simp; omega
      have hi := fun w => ih (n / 2) w (by omega) (by omega)
      have HI := Lib.hid hi
      clear hi
      have HS := Lib.hid (power_step n)
      by_cases h1 : n % 2 = 1
      · have ht : ((n : Int) % 2 == 1) = true := by simp; omega
        have HM := Lib.hid h1
        clear h1 ih
        go_enter Try.func24, Try.ntmps24
        go_wp2_with (first | (go_at_call 24; refine (HI.out _ hc).mono ?_; rintro e w' ⟨rfl, rfl⟩) | (go_at_call 21; refine (product_walk _ _ _).mono ?_; rintro e w' ⟨rfl, rfl⟩) | (go_at_call 20; refine (times_walk _ _).mono ?_; rintro e w' ⟨rfl, rfl⟩))
        go_ret
        exact ⟨ret_int (by have h := HS.out; rw [if_pos HM.out] at h; rw [← h]), rfl⟩
      · have ht : ((n : Int) % 2 == 1) = false := by simp; omega
        have HM := Lib.hid h1
        clear h1 ih
        go_enter Try.func24, Try.ntmps24
        go_wp2_with (first | (go_at_call 24; refine (HI.out _ hc).mono ?_; rintro e w' ⟨rfl, rfl⟩) | (go_at_call 21; refine (product_walk _ _ _).mono ?_; rintro e w' ⟨rfl, rfl⟩) | (go_at_call 20; refine (times_walk _ _).mono ?_; rintro e w' ⟨rfl, rfl⟩))
        go_ret
        exact ⟨ret_int (by have h := HS.out; rw [if_neg HM.out] at h; rw [← h]), rfl⟩

theorem crc_power.calls (a0 : Int) (r : Int) (w : World) (h : crc_power.f a0 = some r) :
    Calls Try.prog 22 #[.int .i64 a0] w fun e w' => e = .returned (.int .u32 r) ∧ Below w.heap.size w w' := by
  unfold crc_power.f at h
  split at h
  · rename_i hb
    injection h with h
    subst h
    obtain ⟨hb, hm⟩ := hb
    obtain ⟨n, rfl⟩ := Int.eq_ofNat_of_zero_le hb
    rw [Int.toNat_natCast]
    go_enter Try.func22, Try.ntmps22
    go_wp2_with fail
    refine (power_in w.heap.size n n _ (Nat.le_refl _) (by omega) ?_).mono ?_
    · simp [go_sem]
    · rintro e w' ⟨rfl, rfl⟩
      go_wp2_with fail
      go_ret
      exact ⟨rfl, (Below.refl _ _).alloc (Nat.le_refl _) _⟩
  · cases h

end Go.Proofs.Ytcnciialpehjjaa.Given
