/- What differs within 32 bits in a row isn't decoded. -/
import Derived.Test.YtlinaijndlcfjaaDoorAx14
import Derived.Test.YtlinaijndlcfjaaDoorDec
import Derived.Test.YtlinaijndlcfjaaDoorAwake
import Derived.Test.YtlinaijndlcfjaaDoorSame
import Derived.Test.YtlinaijndlcfjaaDoorBurst
set_option linter.unusedVariables false
set_option linter.unusedSimpArgs false
namespace Go.Proofs.YtlinaijndlcfjaaDoor.Pure
open Go.RowKit Go.Proofs.YtlinaijndlcfjaaDoor.All Go.Proofs.YtlinaijndlcfjaaDoor.Given Go.Proofs.YtlinaijndlcfjaaDoor.Sums Go.Proofs.YtlinaijndlcfjaaDoor.Enc Go.Proofs.YtlinaijndlcfjaaDoor.Chips Go.Proofs.YtlinaijndlcfjaaDoor.Lay Go.Proofs.YtlinaijndlcfjaaDoor.Math Go.Proofs.YtlinaijndlcfjaaDoor.Burst Go.Proofs.YtlinaijndlcfjaaDoorW.PrintWords Go.Proofs.YtlinaijndlcfjaaDoorW.PrintLast Go.Proofs.YtlinaijndlcfjaaDoorW.PrintMore

theorem le4 (a : W) : le 4 (iv a) = [iv a % 256, iv a / 256 % 256, iv a / 65536 % 256, iv a / 16777216 % 256] := by
  simp only [le]
  have e2 : iv a / 256 / 256 = iv a / 65536 := by omega
  rw [e2]
  have e3 : iv a / 65536 / 256 = iv a / 16777216 := by omega
  rw [e3]
theorem fold_shut (p : List Int) : fold (~~~ 0#32) (shut p) = Tn 32 (BitVec.allOnes 32) := by
  unfold shut
  rw [fold_append, le4, fold_four _ _ _ _ _ (by omega) (by omega) (by omega), word_of]
  unfold crc
  congr 1
  generalize fold (~~~ 0#32) p = u
  apply BitVec.eq_of_getLsbD_eq
  intro i hi
  simp only [BitVec.getLsbD_xor, BitVec.getLsbD_not, BitVec.getLsbD_allOnes]
  cases u.getLsbD i <;> simp [hi]
theorem piece4 (l : List Int) (hb : Bytes l) (i j m : Nat) (hm : j = i + m) (h : j ≤ l.length) : le m (num ((l.take j).drop i)) = (l.take j).drop i := by
  have e : ((l.take j).drop i).length = m := by rw [List.length_drop, List.length_take]; omega
  have := le_num ((l.take j).drop i) (bytes_drop (bytes_take hb j) i)
  rw [e] at this
  exact this
theorem shut_of (c : List Int) (hb : Bytes c) (hl : c.length = 28) (h : iv (crc (c.take 24)) = num ((c.take 28).drop 24)) : c = shut (c.take 24) := by
  unfold shut
  rw [h, piece4 c hb 24 28 4 rfl (by omega)]
  have := List.take_append_drop 24 (c.take 28)
  rw [List.take_take] at this
  rw [show min 24 28 = 24 from rfl] at this
  rw [this, List.take_of_length_le (by omega)]
theorem dec_zero (l : List Int) (h : (dec l).2.2.2.2.2.2 = 0) : iv (crc (l.take 24)) = num ((l.take 28).drop 24) := by
  by_cases h28 : l.length < 28
  · unfold dec at h; rw [if_pos h28] at h; exact absurd h (by decide)
  by_cases hm : rd l 0 = 75 ∧ rd l 1 = 69 ∧ rd l 2 = 69 ∧ rd l 3 = 80
  · by_cases hv : rd l 4 = 1
    · by_cases hs : iv (crc (l.take 24)) = num ((l.take 28).drop 24)
      · exact hs
      · unfold dec at h; rw [if_neg h28, if_neg (fun x => x hm), if_neg (fun x => x hv), if_pos hs] at h; exact absurd h (by decide)
    · unfold dec at h; rw [if_neg h28, if_neg (fun x => x hm), if_pos hv] at h; exact absurd h (by decide)
  · unfold dec at h; rw [if_neg h28, if_pos hm] at h; exact absurd h (by decide)
theorem num_iv4 (w : Math.W) : num (le 4 (Given.iv w)) = Given.iv w := num_le 4 _ (Given.iv_lo w) (Given.iv_hi w)
theorem dec_enc0 {a b c n s m : Int} (h : canB a b c n = true) (s0 : 0 ≤ s) (s1 : s < 18446744073709551616) (m0 : 0 ≤ m) (m1 : m < 4294967296) : (dec (enc a b c n s m)).2.2.2.2.2.2 = 0 := by
  obtain ⟨a0, a1, b0, b1, c0, c1, hn, n0, n1⟩ := can_bd h
  have hl : ¬ (enc a b c n s m).length < 28 := by rw [enc_len]; omega
  have e24 : (enc a b c n s m).take 24 = pre a b c n s m := by
    unfold enc shut
    exact List.take_left' (pre_len a b c n s m)
  have e28 : ((enc a b c n s m).take 28).drop 24 = le 4 (Given.iv (crc (pre a b c n s m))) := by
    rw [List.take_of_length_le (by rw [enc_len]; omega)]
    exact List.drop_left' (pre_len a b c n s m)
  have r5 : rd (enc a b c n s m) 5 = a % 256 := rfl
  have r6 : rd (enc a b c n s m) 6 = b % 256 := rfl
  have r7 : rd (enc a b c n s m) 7 = c % 256 := rfl
  have e12 : ((enc a b c n s m).take 12).drop 8 = le 4 n := rfl
  unfold dec
  rw [if_neg hl, if_neg (fun hh => hh ⟨rfl, rfl, rfl, rfl⟩), if_neg (fun hh => hh rfl), e24, e28, num_iv4, if_neg (fun hh => hh rfl), r5, r6, r7, e12,
    num_le 4 n n0 (by show n < 4294967296; omega), show a % 256 = a by omega, show b % 256 = b by omega, show c % 256 = c by omega, if_pos h]
/-- The bytes of a head, and what is left of them when some bits are turned over. -/
theorem inv_end {p c : List Int} {k i : Nat} {m : W} (h : Inv (shut p) c k i m) (hl : (shut p).length = 28) (hd : (dec (shut p)).2.2.2.2.2.2 = 0) : ((dec c).2.2.2.2.2.2 == 0) = decide (shut p = c) := by
  by_cases hm : m = 0#32
  · rw [h.same hm, hd]; simp
  · have hne : ¬ (dec c).2.2.2.2.2.2 = 0 := by
      intro e
      have e1 := shut_of c h.bytes (by rw [h.len, hl]) (dec_zero c e)
      have h2 := h.sum (~~~ 0#32)
      rw [e1, fold_shut, fold_shut] at h2
      have h3 : Tn (8 * (shut p).length - k) m = 0#32 := by
        have := congrArg (Tn 32 (BitVec.allOnes 32) ^^^ ·) h2
        simpa [← BitVec.xor_assoc] using this.symm
      exact hm (Tn_inj _ m 0#32 (by rw [h3, Tn_zero]))
    have h1 : ¬ (shut p = c) := fun e => hne (by rw [← e]; exact hd)
    rw [decide_eq_false h1, beq_eq_false_iff_ne]
    exact hne
def fin (k : Nat) (b c : List Int) : Option Bool := (head_Decode.f k c).bind fun bt => (keepsakeref01_Same.f k b c).bind fun t => some ((bt.2.2.2.2.2.2 == 0) == t)
theorem fin_true {p c : List Int} {k i : Nat} {m : W} (h : Inv (shut p) c k i m) (hl : (shut p).length = 28) (hd : (dec (shut p)).2.2.2.2.2.2 = 0) (n : Nat) (hn : 3000 ≤ n) : fin n (shut p) c = some true := by
  unfold fin
  rw [decode_f c h.bytes n (by omega) (by rw [h.len]; omega), Option.bind_some, Same.same_f (shut p) c (by omega) n (by omega), Option.bind_some, inv_end h hl hd]
  simp
theorem j2_fin (n : Nat) (b c : List Int) (y k i : Int) : keepsakelaw04_HeadBursts.j2 (n + 1) y true b c k i false = fin n b c := by
  rw [keepsakelaw04_HeadBursts.j2, if_neg (by simp)]
  simp only [if_true]
  rfl
theorem j2_turn (n : Nat) (b c : List Int) (y : Int) (k i : Nat) (hi : i < 32) (hk : k + i < 8 * c.length) (hc : c.length ≤ 200) (hbit : (Go.bits .and .u32 (shr .u32 y i) 1) = 1) :
    keepsakelaw04_HeadBursts.j2 (n + 1) y true b c k i true = keepsakelaw04_HeadBursts.l0 n y true b (turn c (k + i)) k ((i + 1 : Nat) : Int) := by
  have e1 : wrap64 ((k : Int) + i) = ((k + i : Nat) : Int) := by rw [Sums.w64 _ (by omega) (by omega)]; omega
  have e2 : wrap64 (Int.tdiv ((k + i : Nat) : Int) 8) = (((k + i) / 8 : Nat) : Int) := by rw [Int.tdiv_eq_ediv_of_nonneg (by omega), Sums.w64 _ (by omega) (by omega)]; omega
  have e3 : Int.tmod ((k + i : Nat) : Int) 8 = (((k + i) % 8 : Nat) : Int) := by rw [Int.tmod_eq_emod_of_nonneg (by omega)]; omega
  rw [keepsakelaw04_HeadBursts.j2, if_pos rfl, if_pos (by omega), if_pos hbit, e1, e2, e3, if_pos (by omega), if_pos (by omega), if_pos (by omega), Sums.w64 ((i : Int) + 1) (by omega) (by omega), Int.toNat_natCast]
  rfl
theorem j2_stay (n : Nat) (b c : List Int) (y : Int) (k i : Nat) (hi : i < 32) (hbit : ¬ (Go.bits .and .u32 (shr .u32 y i) 1) = 1) :
    keepsakelaw04_HeadBursts.j2 (n + 1) y true b c k i true = keepsakelaw04_HeadBursts.l0 n y true b c k ((i + 1 : Nat) : Int) := by
  rw [keepsakelaw04_HeadBursts.j2, if_pos rfl, if_pos (by omega), if_neg hbit, Sums.w64 ((i : Int) + 1) (by omega) (by omega)]
  rfl
theorem l0_all (p : List Int) (hl : (shut p).length = 28) (hd : (dec (shut p)).2.2.2.2.2.2 = 0) (y : Int) (k : Nat) (hk : k ≤ 224) (d : Nat) : ∀ (n i : Nat) (c : List Int) (m : W), i + d = 32 → 3000 + 2 * d + 2 ≤ n → Inv (shut p) c k i m →
    keepsakelaw04_HeadBursts.l0 n y true (shut p) c k i = some true := by
  induction d with
  | zero =>
    intro n i c m hi hn h
    obtain ⟨n, rfl⟩ : ∃ m, n = m + 1 + 1 := ⟨n - 2, by omega⟩
    rw [keepsakelaw04_HeadBursts.l0, if_neg (by omega), j2_fin]
    exact fin_true h hl hd n (by omega)
  | succ d ih =>
    intro n i c m hi hn h
    obtain ⟨n, rfl⟩ : ∃ m, n = m + 1 + 1 := ⟨n - 2, by omega⟩
    rw [keepsakelaw04_HeadBursts.l0, if_pos (by omega), Sums.w64 ((k : Int) + i) (by omega) (by omega)]
    by_cases hp : k + i < 224
    · have e : decide ((k : Int) + i < 224) = true := by rw [decide_eq_true_eq]; omega
      rw [e]
      by_cases hbit : (Go.bits .and .u32 (shr .u32 y i) 1) = 1
      · rw [j2_turn n (shut p) c y k i (by omega) (by rw [h.len, hl]; omega) (by rw [h.len, hl]; omega) hbit]
        exact ih n (i + 1) _ _ (by omega) (by omega) (h.turn (by omega) (by rw [hl]; omega))
      · rw [j2_stay n (shut p) c y k i (by omega) hbit]
        exact ih n (i + 1) _ _ (by omega) (by omega) h.next
    · have e : decide ((k : Int) + i < 224) = false := by rw [decide_eq_false_iff_not]; omega
      rw [e, j2_fin]
      exact fin_true h hl hd n (by omega)
theorem HeadBursts : keepsakelaw04_HeadBursts.Pure := by
  intro a0 a1 a2 s m q y h0 h1 h2 hs hm hq hy
  obtain ⟨a0l, a0h⟩ := u8_bd h0
  obtain ⟨a1l, a1h⟩ := u8_bd h1
  obtain ⟨a2l, a2h⟩ := u8_bd h2
  obtain ⟨q0, q1⟩ := u8_bd hq
  obtain ⟨s0, s1⟩ := u64_bd hs
  have hm : 0 ≤ m ∧ m < 4294967296 := by
    simp [Lit.wf, IntKind.min, IntKind.max, IntKind.signed, IntKind.bits] at hm
    omega
  refine ⟨300 + 4001, ?_⟩
  unfold keepsakelaw04_HeadBursts.f
  rw [awake, Option.bind_some, Int.tmod_eq_emod_of_nonneg a0l, Int.tmod_eq_emod_of_nonneg a1l, Int.tmod_eq_emod_of_nonneg a2l, Sums.w64 (a0 % 11) (by omega) (by omega), Sums.w64 (a1 % 65) (by omega) (by omega), Sums.w64 (a2 % 129) (by omega) (by omega), tot_f, Option.bind_some]
  have hc : canB (a0 % 11) (a1 % 65) (a2 % 129) (tot (a0 % 11) (a1 % 65) (a2 % 129)) = true := by
    unfold canB rightB
    simp
    omega
  generalize a0 % 11 = a at *
  generalize a1 % 65 = b at *
  generalize a2 % 129 = c at *
  generalize tot a b c = n at *
  rw [encode_ok hc _ (by omega), Option.bind_some, if_pos rfl, show (300 + 4001 : Nat) = 4300 + 1 from rfl, keepsakelaw04_HeadBursts.j0, if_neg (by rw [enc_len]; decide), Option.bind_some, List.nil_append, if_pos (by rw [enc_len]; decide), Sums.w64 q (by omega) (by omega), Int.tmod_eq_emod_of_nonneg q0]
  obtain ⟨k, hk⟩ := Int.eq_ofNat_of_zero_le (show 0 ≤ q % 224 by omega)
  rw [hk, show (0 : Int) = ((0 : Nat) : Int) from rfl]
  exact l0_all (pre a b c n s m) (enc_len a b c n s m) (dec_enc0 hc s0 (by omega) hm.1 hm.2) y k (by omega) 32 4300 0 _ 0#32 (by omega) (by omega) ⟨rfl, enc_bytes a b c n s m, fun _ _ => by simp, fun s => by rw [Tn_zero, BitVec.xor_zero]; rfl, fun _ => rfl⟩

end Go.Proofs.YtlinaijndlcfjaaDoor.Pure
