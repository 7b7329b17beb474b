/- A cartridge whose ROM differs within 32 bits in a row isn't parsed. -/
import Derived.Test.YtoiiphlhdnlniaaAx12
import Derived.Test.YtoiiphlhdnlniaaCart
import Derived.Test.YtoiiphlhdnlniaaFill
import Derived.Test.YtoiiphlhdnlniaaBurst
set_option linter.unusedVariables false
set_option linter.unusedSimpArgs false
namespace Go.Proofs.Ytoiiphlhdnlniaa.Pure
open Go.RowKit Go.Proofs.Ytoiiphlhdnlniaa.All Go.Proofs.Ytoiiphlhdnlniaa.Given Go.Proofs.Ytoiiphlhdnlniaa.Sums Go.Proofs.Ytoiiphlhdnlniaa.Lay Go.Proofs.Ytoiiphlhdnlniaa.Cart Go.Proofs.Ytoiiphlhdnlniaa.Plain Go.Proofs.Ytoiiphlhdnlniaa.Math Go.Proofs.Ytoiiphlhdnlniaa.Burst Go.Proofs.YtoiiphlhdnlniaaW.PrintWords Go.Proofs.YtoiiphlhdnlniaaW.PrintLast Go.Proofs.YtoiiphlhdnlniaaW.PrintMore

/-- The cartridge's bytes, with c in the ROM's place and r's sum. -/
def Y (r c : List Int) : List Int := lay 8 1 0 0 0 (sum4 (Given.iv (crc (headL 8 1 0 0 0 ++ r)))) c
theorem Y_len (r c : List Int) : (Y r c).length = c.length + 16 := by unfold Y sum4; exact lay_len ..
theorem Y_bytes (r c : List Int) (hc : Bytes c) : Bytes (Y r c) := bytes_lay 8 1 0 0 0 _ c hc
theorem Y_rd (r c : List Int) (i : Nat) : rd (Y r c) ((16 + i : Nat) : Int) = rd c (i : Int) := by
  unfold Y lay headL sum4 rd
  rw [Int.toNat_natCast, Int.toNat_natCast, show 16 + i = i + 16 by omega]
  rfl
theorem Y_set (r c : List Int) (i : Nat) (v : Int) : (Y r c).set (16 + i) v = Y r (c.set i v) := by
  rw [show 16 + i = i + 16 by omega]
  rfl
theorem Y_inj (r c c' : List Int) : Y r c = Y r c' ↔ c = c' := by
  unfold Y lay headL sum4
  simp
theorem crc_head (h c d : List Int) : crc (h ++ c) = crc (h ++ d) ↔ fold (fold (~~~ 0#32) h) c = fold (fold (~~~ 0#32) h) d := by
  unfold crc
  rw [fold_append, fold_append]
  constructor
  · intro e
    have := congrArg (~~~ ·) e
    simpa using this
  · intro e
    rw [e]
theorem inv_end {r c : List Int} {k i : Nat} {m : W} (h : Inv r c k i m) (hl : r.length = 256) :
    (cp (Y r c)).2.2.2.2.2.2 = if r = c then 0 else 8 := by
  have hs0 := Given.iv_lo (crc (headL 8 1 0 0 0 ++ r))
  have hs1 := Given.iv_hi (crc (headL 8 1 0 0 0 ++ r))
  have hn : num (sum4 (Given.iv (crc (headL 8 1 0 0 0 ++ r)))) = Given.iv (crc (headL 8 1 0 0 0 ++ r)) := by rw [sum4_le]; exact num_le 4 _ hs0 hs1
  have hcl : c.length = 256 := by rw [h.len, hl]
  have e1 : (1 : Int) * sz 8 = 256 := rfl
  unfold Y
  unfold sum4 at hn ⊢
  rw [cp_lay 8 1 0 0 0 _ _ _ _ c (by decide), hn, if_neg (by rw [hcl, e1]; decide), if_neg (by rw [hcl, e1]; decide)]
  by_cases hm : m = 0#32
  · have e := h.same hm
    rw [e, if_pos rfl, if_pos rfl]
  · have hne : ¬ (Given.iv (crc (headL 8 1 0 0 0 ++ r)) = Given.iv (crc (headL 8 1 0 0 0 ++ c))) := by
      intro e
      have e2 := (crc_head _ _ _).1 (iv_inj _ _ e)
      rw [h.sum (fold (~~~ 0#32) (headL 8 1 0 0 0))] at e2
      generalize fold (fold (~~~ 0#32) (headL 8 1 0 0 0)) r = u at e2
      have h3 : Tn (8 * r.length - k) m = 0#32 := by
        have := congrArg (u ^^^ ·) e2
        simpa [← BitVec.xor_assoc] using this.symm
      exact hm (Tn_inj _ m 0#32 (by rw [h3, Tn_zero]))
    have h1 : ¬ (r = c) := fun e => hne (by rw [← e])
    rw [if_neg hne, if_neg h1]
def fin (k : Nat) (b c : List Int) : Option Bool := (cart_Parse.f c).bind fun bt => (keepsakeref01_Same.f k b c).bind fun t => if ((bt.2.2.2.2.2.2 == 0) == t) = true then some ((bt.2.2.2.2.2.2 == 8) == (!t)) else none
theorem fin_true {r c : List Int} {k i : Nat} {m : W} (h : Inv r c k i m) (hl : r.length = 256) (n : Nat) (hn : 3000 ≤ n) : fin n (Y r r) (Y r c) = some true := by
  unfold fin
  rw [parse_f (Y r c) (Y_bytes r c h.bytes) (by rw [Y_len, h.len]; omega), Option.bind_some, Same.same_f (Y r r) (Y r c) (by rw [Y_len]; omega) n (by rw [Y_len]; omega), Option.bind_some, inv_end h hl]
  by_cases e : r = c
  · rw [if_pos e, decide_eq_true ((Y_inj r r c).2 e)]; rfl
  · rw [if_neg e, decide_eq_false (fun x => e ((Y_inj r r c).1 x))]; rfl
theorem j2_fin (n : Nat) (b c : List Int) (y k i : Int) : keepsakelaw21_CartBursts.j2 (n + 1) y true b c k i false = fin n b c := by
  rw [keepsakelaw21_CartBursts.j2, if_neg (by simp)]
  simp only [if_true]
  rfl
theorem j2_turn (n : Nat) (b r c : List Int) (y : Int) (k i : Nat) (hi : i < 32) (hk : k + i < 8 * c.length) (hc : c.length ≤ 300) (hbit : (Go.bits .and .u32 (shr .u32 y i) 1) = 1) :
    keepsakelaw21_CartBursts.j2 (n + 1) y true b (Y r c) k i true = keepsakelaw21_CartBursts.l0 n y true b (Y r (turn c (k + i))) k ((i + 1 : Nat) : Int) := by
  have e1 : wrap64 ((k : Int) + i) = ((k + i : Nat) : Int) := by rw [Sums.w64 _ (by omega) (by omega)]; omega
  have e2 : wrap64 (16 + wrap64 (Int.tdiv ((k + i : Nat) : Int) 8)) = ((16 + (k + i) / 8 : Nat) : Int) := by
    rw [Int.tdiv_eq_ediv_of_nonneg (by omega), Sums.w64 (((k + i : Nat) : Int) / 8) (by omega) (by omega), Sums.w64 _ (by omega) (by omega)]; omega
  have e3 : Int.tmod ((k + i : Nat) : Int) 8 = (((k + i) % 8 : Nat) : Int) := by rw [Int.tmod_eq_emod_of_nonneg (by omega)]; omega
  have e4 := Y_len r c
  rw [keepsakelaw21_CartBursts.j2, if_pos rfl, if_pos (by omega), if_pos hbit, e1, e2, e3, if_pos (by omega), if_pos (by omega), if_pos (by omega), Sums.w64 ((i : Int) + 1) (by omega) (by omega), Int.toNat_natCast, Y_rd, Y_set]
  rfl
theorem j2_stay (n : Nat) (b c : List Int) (y : Int) (k i : Nat) (hi : i < 32) (hbit : ¬ (Go.bits .and .u32 (shr .u32 y i) 1) = 1) :
    keepsakelaw21_CartBursts.j2 (n + 1) y true b c k i true = keepsakelaw21_CartBursts.l0 n y true b c k ((i + 1 : Nat) : Int) := by
  rw [keepsakelaw21_CartBursts.j2, if_pos rfl, if_pos (by omega), if_neg hbit, Sums.w64 ((i : Int) + 1) (by omega) (by omega)]
  rfl
theorem l0_all (r : List Int) (hl : r.length = 256) (y : Int) (k : Nat) (hk : k ≤ 2048) (d : Nat) : ∀ (n i : Nat) (c : List Int) (m : W), i + d = 32 → 3000 + 2 * d + 2 ≤ n → Inv r c k i m →
    keepsakelaw21_CartBursts.l0 n y true (Y r r) (Y r c) k i = some true := by
  induction d with
  | zero =>
    intro n i c m hi hn h
    obtain ⟨n, rfl⟩ : ∃ m, n = m + 1 + 1 := ⟨n - 2, by omega⟩
    rw [keepsakelaw21_CartBursts.l0, if_neg (by omega), j2_fin]
    exact fin_true h hl n (by omega)
  | succ d ih =>
    intro n i c m hi hn h
    obtain ⟨n, rfl⟩ : ∃ m, n = m + 1 + 1 := ⟨n - 2, by omega⟩
    rw [keepsakelaw21_CartBursts.l0, if_pos (by omega), Sums.w64 ((k : Int) + i) (by omega) (by omega)]
    by_cases hp : k + i < 2048
    · have e : decide ((k : Int) + i < 2048) = true := by rw [decide_eq_true_eq]; omega
      rw [e]
      by_cases hbit : (Go.bits .and .u32 (shr .u32 y i) 1) = 1
      · rw [j2_turn n (Y r r) r c y k i (by omega) (by rw [h.len, hl]; omega) (by rw [h.len, hl]; omega) hbit]
        exact ih n (i + 1) _ _ (by omega) (by omega) (h.turn (by omega) (by rw [hl]; omega))
      · rw [j2_stay n (Y r r) (Y r c) y k i (by omega) hbit]
        exact ih n (i + 1) _ _ (by omega) (by omega) h.next
    · have e : decide ((k : Int) + i < 2048) = false := by rw [decide_eq_false_iff_not]; omega
      rw [e, j2_fin]
      exact fin_true h hl n (by omega)
theorem CartBursts : keepsakelaw21_CartBursts.Pure := by
  intro l q y hl _ hw hq hy
  have hb := bytes_of_wf hw
  obtain ⟨q0, q1⟩ := u16_bd hq
  refine ⟨8001, ?_⟩
  unfold keepsakelaw21_CartBursts.f
  rw [awake, Option.bind_some]
  by_cases h40 : (l.length : Int) > 40
  · rw [if_pos h40]
  obtain ⟨r, hf, hr, hbr⟩ := fill_f l hb (by omega) 256 (by omega) 8001 (by omega)
  rw [show ((256 : Nat) : Int) = 256 from rfl] at hf
  obtain ⟨e1, e2⟩ := cp_mk 8 1 0 0 0 r (by decide) (by rw [hr]; decide)
  have e0 : (mk 8 1 0 0 0 r).2 = 0 := by rw [e1]
  have ey : (mk 8 1 0 0 0 r).1 = Y r r := by rw [e1]; rfl
  have hyl : (Y r r).length = 272 := by rw [Y_len, hr]
  rw [if_neg h40, hf, Option.bind_some, make_f 8 1 0 0 0 r hbr (by omega), Option.bind_some, if_pos e0, ey, show (8001 : Nat) = 8000 + 1 from rfl, keepsakelaw21_CartBursts.j0, if_neg (by rw [hyl]; decide), Option.bind_some, List.nil_append, if_pos (by rw [hyl]; decide),
    Sums.w64 q (by omega) (by omega), Int.tmod_eq_emod_of_nonneg q0]
  obtain ⟨k, hk⟩ := Int.eq_ofNat_of_zero_le (show 0 ≤ q % 2048 by omega)
  rw [hk, show (0 : Int) = ((0 : Nat) : Int) from rfl]
  exact l0_all r hr y k (by omega) 32 8000 0 r 0#32 (by omega) (by omega) ⟨rfl, hbr, fun _ _ => by simp, fun s => by rw [Tn_zero, BitVec.xor_zero], fun _ => rfl⟩

end Go.Proofs.Ytoiiphlhdnlniaa.Pure
