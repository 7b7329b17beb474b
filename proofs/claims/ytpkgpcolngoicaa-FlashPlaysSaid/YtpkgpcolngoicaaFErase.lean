/- What erasing leaves: plain. -/
import Derived.Test.YtpkgpcolngoicaaLFlashPrograms
set_option linter.unusedVariables false
set_option linter.unusedSimpArgs false
namespace Go.Proofs.Ytpkgpcolngoicaa.Given
open Go.RowKit Go.Proofs.Ytpkgpcolngoicaa.All Go.Proofs.Ytpkgpcolngoicaa.Sep Go.Proofs.YtpkgpcolngoicaaW.PrintWords Go.Proofs.YtpkgpcolngoicaaW.PrintLast Go.Proofs.YtpkgpcolngoicaaW.PrintMore

/-- What is erased is 255, the rest is as it was. -/
theorem wrote_at (s : FS) (hk : s.wk ≠ 1) (f : Nat) (hf : s.wf = f) (k i : Nat) (hi : i < s.data.length) : (wrote s k)[i]? = some (if f ≤ i ∧ i < f + k then 255 else rd s.data i) := by
  induction k with
  | zero =>
    rw [if_neg (by omega)]
    show s.data[i]? = _
    unfold rd
    rw [Int.toNat_natCast, List.getD_eq_getElem?_getD, List.getElem?_eq_getElem hi]
    rfl
  | succ k ih =>
    rw [wrote, show (s.wf + (k : Int)).toNat = f + k by omega]
    have e : wroteV s (rd (wrote s k) (s.wf + (k : Int))) = 255 := if_neg hk
    rw [e]
    by_cases h : f + k = i
    · subst h
      rw [List.getElem?_set_self (by rw [wrote_len]; exact hi), if_pos (by omega)]
    · rw [List.getElem?_set_ne h, ih]
      congr 1
      by_cases h2 : f ≤ i ∧ i < f + k
      · rw [if_pos h2, if_pos (by omega)]
      · rw [if_neg h2, if_neg (by omega)]
theorem rd_at {xs : List Int} {i : Nat} {y : Int} (h : xs[i]? = some y) : rd xs (i : Int) = y := by
  unfold rd
  rw [Int.toNat_natCast, List.getD_eq_getElem?_getD, h]
  rfl
theorem sector_good {s : FS} (h : Idle s) {n : Int} (hn : (s.data.length : Int) = 256 * n) (a : Int) : Good (eraS s (place s.data a / 256 * 256) 256 100) := by
  have := h.n
  obtain ⟨h0, h1⟩ := place_bd s.data a (by omega)
  refine ⟨by show (0 : Int) ≤ 100; omega, by show (100 : Int) ≤ 200; omega, by show 0 ≤ place s.data a / 256 * 256; omega, by show (0 : Int) ≤ 256; omega, ?_⟩
  show place s.data a / 256 * 256 + 256 ≤ (s.data.length : Int)
  omega
theorem whole_good {s : FS} (h : Idle s) : Good (eraS s 0 s.data.length 200) := by
  refine ⟨by show (0 : Int) ≤ 200; omega, by show (200 : Int) ≤ 200; omega, by show (0 : Int) ≤ 0; omega, by show (0 : Int) ≤ s.data.length; omega, ?_⟩
  show (0 : Int) + s.data.length ≤ (s.data.length : Int)
  omega
theorem fill_255_l0 (n : Nat) (hn : n ≤ 100000) (d : Nat) : ∀ (i : Nat) (out : List Int), i + d = n → out.length = n → (∀ j, j < i → out[j]? = some 255) → keepsakeref10_Fill.l0 (d + 1) [255] n out i = some (List.replicate n 255) := by
  induction d with
  | zero =>
    intro i out hi ho hj
    rw [keepsakeref10_Fill.l0, if_neg (by omega)]
    congr 1
    refine List.ext_getElem? fun j => ?_
    by_cases h : j < n
    · rw [hj j (by omega), List.getElem?_replicate, if_pos h]
    · rw [List.getElem?_eq_none (by omega), List.getElem?_eq_none (by simp; omega)]
  | succ d ih =>
    intro i out hi ho hj
    have hb : ([255] : List Int).length = 1 := rfl
    have e : Int.tmod (i : Int) (([255] : List Int).length : Int) = 0 := by rw [hb, Int.tmod_eq_emod_of_nonneg (by omega)]; omega
    rw [keepsakeref10_Fill.l0, if_pos (by omega), if_pos (by rw [hb]; decide), if_neg (by rw [hb]; decide), e, if_pos (by first | omega | (rw [hb]; decide)), if_pos (by first | omega | (rw [hb]; decide)), if_pos (by first | omega | (rw [hb]; decide)), if_pos (by first | omega | (rw [hb]; decide)), w64 _ (by omega) (by omega)]
    refine ih (i + 1) _ (by omega) (by rw [List.length_set]; exact ho) (fun j hj' => ?_)
    rw [Int.toNat_natCast]
    by_cases h : i = j
    · subst h
      rw [List.getElem?_set_self (by omega)]
      rfl
    · rw [List.getElem?_set_ne h]
      exact hj j (by omega)
theorem fill_255n (n : Int) (h0 : 1 ≤ n) (h1 : n ≤ 4) : fillOf [255] (256 * n) = List.replicate (256 * n).toNat 255 := by
  obtain ⟨m, hm⟩ : ∃ m : Nat, 256 * n = m := ⟨(256 * n).toNat, by omega⟩
  rw [hm, Int.toNat_natCast]
  have h := fill_255_l0 m (by omega) m 0 (List.replicate m 0) (by omega) (by simp) (fun j hj => absurd hj (Nat.not_lt_zero _))
  have e : keepsakeref10_Fill.f ((m : Int).toNat + 1) [255] m = some (List.replicate m 255) := by
    unfold keepsakeref10_Fill.f
    rw [if_pos (by omega), if_pos (by omega), Int.toNat_natCast]
    exact h
  unfold fillOf
  rw [e]
  rfl
theorem era_data (s : FS) (f m : Nat) (x fi mi : Int) (hf : (f : Int) = fi) (hm : (m : Int) = mi) (i : Nat) (hi : i < s.data.length) : (doneS (eraS s fi mi x)).data[i]? = some (if f ≤ i ∧ i < f + m then 255 else rd s.data i) := by
  subst hf hm
  show (wrote (eraS s (f : Int) (m : Int) x) ((m : Int)).toNat)[i]? = _
  rw [Int.toNat_natCast]
  exact wrote_at (eraS s (f : Int) (m : Int) x) (by show (2 : Int) ≠ 1; decide) f rfl m i hi
theorem era_len (s : FS) (x fi mi : Int) : (doneS (eraS s fi mi x)).data.length = s.data.length := by
  show (wrote (eraS s fi mi x) mi.toNat).length = _
  rw [wrote_len]
  rfl
/-- A sector erased: each byte. -/
theorem sector_done {s : FS} (p : Nat) (hp : place s.data (p : Int) = p) (x : Int) (i : Nat) (hi : i < s.data.length) : rd (doneS (eraS s (place s.data (p : Int) / 256 * 256) 256 x)).data (i : Int) = if i / 256 = p / 256 then 255 else rd s.data i := by
  rw [rd_at (era_data s (p / 256 * 256) 256 x (place s.data (p : Int) / 256 * 256) 256 (by rw [hp]; omega) rfl i hi)]
  by_cases h2 : i / 256 = p / 256
  · rw [if_pos h2, if_pos (by omega)]
  · rw [if_neg h2, if_neg (by omega)]
/-- All erased. -/
theorem whole_done (s : FS) (x : Int) : (doneS (eraS s 0 s.data.length x)).data = List.replicate s.data.length 255 := by
  refine List.ext_getElem? fun i => ?_
  by_cases hi : i < s.data.length
  · rw [era_data s 0 s.data.length x 0 s.data.length rfl rfl i hi, if_pos (by omega), List.getElem?_replicate, if_pos hi]
  · rw [List.getElem?_eq_none (by rw [era_len]; exact Nat.le_of_not_lt hi), List.getElem?_eq_none (by simp; omega)]
end Go.Proofs.Ytpkgpcolngoicaa.Given
